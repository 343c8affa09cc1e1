import Derived.Test.YtibjocmpkoepoaaGreatB4
set_option linter.all false
open Bool renaming false_eq_true→j5,or_eq_false_iff→D5,true→W,false→F
open List renaming append_assoc→K2,drop_of_length_le→n5,flatMap_cons→O7,getElem?_append_left→y8,getElem?_append_right→x7,getElem?_eq_getElem→n9,getElem_of_mem→L5,length_singleton→E4,map_cons→G4,mem_append→N9,pairwise_cons→O5,replicate_succ→O8,set_eq_take_append_cons_drop→P6,take_of_length_le→A4,length→O
open Nat renaming le_of_ble_eq_true→j6,le_refl→k9,le_trans→s5,lt_or_ge→A7,mul_le_mul_right→I8
open Option renaming map_some→C6,some→J,none→K
namespace Go.A5
def th (x:Int):List Int->List Int
 |[]=>[x]
 |y::l=>if x<=y then x::y::l else y::th x l
def bz:List Int->List Int
 |[]=>[]
 |x::l=>th x (bz l)
def kK :List c7->Option (List Int)
 |[]=>J []
 | .d (.int .i64 n)::r=>match kK r with
  |some xs=>J (n::xs)
  |none=>K
 |_=>K
def EV:List c7->j9->J2->Option (c7×j9)
 |[.N7,.d (.int .i64 n)],H,_=>if 0<=n/\n<=1000000 then J (.own 1 0 [],H) else K
 |_,_,_=>K
def EW:List c7->j9->J2->Option (c7×j9)
 |[.s6 id 1 lo len],H,l=>if l.may id&&Nat.ble len 1000000 then match rd H id lo len with
   |some vs=>match kK vs with
    |some xs=>match wr H id lo ((bz xs).map λn=> .d (.int .i64 n)) with
     |some H1=>J (.tuple [],H1)
     |none=>K
    |none=>K
   |none=>K
  else K
 |[.d (.slice 0 _)],H,_=>J (.tuple [],H)
 |_,_,_=>K
def aL:List Int->List Int
 |[]=>[]
 |[x]=>[x]
 |x::y::l=>if x=y then aL (y::l) else x::aL (y::l)
def mP:List c7->j9->J2->Option (c7×j9)
 |[.s6 id 1 lo len],H,l=>if l.may id&&Nat.ble len 1000000 then match rd H id lo len with
   |some vs=>match kK vs with
    |some xs=>match wr H id lo ((aL xs++List.replicate (O xs - O (aL xs)) 0).map λn=> .d (.int .i64 n)) with
     |some H1=>J (.s6 id 1 lo (O (aL xs)),H1)
     |none=>K
    |none=>K
   |none=>K
  else K
 |_,_,_=>K
section
variable {A:Prog} {l:J2} {b:Nat}
variable {dr:Bool} {j8 ops:List o3} {T:List c7} {H:j9} {n:Nat} {rl:List c7} {l6:List Touch} {Q:List c7->j9->List c7->Prop}
def Ex.gw {ops:List o3}{draw:Bool}{c:y4}{d e:p7}{T:List c7}{H:j9}{Q:J6->St->Prop}(t:Bool)
  (h:Rn A l b ops draw T H λT' H' L=>T' =T/\H' =H/\∃t',G7 T' L c= .d (.bool t')/\t' =t)
  (h2:t=W->Ex A l b d ⟨T,H⟩ Q) (h3:t=F->Ex A l b e ⟨T,H⟩ Q):Ex A l b (.test ops draw c d e) ⟨T,H⟩ Q:=by
 obtain ⟨r,N,⟨e1,e2,t',e3,rfl⟩,h⟩:=h;subst e1;subst e2;exact Ex.test ⟨r,N,⟨t',e3,h2,h3⟩,h⟩
def Ex.nT {c:p7}{T T2:List c7}{H:j9}{Q:J6->St->Prop}(h:Ex A l b c ⟨T2,H⟩ Q)(hT:T=T2:=by simp only [U7]<;>rfl):Ex A l b c ⟨T,H⟩ Q:=hT ▸ h
def Pf.run {f:FuncId}{af:r7}{args:List c7}{v:c7}(T:List c7)(hp:A.dR f=K)(hf:A.fn f=J af)(hn:O args=af.nparams)
  (hT:args++List.replicate (O af.names - O args) .any=T) (h:Ex A R5 0 af.body ⟨T,[]⟩ λx s=>∃w,Z4 af 0 (J (x,s))=J (w,[])/\w=v):Pf A f args v :=
 Pf.aG7 T hp hf hn hT (h.mono λ_ _ ⟨_,h1,h2⟩=>h2 ▸ h1)
theorem uU {α:Type}:∀{l:List α} {j:Nat} {v:α},l[j]? =J v->l.set j v=l
 |[],_,_,_=>rfl
 |a::l,0,v,h=>M
 |a::l,j+1,v,h=>by simp at h;simp [uU h]
def Rx.VW {pre:List c7}{op:s8}{j:Nat}{want:Bool}{u:List Nat}(h:pre[j]? =J (.tuple []))(hk:G9 ⟨T,H,pre++ .any::List.replicate (O ops) .any,l6⟩ op=F)(ha:op.y7=F)
  (h2:Rx A l b dr j8 ops T H (pre++[.tuple []]) l6 Q):Rx A l b dr j8 (⟨op,K,J (j,want),u⟩::ops) T H pre l6 Q:=by
 refine Rx.step (N1:=0) (rs:=[]) hk ha (λn _=>?_) (λrs=>by simp [G6]) h2
 grind [y3,y9,lM,put,K4,s7,E2]
instance:Inhabited X0:=⟨⟨0,0,0,[],0⟩⟩
instance:Inhabited U4:=⟨⟨[],0,[],[],[],0,0⟩⟩
instance:Inhabited fR:=⟨⟨[],[],0,0⟩⟩
instance:Inhabited zW:=⟨⟨[],[]⟩⟩
instance:Inhabited zA:=⟨⟨[],0,[]⟩⟩
instance:Inhabited Vw:=⟨⟨[],0,[],[],[],[],[],F,[]⟩⟩
instance:Inhabited mg:=⟨⟨[],[],0⟩⟩
instance:Inhabited mb:=⟨⟨[],[],0,0,0,0⟩⟩
instance:Inhabited oF:=⟨⟨[],[],0,0⟩⟩
instance:Inhabited oo:=⟨⟨[],[],0⟩⟩
instance:Inhabited rA:=⟨⟨[],[]⟩⟩
instance:Inhabited ru:=⟨⟨[],[],0⟩⟩
@[irreducible] def Y {α:Type} [Inhabited α] (l:List α) (i:Nat):α:=l[i]?.getD default
theorem F9 {α:Type} [Inhabited α] {l:List α}{i:Nat}(h:i<O l):Y l i=l[i]:=by simp [Y,h]
def T8 {α:Type} [Inhabited α] (a:α)(l:List α):Y (a::l) 0=a:=by simp [Y]
def gp {α:Type} [Inhabited α] (a:α)(l:List α)(i:Nat):Y (a::l) (i+1)=Y l i:=by simp [Y]
theorem H6 {α:Type} [Inhabited α] {l:List α}{i:Nat}(h:i<O l):Y l i∈l:=by grind [F9,List.getElem_mem]
theorem D8 {α:Type} [Inhabited α] {l:List α}{i:Nat}(h:i<O l):l.drop i=Y l i::l.drop (i+1):=by grind [F9,List.drop_eq_getElem_cons]
theorem H8 {α:Type} [Inhabited α] {l:List α}{i:Nat}(h:i<O l):l.take (i+1)=l.take i++[Y l i]:=by rw [F9 h,List.take_append_getElem]
def lV {α:Type} [Inhabited α] {l:List α}{i j:Nat}(h:j<i)(hi:i<=O l):(l.take i).drop j=Y l j::(l.take i).drop (j+1):=by
 grind [D8,F9]
@[irreducible] def F0 (a b:Int):Bool:=decide (a<b)
@[irreducible] def aH (a b:Int):Bool:=decide (a<=b)
@[irreducible] def x5 (a b:Int):Bool:=a==b
@[irreducible] def O4 (a b:List UInt8):Bool:=a==b
theorem A1 (a b:Int):F0 a b=decide (a<b):=by unfold F0;rfl
theorem x8 (a b:Int):aH a b=decide (a<=b):=by unfold aH;rfl
theorem o9 (a b:Int):x5 a b=(a==b):=by unfold x5;rfl
theorem I9 (a b:List UInt8):O4 a b=(a==b):=by unfold O4;rfl
def C8 {a b:Int}(h:F0 a b=W):a<b:=by grind [A1]
def D4 {a b:Int}(h:F0 a b=F):b<=a:=by grind [A1]
def kM {a b:Int}(h:aH a b=W):a<=b:=by grind [x8]
def rR {a b:Int}(h:aH a b=F):b<a:=by grind [x8]
theorem br {a b:Int}(h:x5 a b=W):a=b:=by grind [o9]
def ot {a b:Int}(h:x5 a b=F):a≠b:=by grind [o9]
theorem aO4 {a b:List UInt8}(h:O4 a b=W):a=b:=by grind [I9]
theorem ag0 {a b:List UInt8}(h:O4 a b=F):a≠b:=by grind [I9]
def s4 (n a b:Int):Bool:=aH a n&&aH n b
def Ry (A:Prog)(l:J2)(b:Nat)(dr:Bool)(j8 ops:List o3)(T:List c7)(H:j9)(n:Nat)(rl:List c7)(l6:List Touch)(Q:List c7->j9->List c7->Prop):Prop :=
 O rl=n->Rx A l b dr j8 ops T H rl.reverse l6 Q
def lk (n:Nat)(rl:List c7)(j:Nat):Option c7:=match Nat.ble (j+1) n with
 |true=>rl[n - (j+1)]?
 |false=>K
theorem dD (hn:O rl=n)(j:Nat):rl.reverse[j]? =lk n rl j:=by
 grind [lk,j6,Nat.ble_eq_true_of_le,List.getElem?_eq_none]
def Ms (T:List c7)(n:Nat)(rl:List c7):y4->Option c7
 | .slot s=>T[s]?
 | .loc j=>lk n rl j
 | .const v=>J v
def Oq (T:List c7)(n:Nat)(rl:List c7)(x:y4)(v:c7):Prop:=Ms T n rl x=J v/\v.K9=v
def Oq.op {x:y4}{v:c7}(h:Oq T n rl x v)(hn:O rl=n):Op T rl.reverse x v:=by
 obtain ⟨h1,h2⟩:=h;refine ⟨?_,h2⟩;cases x with
 |slot s=>exact h1
 |loc j=>simp [opv,dD hn];exact h1
 |const u=>exact h1
def rq (T:List c7)(n:Nat)(rl:List c7):y4->c7
 | .const v=>v.Tm
 |x=>((Ms T n rl x).getD .any).K9
theorem Oq.rq {x:y4}{v:c7}(h:Oq T n rl x v):A5.rq T n rl x=v:=by
 obtain ⟨h1,h2⟩:=h;cases x with
 |const u=>simp_all [Ms,Option.some.injEq,A5.rq,TZ]
 |_=>grind [A5.rq]
def Q0 (hn:O rl=n)(m:Nat)(x:y4):A5.G7 T (rl.reverse++ .any::List.replicate m .any) x=rq T n rl x:=by
 cases x with
 |slot s=>rfl
 |const v=>rfl
 |loc j =>
  grind [A5.G7,rq,Ms,dD,A7,y8,x7,List.getElem?_eq_none,List.getElem?_cons_succ]
def Ry.to {v:c7}(h:Ry A l b dr j8 ops T H (n+1) (v::rl) l6 Q)(hn:O rl=n):Rx A l b dr j8 ops T H (rl.reverse++[v]) l6 Q:=by
 have:=h (by simp [hn]);simp_all
def Rn.text {T:List c7}{H:j9}(h:Ry A l b F ops ops T H 0 [] [] Q):Rn A l b ops F T H Q:=Rn.Zr (h rfl)
def Rn.draw {T:List c7}{H:j9}(h:Ry A l b W ops ops T H 0 [] [] Q)(hp:sV ops=W:=by rfl):Rn A l b ops W T H Q:=Rn.Zq hp (h rfl)
theorem Ry.pure {op:s8}{u:List Nat}{v:c7}{rs:List Nat}(hE:op.B7=F)(hp:k8 (rq T n rl) H op=J (v,rs))
  (h2:Ry A l b dr j8 ops T H (n+1) (v::rl) l6 Q):Ry A l b dr j8 (⟨op,K,K,u⟩::ops) T H n rl l6 Q:=λhn=>by
 refine Rx.pure (rs:=rs) hE (λm=>?_) (h2.to hn);rw [show A5.G7 T (rl.reverse++ .any::List.replicate m .any)=rq T n rl from funext λx=>Q0 hn m x];exact hp
def Ry.tF {op:s8}{u:List Nat}{v:c7}{rs:List Nat}{s:Nat}(hE:op.B7=F)(hp:k8 (rq T n rl) H op=J (v,rs))(hv:v.K9=v)(hm:op.y7=F)(hs:T[s]?.isSome=W)
  (h2:Ry A l b dr j8 ops (T.set s v) H (n+1) (v::rl) (.slot s::l6) Q):Ry A l b dr j8 (⟨op,J s,K,u⟩::ops) T H n rl l6 Q:=λhn=>by
 have hs:s<O T:=by
  simp_all
 have XS:∀x,op≠ .S0 x:=by
  grind [k8]
 refine Rx.step (N1:=0) (rs:=rs) ?_ hm (λm _=>?_) (fu s l6) (h2.to hn)
 .cases op<;>first|rfl|grind [s8.B7]
 .have h3:B8 (K7 A m l b) j8 K (O rl.reverse) op ⟨T,H,rl.reverse++ .any::List.replicate (O ops) .any,l6⟩=J (⟨T,H,rl.reverse++v::List.replicate (O ops) .any,l6⟩,rs):=by
   have h4:k8 (A5.G7 T (rl.reverse++ .any::List.replicate (O ops) .any)) H op=J (v,rs):=by
    rw [show A5.G7 T (rl.reverse++ .any::List.replicate (O ops) .any)=rq T n rl from funext λx=>Q0 hn _ x];exact hp
   simp_all [absurd,B8,j5,if_false,put,K4,s8.B7]
  have h5:A5.F6 ⟨T,H,rl.reverse++v::List.replicate (O ops) .any,l6⟩ (.loc (O rl.reverse))=(v,⟨T,H,rl.reverse++v::List.replicate (O ops) .any,l6⟩):=by
   grind [A5.F6,c7.K9,A5.G7]
  simp_all [y3,y9,s7,E2,if_true]
def Ry.fork {j:Nat}{w:Bool}(h:lk n rl j=J (.d (.bool w)))(hj:Nat.ble (j+1) n=W)(h1:w=W->Ry A l b dr j8 ops T H n (rl.set (n - (j+1)) (.d (.bool W))) l6 Q)
  (h2:w=F->Ry A l b dr j8 ops T H n (rl.set (n - (j+1)) (.d (.bool F))) l6 Q):Ry A l b dr j8 ops T H n rl l6 Q:=by
 simp [lk,hj] at h;cases w with
 |true=>simp_all [uU]
 |false=>simp_all [uU]
theorem Fl {α:Type}{enc:α->List Data}{sz:Nat}(hs:∀a,O (enc a)=sz):∀(l:List α) (i:Nat),(l.flatMap enc).take (i * sz)=(l.take i).flatMap enc
 |[],i=>U
 |a::l,0=>U
 |a::l,i+1=>by
  have h1:=Fl hs l i;simp_all [O7,List.take_succ_cons,List.take_append,Nat.succ_mul,Nat.add_sub_cancel,A4]
theorem bt {α:Type}{enc:α->List Data}{sz:Nat}(hs:∀a,O (enc a)=sz):∀(l:List α),O (l.flatMap enc)=O l * sz
 |[]=>U
 |a::l=>by simp [hs a,bt hs l,Nat.succ_mul,Nat.add_comm]
theorem mD {α:Type}{enc:α->List Data}{sz:Nat}(hs:∀a,O (enc a)=sz):∀(l:List α) (i:Nat),(l.flatMap enc).drop (i * sz)=(l.drop i).flatMap enc
 |[],i=>U
 |a::l,0=>U
 |a::l,i+1=>by
  have h1:=mD hs l i;simp_all [O7,List.drop_succ_cons,List.drop_append,Nat.succ_mul,Nat.add_sub_cancel,List.drop_eq_nil_of_le]
def BW {α:Type}{enc:α->List Data}{sz:Nat}(hs:∀a,O (enc a)=sz)(l:List α)(lo hi:Nat)(h1:lo<=hi)(h2:hi<=O l) :
  Data.slice ((hi:Int) - lo).toNat (((l.flatMap enc).take (hi * sz)).drop (lo * sz))=y6 enc ((l.take hi).drop lo):=by
 simp_all [Fl,mD,y6]
def B9 {α:Type}(sz:Nat)(enc:α->List Data)(xs:List α):c7:= .own sz (O xs) (xs.flatMap enc)
def Al {j:Nat}(hn:O rl=n)(hb:Nat.ble (j+1) n=W)(v:c7):rl.reverse.set j v=(rl.set (n - (j+1)) v).reverse:=by
 have hb' :j+1<=O rl:=M
 apply List.ext_getElem?;intro i
 rcases A7 i (O rl) with hi|hi
 .grind
 simp_all
def Rx.Yj {pre:List c7}{j sz bytes:Nat}{y:y4}{u:List Nat}{len m:Nat}{cells new:List Data}{vy:c7}{cs:List c7}
  (hj:pre[j]? =J (.own sz len cells)) (hy:∀m,A5.G7 T (pre++ .any::List.replicate m .any) y=vy) (hc:C7 H sz vy=J (m,cs)) (hd:L1 cs=J new) (hr:roomFor (len+m) bytes=W) (h0:0<sz)
  (h2:Rx A l b dr j8 ops T H (pre.set j (.d (.slice len cells))++[.own sz (len+m) (cells++new)]) l6 Q):Rx A l b dr j8 (⟨.append sz bytes F (.loc j) y,K,K,u⟩::ops) T H pre l6 Q:=by
 have hjl:j<O pre:=by
  grind
 have hL:∀r:List c7,(pre++ .any::r)[j]? =J (.own sz len cells):=λr=>by grind
 have an8:A5.G7 T (pre++ .any::List.replicate (O ops) .any) (.loc j)= .d (.slice len cells):=by simp [A5.G7,hL,c7.K9]
 have hl:O (pre.set j (.d (.slice len cells)))=O pre:=U
 have h4:∀(a v:c7) (r:List c7),(pre.set j (.d (.slice len cells))++a::r).set (O pre) v=pre.set j (.d (.slice len cells))++v::r:=λa v r=>M
 refine Rx.stepG (N1:=0) (rs:=[]) hl (by simp_all [G9]) rfl (λn _=>?_) (λrs=>by simp [G6]) h2;simp_all [y3,y9,B8,s8.B7,if_true,D3,L8,j5,if_false,T1,and_self,put,s7,E2]
theorem eW:∀l:List Data,L1 (l.map .d)=J l
 |[]=>rfl
 |a::l=>by simp [L1,c7.data?,eW l]
def Ry.az9 {j s sz bytes:Nat}{y:y4}{u u' :List Nat}{d' :Option Nat}{g' :Option (Nat×Bool)}{n' len m:Nat}{cs' cells new:List Data}
  (hj:lk n rl j=J (.d (.slice n' cs'))) (ha:j8[j]? =J ⟨.S0 (.slot s),d',g',u'⟩) (ht:l6.any (Touch.U8 s)=F) (hT:T[s]? =J (.own sz len cells))
  (hy:rq T n rl y= .d (.slice m new)) (hl:O new=m * sz) (hr:roomFor (len+m) bytes=W) (h0:0<sz)
  (h2:Ry A l b dr j8 ops (T.set s (.d (.slice len cells))) H (n+1) (.own sz (len+m) (cells++new)::rl) (.slot s::l6) Q):Ry A l b dr j8 (⟨.append sz bytes F (.loc j) y,K,K,u⟩::ops) T H n rl l6 Q:=λhn =>
 Rx.append (vy:= .d (.slice m new)) (by rw [dD hn];exact hj) ha ht hT (λk=>by simp_all [Q0]) (by simp_all [C7]) (eW new) hr h0 (h2.to hn)
def Ry.aj4 {j sz bytes:Nat}{y:y4}{u:List Nat}{len m:Nat}{cells new:List Data}(hj:lk n rl j=J (.own sz len cells))(hb:Nat.ble (j+1) n=W)
  (hy:rq T n rl y= .d (.slice m new)) (hl:O new=m * sz) (hr:roomFor (len+m) bytes=W) (h0:0<sz)
  (h2:Ry A l b dr j8 ops T H (n+1) (.own sz (len+m) (cells++new)::rl.set (n - (j+1)) (.d (.slice len cells))) l6 Q):Ry A l b dr j8 (⟨.append sz bytes F (.loc j) y,K,K,u⟩::ops) T H n rl l6 Q:=λhn=>by
 refine Rx.Yj (vy:= .d (.slice m new)) (by rw [dD hn];exact hj) (λk=>by simp_all [Q0]) (by simp_all [C7]) (eW new) hr h0 ?_;have h3:=h2.to (by simp [hn]);simp_all [Al]
namespace S
def nl (h:Q T H rl.reverse):Ry A l b dr j8 [] T H n rl l6 Q:=λ_=>Rx.nil h
def mv {x:y4}{v:c7}{u:List Nat}(h2:Ry A l b dr j8 ops T H (n+1) (v::rl) l6 Q)(hx:Oq T n rl x (v):=by exact ⟨rfl,rfl⟩) :
  Ry A l b dr j8 (⟨.S0 x,K,K,u⟩::ops) T H n rl l6 Q:=λhn=>Rx.S0 (hx.op hn) (h2.to hn)
def mt {x:y4}{v:c7}{s:Nat}{T2:List c7}{u:List Nat}(hx:Oq T n rl x (v):=by exact ⟨rfl,rfl⟩)(hs:T[s]?.isSome=W:=by rfl)(hT:T.set s v=T2:=by simp only [List.set_cons_zero,List.set_cons_succ]<;>rfl)(h2:Ry A l b dr j8 ops T2 H (n+1) (v::rl) (.slot s::l6) Q) :
  Ry A l b dr j8 (⟨.S0 x,J s,K,u⟩::ops) T H n rl l6 Q:=λhn=>Rx.aG6 (hx.op hn) hs (by rw [hT];exact h2.to hn)
theorem mo {s z n0:Nat}{cs:List Data}{u:List Nat}(h2:Ry A l b dr j8 ops T H (n+1) (.d (.slice n0 cs)::rl) l6 Q)(hx:T[s]? =J (.own z n0 cs):=by rfl) :
  Ry A l b dr j8 (⟨.S0 (.slot s),K,K,u⟩::ops) T H n rl l6 Q:=λhn=>Rx.ap7 hx (h2.to hn)
def mw {j s z n0:Nat}{cs:List Data}{u:List Nat}{T2:List c7}(hj:lk n rl j=J (.own z n0 cs):=by rfl)(hb:Nat.ble (j+1) n=W:=by rfl)(hs:T[s]?.isSome=W:=by rfl)(hT:T.set s (.own z n0 cs)=T2:=by simp only [List.set_cons_zero,List.set_cons_succ]<;>rfl)
  (h2:Ry A l b dr j8 ops T2 H (n+1) (.d (.slice n0 cs)::rl.set (n - (j+1)) (.d (.slice n0 cs))) (.slot s::l6) Q):Ry A l b dr j8 (⟨.S0 (.loc j),J s,K,u⟩::ops) T H n rl l6 Q:=λhn=>by
 refine Rx.Vf (by rw [dD hn];exact hj) hs ?_;have h3:=h2.to (by simp [hn]);simp_all [Al]
def ow {s z n0:Nat}{cs:List Data}{T2:List c7}{u:List Nat}(hs:T[s]?.isSome=W:=by rfl)(hT:T.set s (.own z n0 cs)=T2:=by simp only [List.set_cons_zero,List.set_cons_succ]<;>rfl)(h2:Ry A l b dr j8 ops T2 H (n+1) (.d (.slice n0 cs)::rl) (.slot s::l6) Q) :
  Ry A l b dr j8 (⟨.S0 (.const (.own z n0 cs)),J s,K,u⟩::ops) T H n rl l6 Q:=λhn=>Rx.aG9 hs (by rw [hT];exact h2.to hn)
def ad {x y:y4}{c d:Int}{u:List Nat}(h2:Ry A l b dr j8 ops T H (n+1) (.d (.int .i64 (c+d))::rl) l6 Q)(hx:rq T n rl x= .d (.int .i64 c):=by rfl)(hy:rq T n rl y= .d (.int .i64 d):=by rfl)(h0: -9223372036854775808<=c+d/\c+d<9223372036854775808:=by first|omega|(simp only [s4,Bool.and_eq_true,A1,x8,o9,beq_eq_false_iff_ne,beq_iff_eq,decide_eq_true_eq,decide_eq_false_iff_not,Bool.not_eq_true',Bool.not_eq_false'] at *;omega)) :
  Ry A l b dr j8 (⟨.bin .add x y,K,K,u⟩::ops) T H n rl l6 Q:=Ry.pure (rs:=[]) rfl (by simp_all [k8,GF]) h2
def sb {x y:y4}{c d:Int}{u:List Nat}(h2:Ry A l b dr j8 ops T H (n+1) (.d (.int .i64 (c - d))::rl) l6 Q)(hx:rq T n rl x= .d (.int .i64 c):=by rfl)(hy:rq T n rl y= .d (.int .i64 d):=by rfl)(h0: -9223372036854775808<=c - d/\c - d<9223372036854775808:=by first|omega|(simp only [s4,Bool.and_eq_true,A1,x8,o9,beq_eq_false_iff_ne,beq_iff_eq,decide_eq_true_eq,decide_eq_false_iff_not,Bool.not_eq_true',Bool.not_eq_false'] at *;omega)) :
  Ry A l b dr j8 (⟨.bin .sub x y,K,K,u⟩::ops) T H n rl l6 Q:=Ry.pure (rs:=[]) rfl (by simp_all [k8,GF]) h2
def li {x y:y4}{k:IntKind}{c d:Int}{u:List Nat}(h2:Ry A l b dr j8 ops T H (n+1) (.d (.bool (F0 c d))::rl) l6 Q)(hx:rq T n rl x= .d (.int k c):=by rfl)(hy:rq T n rl y= .d (.int k d):=by rfl) :
  Ry A l b dr j8 (⟨.bin .lss x y,K,K,u⟩::ops) T H n rl l6 Q:=Ry.pure (rs:=[]) rfl (by grind [k8,M1,Z5,cw,A1,x8,o9,bne]) h2
def lo {x y:y4}{k:IntKind}{c d:Int}{u:List Nat}(h2:Ry A l b dr j8 ops T H (n+1) (.d (.bool (aH c d))::rl) l6 Q)(hx:rq T n rl x= .d (.int k c):=by rfl)(hy:rq T n rl y= .d (.int k d):=by rfl) :
  Ry A l b dr j8 (⟨.bin .leq x y,K,K,u⟩::ops) T H n rl l6 Q:=Ry.pure (rs:=[]) rfl (by grind [k8,M1,Z5,cw,A1,x8,o9,bne]) h2
def gi {x y:y4}{k:IntKind}{c d:Int}{u:List Nat}(h2:Ry A l b dr j8 ops T H (n+1) (.d (.bool (F0 d c))::rl) l6 Q)(hx:rq T n rl x= .d (.int k c):=by rfl)(hy:rq T n rl y= .d (.int k d):=by rfl) :
  Ry A l b dr j8 (⟨.bin .gtr x y,K,K,u⟩::ops) T H n rl l6 Q:=Ry.pure (rs:=[]) rfl (by grind [k8,M1,Z5,cw,A1,x8,o9,bne]) h2
def go {x y:y4}{k:IntKind}{c d:Int}{u:List Nat}(h2:Ry A l b dr j8 ops T H (n+1) (.d (.bool (aH d c))::rl) l6 Q)(hx:rq T n rl x= .d (.int k c):=by rfl)(hy:rq T n rl y= .d (.int k d):=by rfl) :
  Ry A l b dr j8 (⟨.bin .geq x y,K,K,u⟩::ops) T H n rl l6 Q:=Ry.pure (rs:=[]) rfl (by grind [k8,M1,Z5,cw,A1,x8,o9,bne]) h2
def ei {x y:y4}{k:IntKind}{c d:Int}{u:List Nat}(h2:Ry A l b dr j8 ops T H (n+1) (.d (.bool (x5 c d))::rl) l6 Q)(hx:rq T n rl x= .d (.int k c):=by rfl)(hy:rq T n rl y= .d (.int k d):=by rfl) :
  Ry A l b dr j8 (⟨.bin .eql x y,K,K,u⟩::ops) T H n rl l6 Q:=Ry.pure (rs:=[]) rfl (by grind [k8,M1,Z5,cw,A1,x8,o9,bne]) h2
def ni {x y:y4}{k:IntKind}{c d:Int}{u:List Nat}(h2:Ry A l b dr j8 ops T H (n+1) (.d (.bool (!x5 c d))::rl) l6 Q)(hx:rq T n rl x= .d (.int k c):=by rfl)(hy:rq T n rl y= .d (.int k d):=by rfl) :
  Ry A l b dr j8 (⟨.bin .neq x y,K,K,u⟩::ops) T H n rl l6 Q:=Ry.pure (rs:=[]) rfl (by grind [k8,M1,Z5,cw,A1,x8,o9,bne]) h2
def es {x y:y4}{c d:List UInt8}{u:List Nat}(h2:Ry A l b dr j8 ops T H (n+1) (.d (.bool (O4 c d))::rl) l6 Q)(hx:rq T n rl x= .d (.str c):=by rfl)(hy:rq T n rl y= .d (.str d):=by rfl) :
  Ry A l b dr j8 (⟨.bin .eql x y,K,K,u⟩::ops) T H n rl l6 Q:=Ry.pure (rs:=[]) rfl (by grind [k8,M1,vZ,I9]) h2
theorem ns {x y:y4}{c d:List UInt8}{u:List Nat}(h2:Ry A l b dr j8 ops T H (n+1) (.d (.bool (!O4 c d))::rl) l6 Q)(hx:rq T n rl x= .d (.str c):=by rfl)(hy:rq T n rl y= .d (.str d):=by rfl) :
  Ry A l b dr j8 (⟨.bin .neq x y,K,K,u⟩::ops) T H n rl l6 Q:=Ry.pure (rs:=[]) rfl (by grind [k8,M1,vZ,I9]) h2
def ng {x:y4}{t:Bool}{u:List Nat}(h2:Ry A l b dr j8 ops T H (n+1) (.d (.bool (!t))::rl) l6 Q)(hx:rq T n rl x= .d (.bool t):=by rfl) :
  Ry A l b dr j8 (⟨.un .not x,K,K,u⟩::ops) T H n rl l6 Q:=Ry.pure (rs:=[]) rfl (by grind [k8,NR]) h2
def ln {α:Type}{enc:α->List Data}{xs:List α}{x:y4}{u:List Nat}(h2:Ry A l b dr j8 ops T H (n+1) (.d (.int .i64 (O xs:Int))::rl) l6 Q)(hx:rq T n rl x= .d (y6 enc xs):=by rfl) :
  Ry A l b dr j8 (⟨.len x,K,K,u⟩::ops) T H n rl l6 Q:=Ry.pure (rs:=[]) rfl (by grind [k8,y6,i64]) h2
def ls {x:y4}{m:Nat}{cs:List Data}{u:List Nat}(h2:Ry A l b dr j8 ops T H (n+1) (.d (.int .i64 (m:Int))::rl) l6 Q)(hx:rq T n rl x= .d (.slice m cs):=by rfl) :
  Ry A l b dr j8 (⟨.len x,K,K,u⟩::ops) T H n rl l6 Q:=Ry.pure (rs:=[]) rfl (by grind [k8,i64]) h2
def lnT {α:Type}{enc:α->List Data}{xs:List α}{x:y4}{s:Nat}{T2:List c7}{u:List Nat}(hx:rq T n rl x= .d (y6 enc xs):=by rfl)(hs:T[s]?.isSome=W:=by rfl)(hT:T.set s (.d (.int .i64 (O xs:Int)))=T2:=by simp only [List.set_cons_zero,List.set_cons_succ]<;>rfl)(h2:Ry A l b dr j8 ops T2 H (n+1) (.d (.int .i64 (O xs:Int))::rl) (.slot s::l6) Q) :
  Ry A l b dr j8 (⟨.len x,J s,K,u⟩::ops) T H n rl l6 Q:=Ry.tF (v:= .d (.int .i64 (O xs:Int))) (rs:=[]) rfl (by grind [k8,y6,i64]) rfl rfl hs M
def ldT {c:Data}{cs:List Data}{x:y4}{s:Nat}{T2:List c7}{u:List Nat}(hx:rq T n rl x= .bP (c::cs):=by rfl)(hs:T[s]?.isSome=W:=by rfl)(hT:T.set s (.d c)=T2:=by simp only [List.set_cons_zero,List.set_cons_succ]<;>rfl)(h2:Ry A l b dr j8 ops T2 H (n+1) (.d c::rl) (.slot s::l6) Q) :
  Ry A l b dr j8 (⟨.load K x,J s,K,u⟩::ops) T H n rl l6 Q:=Ry.tF (v:= .d c) (rs:=[]) rfl (by grind [k8]) rfl rfl hs M
def lpT {v:c7}{id o:Nat}{x:y4}{s:Nat}{T2:List c7}{u:List Nat}(hx:rq T n rl x= .ptr id o:=by rfl)(hr:rd H id o 1=J [v]:=by rfl)(hv:v.K9=v:=by rfl)(hs:T[s]?.isSome=W:=by rfl)(hT:T.set s v=T2:=by simp only [List.set_cons_zero,List.set_cons_succ]<;>rfl)(h2:Ry A l b dr j8 ops T2 H (n+1) (v::rl) (.slot s::l6) Q) :
  Ry A l b dr j8 (⟨.load K x,J s,K,u⟩::ops) T H n rl l6 Q:=Ry.tF (v:=v) (rs:=[id]) rfl (by simp_all [k8]) hv rfl hs M
def lt {x:y4}{s:List UInt8}{u:List Nat}(h2:Ry A l b dr j8 ops T H (n+1) (.d (.int .i64 (O s:Int))::rl) l6 Q)(hx:rq T n rl x= .d (.str s):=by rfl) :
  Ry A l b dr j8 (⟨.Y8 x,K,K,u⟩::ops) T H n rl l6 Q:=Ry.pure (rs:=[]) rfl (by grind [k8,i64]) h2
def ix {α:Type} [Inhabited α] {enc:α->List Data}{xs:List α}{sz i:Nat}{x y:y4}{k:IntKind}{u:List Nat}(hx:rq T n rl x= .d (y6 enc xs):=by rfl)(hy:rq T n rl y= .d (.int k ((i:Nat):Int)):=by rfl)(hs:∀a,O (enc a)=sz:=by intro;rfl)(hi:i<O xs:=by first|omega|(simp only [s4,Bool.and_eq_true,A1,x8,o9,beq_eq_false_iff_ne,beq_iff_eq,decide_eq_true_eq,decide_eq_false_iff_not,Bool.not_eq_true',Bool.not_eq_false'] at *;omega))(h2:Ry A l b dr j8 ops T H (n+1) (.bP (enc (Y xs i)++(xs.drop (i+1)).flatMap enc)::rl) l6 Q) :
  Ry A l b dr j8 (⟨.L2 sz x y,K,K,u⟩::ops) T H n rl l6 Q:=Ry.pure (rs:=[]) rfl (by
  have h3:=Ug hs xs i hi;simp_all [F9,k8,y6,Int.natCast_nonneg,and_self,if_true]) h2
def ixN {α:Type} [Inhabited α] {enc:α->List Data}{xs:List α}{sz i:Nat}{x y:y4}{k:IntKind}{u:List Nat}(hx:rq T n rl x= .d (y6 enc xs):=by rfl)(hy:rq T n rl y= .d (.int k (OfNat.ofNat i)):=by rfl)(hs:∀a,O (enc a)=sz:=by intro;rfl)(hi:i<O xs:=by first|omega|(simp only [s4,Bool.and_eq_true,A1,x8,o9,beq_eq_false_iff_ne,beq_iff_eq,decide_eq_true_eq,decide_eq_false_iff_not,Bool.not_eq_true',Bool.not_eq_false'] at *;omega))(h2:Ry A l b dr j8 ops T H (n+1) (.bP (enc (Y xs i)++(xs.drop (i+1)).flatMap enc)::rl) l6 Q) :
  Ry A l b dr j8 (⟨.L2 sz x y,K,K,u⟩::ops) T H n rl l6 Q:=ix hx hy hs hi h2
def ixI {α:Type} [Inhabited α] {enc:α->List Data}{xs:List α}{sz:Nat}{e:Int}{x y:y4}{k:IntKind}{u:List Nat}(i:Nat)(he:e=i:=by first|omega|(simp only [s4,Bool.and_eq_true,A1,x8,o9,beq_eq_false_iff_ne,beq_iff_eq,decide_eq_true_eq,decide_eq_false_iff_not,Bool.not_eq_true',Bool.not_eq_false'] at *;omega))(hx:rq T n rl x= .d (y6 enc xs):=by rfl)(hy:rq T n rl y= .d (.int k e):=by rfl)(hs:∀a,O (enc a)=sz:=by intro;rfl)(hi:i<O xs:=by first|omega|(simp only [s4,Bool.and_eq_true,A1,x8,o9,beq_eq_false_iff_ne,beq_iff_eq,decide_eq_true_eq,decide_eq_false_iff_not,Bool.not_eq_true',Bool.not_eq_false'] at *;omega))(h2:Ry A l b dr j8 ops T H (n+1) (.bP (enc (Y xs i)++(xs.drop (i+1)).flatMap enc)::rl) l6 Q) :
  Ry A l b dr j8 (⟨.L2 sz x y,K,K,u⟩::ops) T H n rl l6 Q:=ix hx (he ▸ hy) hs hi h2
def ixZ {α:Type} [Inhabited α] {enc:α->List Data}{xs:List α}{sz:Nat}{e:Int}{x y:y4}{k:IntKind}{u:List Nat}(hx:rq T n rl x= .d (y6 enc xs):=by rfl)(hy:rq T n rl y= .d (.int k e):=by rfl)(hs:∀a,O (enc a)=sz:=by intro;rfl)(hi:0<=e/\e<O xs:=by first|omega|(simp only [s4,Bool.and_eq_true,A1,x8,o9,beq_eq_false_iff_ne,beq_iff_eq,decide_eq_true_eq,decide_eq_false_iff_not,Bool.not_eq_true',Bool.not_eq_false'] at *;omega))(h2:Ry A l b dr j8 ops T H (n+1) (.bP (enc (Y xs e.toNat)++(xs.drop (e.toNat+1)).flatMap enc)::rl) l6 Q) :
  Ry A l b dr j8 (⟨.L2 sz x y,K,K,u⟩::ops) T H n rl l6 Q:=ix hx (by rw [hy,Int.toNat_of_nonneg hi.1]) hs V h2
def ld {x:y4}{c:Data}{cs:List Data}{u:List Nat}(h2:Ry A l b dr j8 ops T H (n+1) (.d c::rl) l6 Q)(hx:rq T n rl x= .bP (c::cs):=by rfl) :
  Ry A l b dr j8 (⟨.load K x,K,K,u⟩::ops) T H n rl l6 Q:=Ry.pure (rs:=[]) rfl (by grind [k8]) h2
def le {x:y4}{cs rest:List Data}{m:Nat}{u:List Nat}(h2:Ry A l b dr j8 ops T H (n+1) (.agg (cs.map .d)::rl) l6 Q)(hx:rq T n rl x= .bP (cs++rest):=by rfl)(hm:O cs=m:=by rfl) :
  Ry A l b dr j8 (⟨.load (J m) x,K,K,u⟩::ops) T H n rl l6 Q:=Ry.pure (rs:=[]) rfl (by simp_all [k8]) h2
def lf {x:y4}{k:Nat}{cs:List Data}{u:List Nat}(h2:Ry A l b dr j8 ops T H (n+1) (.bP (cs.drop k)::rl) l6 Q)(hx:rq T n rl x= .bP cs:=by rfl) :
  Ry A l b dr j8 (⟨.off k x,K,K,u⟩::ops) T H n rl l6 Q:=Ry.pure (rs:=[]) rfl (by grind [k8]) h2
def fp {x:y4}{k id o:Nat}{u:List Nat}(h2:Ry A l b dr j8 ops T H (n+1) (.ptr id (o+k)::rl) l6 Q)(hx:rq T n rl x= .ptr id o:=by rfl) :
  Ry A l b dr j8 (⟨.off k x,K,K,u⟩::ops) T H n rl l6 Q:=Ry.pure (rs:=[]) rfl (by grind [k8]) h2
def lp {x:y4}{id o:Nat}{v:c7}{u:List Nat}(h2:Ry A l b dr j8 ops T H (n+1) (v::rl) l6 Q)(hx:rq T n rl x= .ptr id o:=by rfl)(hr:rd H id o 1=J [v]:=by rfl)(hv:v.K9=v:=by rfl) :
  Ry A l b dr j8 (⟨.load K x,K,K,u⟩::ops) T H n rl l6 Q:=Ry.pure (rs:=[id]) rfl (by simp_all [k8]) h2
def lpo {x:y4}{id o z m:Nat}{cs:List Data}{u:List Nat}(h2:Ry A l b dr j8 ops T H (n+1) (.d (.slice m cs)::rl) l6 Q)(hx:rq T n rl x= .ptr id o:=by rfl)(hr:rd H id o 1=J [.own z m cs]:=by rfl) :
  Ry A l b dr j8 (⟨.load K x,K,K,u⟩::ops) T H n rl l6 Q:=Ry.pure (rs:=[id]) rfl (by simp_all [k8,c7.K9]) h2
def lq {x:y4}{m id:Nat}{cs:List c7}{u:List Nat}(h2:Ry A l b dr j8 ops T H (n+1) (.agg cs::rl) l6 Q)(hx:rq T n rl x= .ptr id 0:=by rfl)(hr:H[id]? =J (.cells cs):=by rfl)(hm:O cs=m:=by rfl)(hv:cs.map c7.K9=cs:=by rfl) :
  Ry A l b dr j8 (⟨.load (J m) x,K,K,u⟩::ops) T H n rl l6 Q:=Ry.pure (rs:=[id]) rfl (by simp_all [k8,rd]<;>grind) h2
def et {x:y4}{i:Nat}{vs:List c7}{v:c7}{u:List Nat}(h2:Ry A l b dr j8 ops T H (n+1) (v::rl) l6 Q)(hx:rq T n rl x= .tuple vs:=by rfl)(hv:vs[i]? =J v:=by rfl) :
  Ry A l b dr j8 (⟨.extract x i,K,K,u⟩::ops) T H n rl l6 Q:=Ry.pure (rs:=[]) rfl (by simp_all [k8]) h2
def wa {op:s8}{dst:Option Nat}{j:Nat}{want:Bool}{u:List Nat}(h2:Ry A l b dr j8 (⟨op,dst,K,u⟩::ops) T H n rl l6 Q)(h:lk n rl j=J (.d (.bool want)):=by rfl) :
  Ry A l b dr j8 (⟨op,dst,J (j,want),u⟩::ops) T H n rl l6 Q:=λhn=>Rx.wanted (by rw [dD hn];exact h) U (h2 hn)
def sk {op:s8}{j:Nat}{want:Bool}{u:List Nat}(h2:Ry A l b dr j8 ops T H (n+1) (.tuple []::rl) l6 Q)(h:lk n rl j=J (.d (.bool (!want))):=by rfl)(hk:∀L,G9 ⟨T,H,L,l6⟩ op=F:=by intro;rfl)(ha:op.y7=F:=by rfl) :
  Ry A l b dr j8 (⟨op,K,J (j,want),u⟩::ops) T H n rl l6 Q:=λhn=>Rx.ZN (by rw [dD hn];exact h) M (hk _) ha (h2.to hn)
def st {op:s8}{j:Nat}{want:Bool}{u:List Nat}(h2:Ry A l b dr j8 ops T H (n+1) (.tuple []::rl) l6 Q)(h:lk n rl j=J (.tuple []):=by rfl)(hk:∀L,G9 ⟨T,H,L,l6⟩ op=F:=by intro;rfl)(ha:op.y7=F:=by rfl) :
  Ry A l b dr j8 (⟨op,K,J (j,want),u⟩::ops) T H n rl l6 Q:=λhn=>Rx.VW (by simp_all [dD]) (hk _) ha (h2.to hn)
def fk {op:s8}{dst:Option Nat}{j:Nat}{want w:Bool}{r1 r2:List c7}{u:List Nat}(h:lk n rl j=J (.d (.bool w)):=by rfl)(hj:Nat.ble (j+1) n=W:=by rfl)(ht:rl.set (n - (j+1)) (.d (.bool W))=r1:=by simp only [Nat.reduceAdd,Nat.reduceSub,List.set_cons_zero,List.set_cons_succ]<;>rfl)(hf:rl.set (n - (j+1)) (.d (.bool F))=r2:=by simp only [Nat.reduceAdd,Nat.reduceSub,List.set_cons_zero,List.set_cons_succ]<;>rfl)(h1:w=W->Ry A l b dr j8 (⟨op,dst,J (j,want),u⟩::ops) T H n r1 l6 Q)(h2:w=F->Ry A l b dr j8 (⟨op,dst,J (j,want),u⟩::ops) T H n r2 l6 Q) :
  Ry A l b dr j8 (⟨op,dst,J (j,want),u⟩::ops) T H n rl l6 Q:=Ry.fork h hj (λe=>M) (λe=>M)
def pt {c x y:y4}{v:c7}{u:List Nat}(h2:Ry A l b dr j8 ops T H (n+1) (v::rl) l6 Q)(hc:rq T n rl c= .d (.bool W):=by rfl)(hx:Oq T n rl x (v):=by exact ⟨rfl,rfl⟩) :
  Ry A l b dr j8 (⟨.pick c x y,K,K,u⟩::ops) T H n rl l6 Q:=Ry.pure (rs:=[]) rfl (by simp [k8,hc,hx.rq]) h2
def pk {c x y:y4}{v:c7}{u:List Nat}(h2:Ry A l b dr j8 ops T H (n+1) (v::rl) l6 Q)(hc:rq T n rl c= .d (.bool F):=by rfl)(hy:Oq T n rl y (v):=by exact ⟨rfl,rfl⟩) :
  Ry A l b dr j8 (⟨.pick c x y,K,K,u⟩::ops) T H n rl l6 Q:=Ry.pure (rs:=[]) rfl (by simp [k8,hc,hy.rq]) h2
def bx {x:y4}{u:List Nat}{v:c7}{cs:List c7}{s id:Nat}{T2:List c7}{H2:j9}(hx:Oq T n rl x v:=by exact ⟨rfl,rfl⟩)(hc:v.cells? =J cs:=by rfl)(hs:T[s]?.isSome=W:=by rfl)
  (hi:O H=id:=by simp only [List.length_cons,List.length_nil,Nat.reduceAdd]<;>rfl) (hT:T.set s (.ptr id 0)=T2:=by simp only [List.set_cons_zero,List.set_cons_succ]<;>rfl) (hH:H++[.cells cs]=H2:=by simp only [List.cons_append,List.nil_append]<;>rfl)
  (h2:Ry A l b F j8 ops T2 H2 (n+1) (.ptr id 0::rl) (.slot s::l6) Q):Ry A l b F j8 (⟨.box x,J s,K,u⟩::ops) T H n rl l6 Q:=λhn=>by
 subst hi;exact Rx.aA0 (hx.op hn) hc hs (by rw [hT,hH];exact h2.to hn)
def ac {zero:List c7}{u:List Nat}{s id:Nat}{T2:List c7}{H2:j9}(hs:T[s]?.isSome=W:=by rfl)
  (hi:O H=id:=by simp only [List.length_cons,List.length_nil,Nat.reduceAdd]<;>rfl) (hT:T.set s (.ptr id 0)=T2:=by simp only [List.set_cons_zero,List.set_cons_succ]<;>rfl) (hH:H++[.cells zero]=H2:=by simp only [List.cons_append,List.nil_append]<;>rfl)
  (h2:Ry A l b F j8 ops T2 H2 (n+1) (.ptr id 0::rl) (.slot s::l6) Q):Ry A l b F j8 (⟨.alloc zero,J s,K,u⟩::ops) T H n rl l6 Q:=λhn=>by
 have hs:s<O T:=by
  simp_all
 have h2:=h2.to hn;refine Rx.stepT (N1:=0) (rs:=[]) rfl (λn _=>?_) h2;simp_all [y3,y9,B8,s8.B7,if_true,D3,E1,newId,Option.getD_none,put,K4,s7,E2,A5.F6,A5.G7,c7.K9]
def mS {m id off:Nat}{x y:y4}{u:List Nat}{v:c7}{cs:List c7}{H2:j9}(hy:rq T n rl y= .ptr id off)(hx:Oq T n rl x v)(hc:v.cells? =J cs)(hm:O cs=m)(hl:l.may id=W)(hb:A8 cs<=id+1)
  (hw:wr H id off cs=J H2) (h2:Ry A l b F j8 ops T H2 (n+1) (.any::rl) (.obj id::l6) Q):Ry A l b F j8 (⟨.store m y x,K,K,u⟩::ops) T H n rl l6 Q:=λhn=>by
 refine Rx.stepT (N1:=0) (rs:=[]) rfl (λk _=>?_) (h2.to hn);have hl' :(K7 A k l b).lim.may id=W:=hl;simp [y3,y9,B8,s8.B7,if_true,D3,Q0 hn,hy,S6,(hx.op hn).F6,hc,hm,hl',hb,true_or,and_self,hw,put,K4,s7,E2]
def so {m id:Nat}{x y:y4}{u:List Nat}{v:c7}{cs old:List c7}{H2:j9}(hy:rq T n rl y= .ptr id 0:=by rfl)(hx:Oq T n rl x v:=by exact ⟨rfl,rfl⟩)(hc:v.cells? =J cs:=by rfl)(hm:O cs=m:=by rfl)(hl:l.may id=W:=by rfl)(hb:A8 cs=0:=by rfl)
  (ho:H[id]? =J (.cells old):=by rfl) (hq:O old=m:=by rfl) (hH:H.set id (.cells cs)=H2:=by simp only [List.set_cons_zero,List.set_cons_succ]<;>rfl)
  (h2:Ry A l b F j8 ops T H2 (n+1) (.any::rl) (.obj id::l6) Q):Ry A l b F j8 (⟨.store m y x,K,K,u⟩::ops) T H n rl l6 Q :=
 mS hy hx hc hm hl V (by simp_all [wr,splice,n5]) h2
def Ce {m id off:Nat}{x y:y4}{u:List Nat}{v:c7}{cs:List c7}{H2:j9}(hd:Nat.ble (oW j8) n=W)(hy:rq T n rl y= .ptr id off)(hx:Oq T n rl x v)(hc:v.cells? =J cs)(hm:O cs=m)(hl:l.may id=W)(hb:A8 cs<=id+1)
  (hw:wr H id off cs=J H2) (h2:Ry A l b dr j8 ops T H2 (n+1) (.any::rl) (.obj id::l6) Q):Ry A l b dr j8 (⟨.store m y x,K,K,u⟩::ops) T H n rl l6 Q:=λhn=>by
 refine Rx.KA (N1:=0) (rs:=[]) rfl rfl rfl (λk _=>?_) (λh=>?_) (h2.to hn)
 .have hl' :(K7 A k l b).lim.may id=W:=hl
  simp [y3,y9,B8,s8.B7,if_true,D3,Q0 hn,hy,S6,(hx.op hn).F6,hc,hm,hl',hb,true_or,and_self,hw,put,K4,s7,E2]
 simp_all<;>omega
def so1 {id off:Nat}{x y:y4}{u:List Nat}{v:c7}{old new:List c7}{H2:j9}(hy:rq T n rl y= .ptr id off:=by rfl)(hx:Oq T n rl x v:=by exact ⟨rfl,rfl⟩)(hc:v.cells? =J [v]:=by rfl)(hl:l.may id=W:=by rfl)(hb:v.J4<=id+1:=by decide)
  (ho:H[id]? =J (.cells old):=by rfl) (hq:off<O old:=by decide) (hN:old.set off v=new:=by first|(simp only [List.set_cons_zero,List.set_cons_succ];done)|rfl) (hH:H.set id (.cells new)=H2:=by simp only [List.set_cons_zero,List.set_cons_succ]<;>rfl)
  (h2:Ry A l b F j8 ops T H2 (n+1) (.any::rl) (.obj id::l6) Q):Ry A l b F j8 (⟨.store 1 y x,K,K,u⟩::ops) T H n rl l6 Q :=
 mS hy hx hc rfl hl (by simp_all [A8]) (by
  have h1:splice old off [v]=old.set off v:=by
   simp_all [splice,E4,P6,if_pos]
  grind [wr]) h2
def o1 {x:y4}{z c:Data}{u:List Nat}(h2:Ry A l b dr j8 ops T H (n+1) (.own 1 1 [c]::rl) l6 Q)(hx:rq T n rl x= .d c:=by rfl) :
  Ry A l b dr j8 (⟨.J8 1 1 [.d z] [(0,1,x)] F,K,K,u⟩::ops) T H n rl l6 Q:=Ry.pure (rs:=[]) rfl (by simp [k8,Z7,hx,c7.cells?,splice,L1,c7.data?,c7.one]) h2
def ap1 {α:Type}{enc:α->List Data}{xs:List α}{j s bytes n' :Nat}{y:y4}{u' :List Nat}{d' :Option Nat}{g' :Option (Nat×Bool)}{cs' :List Data}{T2:List c7}{a:α}{c:Data}{u:List Nat}(hj:lk n rl j=J (.d (.slice n' cs')):=by rfl)(ha:j8[j]? =J ⟨.S0 (.slot s),d',g',u'⟩:=by rfl)(ht:l6.any (Touch.U8 s)=F:=by rfl)(hT:T[s]? =J (B9 1 enc xs):=by rfl)(hy:rq T n rl y= .d (.slice 1 [c]):=by rfl)(he:enc a=[c]:=by rfl)(hr:roomFor (O xs+1) bytes=W:=by simp only [roomFor,decide_eq_true_eq,List.length_append,List.length_cons,List.length_nil,List.length_take,List.length_drop,List.length_map] at * <;>omega)(hS:T.set s (.d (y6 enc xs))=T2:=by simp only [List.set_cons_zero,List.set_cons_succ]<;>rfl)(h2:Ry A l b dr j8 ops T2 H (n+1) (B9 1 enc (xs++[a])::rl) (.slot s::l6) Q) :
  Ry A l b dr j8 (⟨.append 1 bytes F (.loc j) y,K,K,u⟩::ops) T H n rl l6 Q:=Ry.az9 hj ha ht hT hy rfl hr (by decide) (by
  simp_all [B9,y6])
def Yg {α:Type}{enc:α->List Data}{xs:List α}{j s sz bytes n' :Nat}{y:y4}{u' :List Nat}{d' :Option Nat}{g' :Option (Nat×Bool)}{cs' :List Data}{T2:List c7}{ys:List α}{u:List Nat}(hj:lk n rl j=J (.d (.slice n' cs')):=by rfl)(ha:j8[j]? =J ⟨.S0 (.slot s),d',g',u'⟩:=by rfl)(ht:l6.any (Touch.U8 s)=F:=by rfl)(hT:T[s]? =J (B9 sz enc xs):=by rfl)(hy:rq T n rl y= .d (y6 enc ys):=by rfl)(hs:∀a,O (enc a)=sz:=by intro;rfl)(h0:0<sz:=by decide)(hr:roomFor (O xs+O ys) bytes=W:=by simp only [roomFor,decide_eq_true_eq,List.length_append,List.length_cons,List.length_nil,List.length_take,List.length_drop,List.length_map] at * <;>omega)(hS:T.set s (.d (y6 enc xs))=T2:=by simp only [List.set_cons_zero,List.set_cons_succ]<;>rfl)(h2:Ry A l b dr j8 ops T2 H (n+1) (B9 sz enc (xs++ys)::rl) (.slot s::l6) Q) :
  Ry A l b dr j8 (⟨.append sz bytes F (.loc j) y,K,K,u⟩::ops) T H n rl l6 Q:=Ry.az9 hj ha ht hT hy (bt hs ys) hr h0 (by
  simp_all [B9,y6])
def al1 {α:Type}{enc:α->List Data}{xs:List α}{j bytes:Nat}{y:y4}{r2:List c7}{a:α}{c:Data}{u:List Nat}(hj:lk n rl j=J (B9 1 enc xs):=by rfl)(hb:Nat.ble (j+1) n=W:=by rfl)(hy:rq T n rl y= .d (.slice 1 [c]):=by rfl)(he:enc a=[c]:=by rfl)(hr:roomFor (O xs+1) bytes=W:=by simp only [roomFor,decide_eq_true_eq,List.length_append,List.length_cons,List.length_nil,List.length_take,List.length_drop,List.length_map] at * <;>omega)(hS:rl.set (n - (j+1)) (.d (y6 enc xs))=r2:=by simp only [Nat.reduceAdd,Nat.reduceSub,List.set_cons_zero,List.set_cons_succ]<;>rfl)(h2:Ry A l b dr j8 ops T H (n+1) (B9 1 enc (xs++[a])::r2) l6 Q) :
  Ry A l b dr j8 (⟨.append 1 bytes F (.loc j) y,K,K,u⟩::ops) T H n rl l6 Q:=Ry.aj4 hj hb hy rfl hr (by decide) (by
  simp_all [B9,y6])
def XN {α:Type}{enc:α->List Data}{xs:List α}{j sz bytes:Nat}{y:y4}{r2:List c7}{ys:List α}{u:List Nat}(hj:lk n rl j=J (B9 sz enc xs):=by rfl)(hb:Nat.ble (j+1) n=W:=by rfl)(hy:rq T n rl y= .d (y6 enc ys):=by rfl)(hs:∀a,O (enc a)=sz:=by intro;rfl)(h0:0<sz:=by decide)(hr:roomFor (O xs+O ys) bytes=W:=by simp only [roomFor,decide_eq_true_eq,List.length_append,List.length_cons,List.length_nil,List.length_take,List.length_drop,List.length_map] at * <;>omega)(hS:rl.set (n - (j+1)) (.d (y6 enc xs))=r2:=by simp only [Nat.reduceAdd,Nat.reduceSub,List.set_cons_zero,List.set_cons_succ]<;>rfl)(h2:Ry A l b dr j8 ops T H (n+1) (B9 sz enc (xs++ys)::r2) l6 Q) :
  Ry A l b dr j8 (⟨.append sz bytes F (.loc j) y,K,K,u⟩::ops) T H n rl l6 Q:=Ry.aj4 hj hb hy (bt hs ys) hr h0 (by
  simp_all [B9,y6])
theorem e0 {u:List Nat}(h2:Ry A l b dr j8 ops T H (n+1) (.own 1 0 []::rl) l6 Q) :
  Ry A l b dr j8 (⟨.J8 1 0 [] [] F,K,K,u⟩::ops) T H n rl l6 Q:=Ry.pure (rs:=[]) rfl (by rfl) h2
def cl {f:FuncId}{xs:List y4}{u:List Nat}{v:c7}{args:List c7}(hc:Pf A f args v)(h2:Ry A l b dr j8 ops T H (n+1) (v::rl) l6 Q)(ha:xs.map (rq T n rl)=args:=by rfl)(iD:A.prom f=F:=by rfl)(hm:A.mode f=1:=by rfl)
  (hb:A8 args=0:=by rfl):Ry A l b dr j8 (⟨.call f xs,K,K,u⟩::ops) T H n rl l6 Q:=λhn =>
 Rx.call iD hm (λm=>by rw [show A5.G7 T (rl.reverse++ .any::List.replicate m .any)=rq T n rl from funext λx=>Q0 hn m x];exact ha) hb hc (h2.to hn)
def Ea {zero:List c7}{parts:List (Nat×Nat×y4)}{cs:List c7}{u:List Nat}(h2:Ry A l b dr j8 ops T H (n+1) (.agg cs::rl) l6 Q)(hr:Z7 zero (parts.map λp=>(p.1,p.2.1,rq T n rl p.2.2))=J cs:=by rfl) :
  Ry A l b dr j8 (⟨.build zero parts,K,K,u⟩::ops) T H n rl l6 Q:=Ry.pure (rs:=[]) rfl (by grind [k8]) h2
def xs {s:List UInt8}{i:Nat}{x y:y4}{k:IntKind}{u:List Nat}(hx:rq T n rl x= .d (.str s):=by rfl)(hy:rq T n rl y= .d (.int k ((i:Nat):Int)):=by rfl)(hi:i<O s:=by first|omega|(simp only [s4,Bool.and_eq_true,A1,x8,o9,beq_eq_false_iff_ne,beq_iff_eq,decide_eq_true_eq,decide_eq_false_iff_not,Bool.not_eq_true',Bool.not_eq_false'] at *;omega))(h2:Ry A l b dr j8 ops T H (n+1) (.d (.int .u8 ((Y s i).toNat:Int))::rl) l6 Q) :
  Ry A l b dr j8 (⟨.J5 x y,K,K,u⟩::ops) T H n rl l6 Q:=Ry.pure (rs:=[]) rfl (by simp_all [k8,n9,F9]) h2
def qs {neg t:Bool}{ks:List CK}{x y:y4}{va vb:List c7}{u:List Nat}(h2:Ry A l b dr j8 ops T H (n+1) (.d (.bool (neg != t))::rl) l6 Q)(hx:rq T n rl x= .agg va:=by rfl)(hy:rq T n rl y= .agg vb:=by rfl)(hr:Q9 ks va vb=J t:=by rfl) :
  Ry A l b dr j8 (⟨.Dx neg ks x y,K,K,u⟩::ops) T H n rl l6 Q:=Ry.pure (rs:=[]) rfl (by simp_all [k8]) h2
def qb {neg s t:Bool}{x y:y4}{u:List Nat}(h2:Ry A l b dr j8 ops T H (n+1) (.d (.bool (neg != (s==t)))::rl) l6 Q)(hx:rq T n rl x= .d (.bool s):=by rfl)(hy:rq T n rl y= .d (.bool t):=by rfl) :
  Ry A l b dr j8 (⟨.x5 neg x y,K,K,u⟩::ops) T H n rl l6 Q:=Ry.pure (rs:=[]) rfl (by simp_all [k8]) h2
def mm {isMax:Bool}{xs:List y4}{c d:Data}{r:List c7}{u:List Nat}(h2:Ry A l b dr j8 ops T H (n+1) (.d d::rl) l6 Q)(ha:xs.map (rq T n rl)= .d c::r:=by rfl)(hr:gh isMax c r=J d:=by rfl) :
  Ry A l b dr j8 (⟨.gT isMax xs,K,K,u⟩::ops) T H n rl l6 Q:=Ry.pure (rs:=[]) rfl (by simp_all [k8]) h2
def ip {m sz i:Nat}{x y:y4}{k:IntKind}{cs:List Data}{u:List Nat}(h2:Ry A l b dr j8 ops T H (n+1) (.bP (cs.drop (i * sz))::rl) l6 Q)(hx:rq T n rl x= .bP cs:=by rfl)(hy:rq T n rl y= .d (.int k ((i:Nat):Int)):=by rfl)(hi:i<m:=by omega) :
  Ry A l b dr j8 (⟨.iQ m sz x y,K,K,u⟩::ops) T H n rl l6 Q:=Ry.pure (rs:=[]) rfl (by
  simp_all [k8]) h2
def svh {α:Type} [Inhabited α] {enc:α->List Data}{xs:List α}{sz i:Nat}{x y:y4}{k:IntKind}{u:List Nat}(hx:rq T n rl x= .d (y6 enc xs):=by rfl)(hy:rq T n rl y= .d (.int k ((i:Nat):Int)):=by rfl)(hs:∀a,O (enc a)=sz:=by intro;rfl)(hi:i<=O xs:=by first|omega|(simp only [s4,Bool.and_eq_true,A1,x8,o9,beq_eq_false_iff_ne,beq_iff_eq,decide_eq_true_eq,decide_eq_false_iff_not,Bool.not_eq_true',Bool.not_eq_false'] at *;omega))(h2:Ry A l b dr j8 ops T H (n+1) (.d (y6 enc (xs.take i))::rl) l6 Q) :
  Ry A l b dr j8 (⟨.ay sz x K (J y),K,K,u⟩::ops) T H n rl l6 Q:=Ry.pure (rs:=[]) rfl (by
  have h1:=BW hs xs 0 i (Nat.zero_le _) hi
  grind [bt,y6,k8,Y5]) h2
def svl {α:Type} [Inhabited α] {enc:α->List Data}{xs:List α}{sz i:Nat}{x y:y4}{k:IntKind}{u:List Nat}(hx:rq T n rl x= .d (y6 enc xs):=by rfl)(hy:rq T n rl y= .d (.int k ((i:Nat):Int)):=by rfl)(hs:∀a,O (enc a)=sz:=by intro;rfl)(hi:i<=O xs:=by first|omega|(simp only [s4,Bool.and_eq_true,A1,x8,o9,beq_eq_false_iff_ne,beq_iff_eq,decide_eq_true_eq,decide_eq_false_iff_not,Bool.not_eq_true',Bool.not_eq_false'] at *;omega))(h2:Ry A l b dr j8 ops T H (n+1) (.d (y6 enc (xs.drop i))::rl) l6 Q) :
  Ry A l b dr j8 (⟨.ay sz x (J y) K,K,K,u⟩::ops) T H n rl l6 Q:=Ry.pure (rs:=[]) rfl (by
  have h3:O (xs.flatMap enc)=O xs * sz:=bt hs xs;simp_all [A4,mD,y6,k8,Y5]) h2
def svb {α:Type} [Inhabited α] {enc:α->List Data}{xs:List α}{sz i j:Nat}{x y z:y4}{k k' :IntKind}{u:List Nat}(hx:rq T n rl x= .d (y6 enc xs):=by rfl)(hy:rq T n rl y= .d (.int k ((i:Nat):Int)):=by rfl)(hz:rq T n rl z=(.d (.int k' ((j:Nat):Int))):=by rfl)(hs:∀a,O (enc a)=sz:=by intro;rfl)(hij:i<=j/\j<=O xs:=by first|omega|(simp only [s4,Bool.and_eq_true,A1,x8,o9,beq_eq_false_iff_ne,beq_iff_eq,decide_eq_true_eq,decide_eq_false_iff_not,Bool.not_eq_true',Bool.not_eq_false'] at *;omega))(h2:Ry A l b dr j8 ops T H (n+1) (.d (y6 enc ((xs.take j).drop i))::rl) l6 Q) :
  Ry A l b dr j8 (⟨.ay sz x (J y) (J z),K,K,u⟩::ops) T H n rl l6 Q:=Ry.pure (rs:=[]) rfl (by
  have h1:=BW hs xs i j hij.1 hij.2;have h3:O (xs.flatMap enc)=O xs * sz:=bt hs xs;simp_all [y6,k8,Y5,Int.natCast_nonneg,and_self,if_true,Int.toNat_natCast]) h2
end S
end
def wN (z:Nat):List c7->j9->J2->Option (c7×j9)
 |[.N7,.d (.int .i64 n)],H,_=>if 0<n/\n<=1000000 then J (.own z 0 [],H) else K
 |_,_,_=>K
def tu:List (Key×c7)->Option (List (Int×Int))
 |[]=>J []
 |(.st [.i .i64 a,.i .i64 b],_)::r=>match tu r with
  |some l=>J ((a,b)::l)
  |none=>K
 |_=>K
def ey:List (Int×Int)->List Data
 |[]=>[]
 |(a,b)::r=> .int .i64 a:: .int .i64 b::ey r
def ints (l:List Int):Data:=y6 (λn=>[Z n]) l
def hasB (l:List Int)(n:Int):Bool:=l.any λx=>x5 x n
section
variable {A:Prog} {l:J2} {b:Nat}
variable {dr:Bool} {j8 ops:List o3} {T:List c7} {H:j9} {n:Nat} {rl:List c7} {l6:List Touch} {Q:List c7->j9->List c7->Prop}
namespace S
def bxn {x:y4}{u:List Nat}{v:c7}{cs:List c7}{id:Nat}{H2:j9}(hx:Oq T n rl x v:=by exact ⟨rfl,rfl⟩)(hc:v.cells? =J cs:=by rfl)
  (hi:O H=id:=by simp only [List.length_cons,List.length_nil,Nat.reduceAdd]<;>rfl) (hH:H++[.cells cs]=H2:=by simp only [List.cons_append,List.nil_append]<;>rfl)
  (h2:Ry A l b F j8 ops T H2 (n+1) (.ptr id 0::rl) l6 Q):Ry A l b F j8 (⟨.box x,K,K,u⟩::ops) T H n rl l6 Q:=λhn=>by
 subst hi;have h2:=h2.to hn;rw [<- hH] at h2;refine Rx.stepT (N1:=0) (rs:=[]) rfl (λn _=>?_) h2;simp [y3,y9,B8,s8.B7,if_true,D3,(hx.op hn).G7,hc,E1,newId,Option.getD_none,put,K4,s7,E2]
def nk {x:y4}{u:List Nat}{id o:Nat}(h2:Ry A l b dr j8 ops T H (n+1) (.ptr id o::rl) l6 Q)(hx:rq T n rl x= .ptr id o:=by rfl):Ry A l b dr j8 (⟨.dh x,K,K,u⟩::ops) T H n rl l6 Q :=
 Ry.pure (rs:=[]) rfl (by grind [k8]) h2
def mu {x y:y4}{u:List Nat}{c d:Int}(h2:Ry A l b dr j8 ops T H (n+1) (.d (.int .i64 (c * d))::rl) l6 Q)(h0: -9223372036854775808<=c * d/\c * d<9223372036854775808)(hx:rq T n rl x= .d (.int .i64 c):=by rfl)(hy:rq T n rl y= .d (.int .i64 d):=by rfl) :
  Ry A l b dr j8 (⟨.bin .mul x y,K,K,u⟩::ops) T H n rl l6 Q :=
 Ry.pure (rs:=[]) rfl (by simp_all [k8,M1,Z5,cw,wrap_small]) h2
def ipM {m sz i:Nat}{x y:y4}{u:List Nat}{k:IntKind}{cs:List Data}(h2:Ry A l b dr j8 ops T H (n+1) (.bP (cs.drop (i * sz))::rl) l6 Q)(hx:rq T n rl x= .bP cs:=by rfl)(hy:rq T n rl y= .d (.int k (OfNat.ofNat i)):=by rfl)
  (hi:i<m:=by decide):Ry A l b dr j8 (⟨.iQ m sz x y,K,K,u⟩::ops) T H n rl l6 Q:=ip h2 hx hy hi
end S
def Ex.S4 {mask:List Bool}{body:p7}{R:J6->St->Prop}(Inv:Nat->List c7->j9->Prop)
  (hb:∀k T' H',Inv k T' H' ->Ex A l b body ⟨T',H'⟩ (oI R λs=>∃k',k' <k/\∃T2 H2,clean mask l.strict (O H) s=⟨T2,H2⟩/\Inv k' T2 H2)) {k:Nat} (h:Inv k (U7 mask T) H):Ex A l b (.loop mask body) ⟨T,H⟩ R:=by
 refine Ex.loop (λk s=>∃T2 H2,clean mask l.strict (O H) s=⟨T2,H2⟩/\Inv k T2 H2) (λk s ⟨T2,H2,e,hs⟩=>?_) (k:=k) ⟨U7 mask T,H,wo rfl,h⟩;simp_all
end
section
variable {A:Prog} {l:J2} {b:Nat}
variable {dr:Bool} {j8 ops:List o3} {T:List c7} {H:j9} {n:Nat} {rl:List c7} {l6:List Touch} {Q:List c7->j9->List c7->Prop}
def Ex.rL {c:y4}{d e:p7}{t:Bool}{Q:J6->St->Prop}(h2:Ex A l b d ⟨T,H⟩ Q)(h1:G7 T [] c= .d (.bool t):=by rfl)(ht:t=W:=by assumption):Ex A l b (.cond c d e) ⟨T,H⟩ Q :=
 Ex.cond h1 (λ_=>h2) (λh=>M)
namespace S
def lq3 {x:y4}{u:List Nat}{id o:Nat}{v1 v2 v3:Data}(h2:Ry A l b dr j8 ops T H (n+1) (.agg [.d v1,.d v2,.d v3]::rl) l6 Q)(hx:rq T n rl x= .ptr id o:=by rfl)(hr:rd H id o 3=J [.d v1,.d v2,.d v3]:=by rfl) :
  Ry A l b dr j8 (⟨.load (J 3) x,K,K,u⟩::ops) T H n rl l6 Q :=
 Ry.pure (rs:=[id]) rfl (by simp_all [k8,G4,List.map_nil,c7.K9]) h2
def o1z {x:y4}{u:List Nat}{z:c7}{c:Data}(h2:Ry A l b dr j8 ops T H (n+1) (.own 1 1 [c]::rl) l6 Q)(hx:rq T n rl x= .d c:=by rfl):Ry A l b dr j8 (⟨.J8 1 1 [z] [(0,1,x)] F,K,K,u⟩::ops) T H n rl l6 Q :=
 Ry.pure (rs:=[]) rfl (by simp [k8,Z7,hx,c7.cells?,splice,L1,c7.data?,c7.one]) h2
def clT {f:FuncId}{xs:List y4}{u:List Nat}{v:c7}{args:List c7}{s:Nat}{T2:List c7}(hc:Pf A f args v)(ha:xs.map (rq T n rl)=args:=by rfl)(iD:A.prom f=F:=by rfl)(hm:A.mode f=1:=by rfl)
  (hb:A8 args=0:=by rfl) (hv:v.K9=v:=by rfl) (hs:T[s]?.isSome=W:=by rfl) (hT:T.set s v=T2:=by simp only [List.set_cons_zero,List.set_cons_succ]<;>rfl)
  (h2:Ry A l b dr j8 ops T2 H (n+1) (v::rl) (.slot s::l6) Q):Ry A l b dr j8 (⟨.call f xs,J s,K,u⟩::ops) T H n rl l6 Q:=λhn=>by
 obtain ⟨d7,hc⟩:=hc;have hs:s<O T:=by
  simp_all
 have h2:=h2.to hn;refine Rx.step (N1:=d7) (rs:=[]) rfl rfl (λk hk=>?_) (fu s l6) h2;have h3:C9 (K7 A k l b) (O rl.reverse) f args ⟨T,H,rl.reverse++ .any::List.replicate (O ops) .any,l6⟩=J (put ⟨T,H,rl.reverse++ .any::List.replicate (O ops) .any,l6⟩ (O rl.reverse) v) :=
  dG iD hm hb (hc k hk)
 have ha' :xs.map (A5.G7 T (rl.reverse++ .any::List.replicate (O ops) .any))=args:=by
  rw [show A5.G7 T (rl.reverse++ .any::List.replicate (O ops) .any)=rq T n rl from funext λx=>Q0 hn _ x];exact ha
 have h5:A5.F6 ⟨T,H,rl.reverse++v::List.replicate (O ops) .any,l6⟩ (.loc (O rl.reverse))=(v,⟨T,H,rl.reverse++v::List.replicate (O ops) .any,l6⟩):=by
  grind [A5.F6,c7.K9,A5.G7]
 simp_all [y3,y9,B8,s8.B7,if_true,D3,s7,E2,put,K4]
end S
end
section
variable {A:Prog} {l:J2} {b:Nat}
variable {dr:Bool} {j8 ops:List o3} {T:List c7} {H:j9} {n:Nat} {rl:List c7} {l6:List Touch} {Q:List c7->j9->List c7->Prop}
namespace S
def df {f:FuncId}{a c:List c7}{u:List Nat}(h2:Ry A l b dr j8 ops T H (n+1) (.any::rl) l6 Q)(hi:A.idle f=W:=by rfl):Ry A l b dr j8 (⟨.defer (.const (.func f a c)),K,K,u⟩::ops) T H n rl l6 Q:=λhn=>by
 refine Rx.step (N1:=0) (rs:=[]) rfl rfl (λk _=>?_) (λrs=>by simp [G6]) (h2.to hn);simp_all [K7,y3,y9,B8,s8.B7,if_true,D3,A5.G7,c7.Tm,c7.K9,put,K4,s7,E2]
def dfl {f:FuncId}{x:y4}{a c:List c7}{u:List Nat}(h2:Ry A l b dr j8 ops T H (n+1) (.any::rl) l6 Q)(hx:rq T n rl x= .func f a c:=by rfl)(hi:A.idle f=W:=by rfl):Ry A l b dr j8 (⟨.defer x,K,K,u⟩::ops) T H n rl l6 Q:=λhn=>by
 refine Rx.step (N1:=0) (rs:=[]) rfl rfl (λk _=>?_) (λrs=>by simp [G6]) (h2.to hn);simp_all [K7,y3,y9,B8,s8.B7,if_true,D3,Q0,put,K4,s7,E2]
def ipp {m sz o id o2:Nat}{x y:y4}{u:List Nat}{k:IntKind}{e:Int}(i:Nat)(he:e=i)(ho:o+i * sz=o2)(hi:i<m)(h2:Ry A l b dr j8 ops T H (n+1) (.ptr id o2::rl) l6 Q)(hx:rq T n rl x= .ptr id o:=by rfl)(hy:rq T n rl y= .d (.int k e):=by rfl) :
  Ry A l b dr j8 (⟨.iQ m sz x y,K,K,u⟩::ops) T H n rl l6 Q:=by
 refine Ry.pure (rs:=[]) rfl ?_ h2;simp_all [k8]
def mf {f:FuncId}{a c:List y4}{u:List Nat}{va vc:List c7}(h2:Ry A l b dr j8 ops T H (n+1) (.func f va vc::rl) l6 Q)(ha:a.map (rq T n rl)=va:=by rfl)(hc:c.map (rq T n rl)=vc:=by rfl):Ry A l b dr j8 (⟨.an f a c,K,K,u⟩::ops) T H n rl l6 Q :=
 Ry.pure (rs:=[]) rfl (by simp_all [k8]) h2
end S
end
section
variable {A:Prog} {l:J2} {b:Nat}
variable {dr:Bool} {j8 ops:List o3} {T:List c7} {H:j9} {n:Nat} {rl:List c7} {l6:List Touch} {Q:List c7->j9->List c7->Prop}
namespace S
def bm7 {m sz i o id:Nat}{x y:y4}{u:List Nat}{k:IntKind}(h2:Ry A l b dr j8 ops T H (n+1) (.ptr id (o+i * sz)::rl) l6 Q)(hx:rq T n rl x= .ptr id o:=by rfl)(hy:rq T n rl y= .d (.int k (OfNat.ofNat i)):=by rfl)(hi:i<m:=by decide) :
  Ry A l b dr j8 (⟨.iQ m sz x y,K,K,u⟩::ops) T H n rl l6 Q:=ipp i rfl rfl hi h2 hx hy
end S
end
section
variable {A:Prog} {l:J2} {b:Nat}
variable {dr:Bool} {j8 ops:List o3} {T:List c7} {H:j9} {n:Nat} {rl:List c7} {l6:List Touch} {Q:List c7->j9->List c7->Prop}
namespace S
def sp1 {id off:Nat}{x y:y4}{u:List Nat}{v:c7}{old new:List c7}{H2:j9}(hy:rq T n rl y= .ptr id off:=by rfl)(hx:Oq T n rl x v:=by exact ⟨rfl,rfl⟩)(hc:v.cells? =J [v]:=by rfl)(hl:l.may id=W:=by rfl)(hb:v.J4<=id+1:=by exact Nat.zero_le _)
  (ho:H[id]? =J (.cells old):=by rfl) (hq:off<O old:=by simp) (hN:old.set off v=new:=by first|(simp only [List.set_cons_zero,List.set_cons_succ];done)|rfl) (hH:H.set id (.cells new)=H2:=by simp only [List.set_cons_zero,List.set_cons_succ]<;>rfl)
  (h2:Ry A l b F j8 ops T H2 (n+1) (.any::rl) (.obj id::l6) Q):Ry A l b F j8 (⟨.store 1 y x,K,K,u⟩::ops) T H n rl l6 Q:=so1 hy hx hc hl hb ho hq hN hH h2
end S
end
section
variable {A:Prog} {l:J2} {b:Nat}
variable {dr:Bool} {j8 ops:List o3} {T:List c7} {H:j9} {n:Nat} {rl:List c7} {l6:List Touch} {Q:List c7->j9->List c7->Prop}
namespace S
def alE {α:Type}{enc:α->List Data}{ys:List α}{j sz bytes:Nat}{y:y4}{u:List Nat}{r2:List c7}(hj:lk n rl j=J (.own sz 0 []):=by rfl)(hb:Nat.ble (j+1) n=W:=by rfl)(hy:rq T n rl y= .d (y6 enc ys):=by rfl)
  (hs:∀a,O (enc a)=sz:=by intro;rfl) (h0:0<sz:=by decide) (hr:roomFor (0+O ys) bytes=W:=by simp only [roomFor,decide_eq_true_eq,List.length_append,List.length_cons,List.length_nil,List.length_take,List.length_drop,List.length_map] at * <;>omega)
  (hS:rl.set (n - (j+1)) (.d (.slice 0 []))=r2:=by simp only [Nat.reduceAdd,Nat.reduceSub,List.set_cons_zero,List.set_cons_succ]<;>rfl) (h2:Ry A l b dr j8 ops T H (n+1) (B9 sz enc ys::r2) l6 Q) :
  Ry A l b dr j8 (⟨.append sz bytes F (.loc j) y,K,K,u⟩::ops) T H n rl l6 Q :=
 Ry.aj4 hj hb hy (bt hs ys) hr h0 (by
  simp_all [B9])
end S
end
section
variable {A:Prog} {l:J2} {b:Nat}
def Ex.DO {c:p7}{st:St}{R:J6->St->Prop}{go:St->Prop}(P:St->Prop)(h1:Ex A l b c st (oI (λ_ _=>False) P))(h2:∀s,P s->go s):Ex A l b c st (oI R go):=by
 refine h1.mono λx s h=>?_
 cases x with
 |normal=>exact h2 s h
 |exit i=>exact h.elim
 |ret=>exact h.elim
end
section
variable {A:Prog} {l:J2} {b:Nat}
variable {dr:Bool} {j8 ops:List o3} {T:List c7} {H:j9} {n:Nat} {rl:List c7} {l6:List Touch} {Q:List c7->j9->List c7->Prop}
namespace S
def mvS {s:Nat}{u:List Nat}{w v:c7}(hv:w.K9=v)(h2:Ry A l b dr j8 ops T H (n+1) (v::rl) l6 Q)(hx:T[s]? =J w:=by rfl):Ry A l b dr j8 (⟨.S0 (.slot s),K,K,u⟩::ops) T H n rl l6 Q:=λhn=>by
 refine Rx.step (N1:=0) (rs:=[]) rfl rfl (λk _=>?_) (λrs=>by simp [G6]) (h2.to hn);simp_all [A5.G7,List.replicate,y3,y9,B8,s8.B7,j5,if_false,A5.F6,put,K4,s7,E2]
end S
end
def Pm (A:Prog)(f:FuncId)(args:List c7)(H:j9)(l:J2)(v:c7)(H1:j9):Prop:=∃N,∀n,N<=n->call A n f args H l=J (v,H1)
def Pq (A:Prog)(f:FuncId)(args:List c7)(H:j9)(l:J2)(Post:c7->j9->Prop):Prop:=∃v H1,Post v H1/\Pm A f args H l v H1
section
variable {A:Prog} {l:J2} {b:Nat}
def Pq.run {f:FuncId}{af:r7}{args:List c7}{H:j9}{Post:c7->j9->Prop}(T:List c7)(hp:A.dR f=K)(hf:A.fn f=J af)(hn:O args=af.nparams)(hb:O H=b)
  (hT:args++List.replicate (O af.names - O args) .any=T) (h:Ex A l b af.body ⟨T,H⟩ λx s=>∃w H1,Z4 af b (J (x,s))=J (w,H1)/\Post w H1):Pq A f args H l Post:=by
 obtain ⟨x,s,N,⟨w,H1,hq,hP⟩,h⟩:=h;refine ⟨w,H1,hP,N+1,λn hn' =>?_⟩;obtain ⟨n,rfl⟩:∃j,n=j+1:=⟨n - 1,V⟩;simp_all [GN,tW,K7]
def K6 {H:j9}{s k n:Nat}(h:F3 ((H.take n).drop s)<=n):E6 H s (k+1) n=n:=by
 simp_all [E6,if_pos]
def mz {E:Env}{k m:Nat}{f:FuncId}{args:List c7}{st:I5}{v:c7}{H1:j9}{l2:J2}(iD:E.prom f=F)(hm:E.mode f=0)(hc:E6 st.H E.lim.strict 8 (A8 args)=m)(hle:m<=O st.H)(iP:F3 ((st.H.take m).drop E.lim.strict)<=m)
  (ov:(⟨E.lim.Mo,E.lim.Mn,m,B5 st.H E.lim.strict m⟩:J2)=l2) (h:E.cf f args (st.H.take m) l2=J (v,H1)) (hH:O H1=m) :
  C9 E k f args st=J (put { st with H:=H1++st.H.drop m,l6:= .below m::st.l6 } k v):=by
 simp_all [C9,and_self,if_true,j5,if_false]
def AD {E:Env}{k m:Nat}{f:FuncId}{args:List c7}{st:I5}{v:c7}{H1:j9}{l2:J2}(iD:E.prom f=F)(hm:E.mode f=1)(hc:E6 st.H E.lim.strict 8 (A8 args)=m)(hle:m<=O st.H)(iP:F3 ((st.H.take m).drop E.lim.strict)<=m)
  (ov:(⟨0,m,m,B5 st.H E.lim.strict m⟩:J2)=l2) (h:E.cf f args (st.H.take m) l2=J (v,H1)) (hH:O H1=m) :
  C9 E k f args st=J (put st k v):=by
 simp_all [C9,and_self,if_true,j5,if_false]
variable {dr:Bool} {j8 ops:List o3} {T:List c7} {H:j9} {n:Nat} {rl:List c7} {l6:List Touch} {Q:List c7->j9->List c7->Prop}
def cQ (hn:O rl=n)(xs:List y4):xs.map (A5.G7 T (rl.reverse++ .any::List.replicate (O ops) .any))=xs.map (rq T n rl):=by
 rw [show A5.G7 T (rl.reverse++ .any::List.replicate (O ops) .any)=rq T n rl from funext λx=>Q0 hn _ x]
namespace S
def c0 {f:FuncId}{xs:List y4}{u:List Nat}{v:c7}{args:List c7}{m:Nat}{H0 HD H1 H2:j9}{l2:J2}(hc:Pm A f args H0 l2 v H1)(Na:O H1=m)(iP:F3 ((H.take m).drop l.strict)<=m:=by exact Nat.zero_le _)(hcl:E6 H l.strict 8 (A8 args)=m:=by rfl)
  (MZ:H.take m=H0:=by rfl) (hle:Nat.ble m (O H)=W:=by rfl) (ov:(⟨l.Mo,l.Mn,m,B5 H l.strict m⟩:J2)=l2:=by rfl) (hd:dr=W->Nat.ble (oW j8) n=W:=by intro;rfl)
  (ha:xs.map (rq T n rl)=args:=by rfl) (iD:A.prom f=F:=by rfl) (hm:A.mode f=0:=by rfl) (hD:H.drop m=HD:=by rfl) (hA:H1++HD=H2:=by first|(simp only [List.cons_append,List.nil_append]<;>rfl)|rfl)
  (h2:Ry A l b dr j8 ops T H2 (n+1) (v::rl) (.below m::l6) Q):Ry A l b dr j8 (⟨.call f xs,K,K,u⟩::ops) T H n rl l6 Q:=λhn=>by
 obtain ⟨d7,hc⟩:=hc;subst MZ hD hA;have h2:=h2.to hn;have e1:∀k,d7<=k->y3 (K7 A k l b) j8 K (O rl.reverse) ⟨.call f xs,K,K,u⟩ ⟨T,H,rl.reverse++ .any::List.replicate (O ops) .any,l6⟩=J (⟨T,H1++H.drop m,rl.reverse++v::List.replicate (O ops) .any,.below m::l6⟩,[]):=λk hk=>by
  have h3:C9 (K7 A k l b) (O rl.reverse) f args ⟨T,H,rl.reverse++ .any::List.replicate (O ops) .any,l6⟩=J (put ⟨T,H1++H.drop m,rl.reverse++ .any::List.replicate (O ops) .any,.below m::l6⟩ (O rl.reverse) v) :=
   mz iD hm hcl (j6 hle) iP ov (hc k hk) Na
  simp_all [y3,y9,B8,s8.B7,if_true,D3,cQ,s7,E2,put,K4]
 cases dr with
 |false=>exact Rx.stepT (N1:=d7) (rs:=[]) rfl e1 h2
 |true =>
  refine Rx.KA (N1:=d7) (rs:=[]) rfl rfl rfl e1 (λh=>?_) h2;simp_all<;>omega
def c1 {f:FuncId}{xs:List y4}{u:List Nat}{v:c7}{args:List c7}{m:Nat}{H0 H1:j9}{l2:J2}(hc:Pm A f args H0 l2 v H1)(Na:O H1=m)(h2:Ry A l b dr j8 ops T H (n+1) (v::rl) l6 Q)(iP:F3 ((H.take m).drop l.strict)<=m:=by exact Nat.zero_le _)(hcl:E6 H l.strict 8 (A8 args)=m:=by rfl)
  (MZ:H.take m=H0:=by rfl) (hle:Nat.ble m (O H)=W:=by rfl) (ov:(⟨0,m,m,B5 H l.strict m⟩:J2)=l2:=by rfl)
  (ha:xs.map (rq T n rl)=args:=by rfl) (iD:A.prom f=F:=by rfl) (hm:A.mode f=1:=by rfl):Ry A l b dr j8 (⟨.call f xs,K,K,u⟩::ops) T H n rl l6 Q:=λhn=>by
 obtain ⟨d7,hc⟩:=hc;refine Rx.step (N1:=d7) (rs:=[]) rfl rfl (λk hk=>?_) (λrs=>by simp [G6]) (h2.to hn);simp_all [C9,K7,List.replicate,put,AD,j6,y3,y9,B8,s8.B7,if_true,D3,cQ,s7,E2,K4]
def cv {f:FuncId}{x:y4}{xs:List y4}{u:List Nat}{v:c7}{first caps args:List c7}(hc:Pf A f args v)(h2:Ry A l b dr j8 ops T H (n+1) (v::rl) l6 Q)(hx:rq T n rl x= .func f first caps:=by rfl)(ha:first++xs.map (rq T n rl)++caps=args:=by rfl)(iD:A.prom f=F:=by rfl)(hm:A.mode f=1:=by rfl)
  (hb:A8 args=0:=by rfl):Ry A l b dr j8 (⟨.X9 x xs,K,K,u⟩::ops) T H n rl l6 Q:=λhn=>by
 obtain ⟨d7,hc⟩:=hc;refine Rx.step (N1:=d7) (rs:=[]) rfl rfl (λk hk=>?_) (λrs=>by simp [G6]) (h2.to hn);have h3:C9 (K7 A k l b) (O rl.reverse) f args ⟨T,H,rl.reverse++ .any::List.replicate (O ops) .any,l6⟩=J (put ⟨T,H,rl.reverse++ .any::List.replicate (O ops) .any,l6⟩ (O rl.reverse) v) :=
  dG iD hm hb (hc k hk)
 simp_all [y3,y9,B8,s8.B7,if_true,D3,Q0,cQ,s7,E2,put,K4]
def lk1 {kk:KK}{zero:c7}{x y:y4}{u:List Nat}{id:Nat}{key:Key}{es:List (Key×c7)}{r:Option c7}{v:c7}(hr:cA kk key es=J r)(hv:r.getD zero=v)(h2:Ry A l b dr j8 ops T H (n+1) (v::rl) l6 Q)
  (hx:rq T n rl x= .map id:=by rfl) (hy:(rq T n rl y).Nl =J key:=by rfl) (ho:H[id]? =J (.map es):=by rfl) (hf:kk.fits key=W:=by rfl):Ry A l b dr j8 (⟨.lookup kk zero F x y,K,K,u⟩::ops) T H n rl l6 Q :=
 Ry.pure (rs:=[id]) rfl (by simp_all [k8]) h2
def lk2 {kk:KK}{zero:c7}{x y:y4}{u:List Nat}{id:Nat}{key:Key}{es:List (Key×c7)}{r:Option c7}{v:c7}{t:Bool}(hr:cA kk key es=J r)(hv:r.getD zero=v)(ht:r.isSome=t)(h2:Ry A l b dr j8 ops T H (n+1) (.tuple [v,.d (.bool t)]::rl) l6 Q)
  (hx:rq T n rl x= .map id:=by rfl) (hy:(rq T n rl y).Nl =J key:=by rfl) (ho:H[id]? =J (.map es):=by rfl) (hf:kk.fits key=W:=by rfl):Ry A l b dr j8 (⟨.lookup kk zero W x y,K,K,u⟩::ops) T H n rl l6 Q :=
 Ry.pure (rs:=[id]) rfl (by simp_all [k8]) h2
def mp {kk:KK}{x y z:y4}{u:List Nat}{id:Nat}{key:Key}{es es' :List (Key×c7)}{v:c7}{H2:j9}(hr:eE kk key v es=J es')(hk:Data.dK kk key key=J W)(hx:rq T n rl x= .map id:=by rfl)(hy:(rq T n rl y).Nl =J key:=by rfl)(hz:rq T n rl z=v:=by rfl)(hbv:v.J4<=id+1:=by exact Nat.zero_le _)(hl:l.may id=W:=by rfl)
  (ho:H[id]? =J (.map es):=by rfl) (hd:dr=W->Nat.ble (oW j8) n=W:=by intro;rfl) (hH:H.set id (.map es')=H2:=by simp only [List.set_cons_zero,List.set_cons_succ]<;>rfl)
  (h2:Ry A l b dr j8 ops T H2 (n+1) (.any::rl) (.obj id::l6) Q):Ry A l b dr j8 (⟨.dF kk x y z,K,K,u⟩::ops) T H n rl l6 Q:=λhn=>by
 subst hH;have e1:∀k,0<=k->y3 (K7 A k l b) j8 K (O rl.reverse) ⟨.dF kk x y z,K,K,u⟩ ⟨T,H,rl.reverse++ .any::List.replicate (O ops) .any,l6⟩=J (⟨T,H.set id (.map es'),rl.reverse++ .any::List.replicate (O ops) .any,.obj id::l6⟩,[]):=λk _=>by
  simp_all [K7,y3,y9,B8,s8.B7,if_true,D3,Q0,V8,and_self,put,K4,s7,E2]
 cases dr with
 |false=>exact Rx.stepT (N1:=0) (rs:=[]) rfl e1 (h2.to hn)
 |true =>
  refine Rx.KA (N1:=0) (rs:=[]) rfl rfl rfl e1 (λh=>?_) (h2.to hn);simp_all<;>omega
end S
end
def dmap (ds:List (List UInt8)):List (Key×c7):=ds.map λs=>(.str s,.d (.bool W))
def gn:List (List UInt8)->Nat->List (Key×c7)
 |[],_=>[]
 |s::l,i=>(.str s,.d (.int .i64 (i:Int)))::gn l (i+1)
theorem Ep (s:List UInt8):∀ds,cA .s (.str s) (dmap ds)=J (if ds.any λy=>O4 y s then J (.d (.bool W)) else K)
 |[]=>by rfl
 |d::ds=>by
  have h1:=Ep s ds
  grind [dmap,cA,Data.dK,O4]
theorem IW (s:List UInt8):∀ds,(ds.any λy=>O4 y s)=F->eE .s (.str s) (.d (.bool W)) (dmap ds)=J (dmap (ds++[s]))
 |[],_=>by rfl
 |d::ds,h=>by
  simp only [List.any_cons,D5] at h;have h1:=IW s ds h.2
  grind [ag0,dmap,eE,Data.dK]
theorem JN (s:List UInt8):∀(l:List (List UInt8)) (i:Nat),(l.any λy=>O4 y s)=F->eE .s (.str s) (.d (.int .i64 ((i+O l:Nat):Int))) (gn l i)=J (gn (l++[s]) i)
 |[],i,_=>by rfl
 |d::l,i,h=>by
  simp only [List.any_cons,D5] at h;have h1:=JN s l (i+1) h.2
  grind [ag0,gn,eE,Data.dK]
theorem uH:∀(l:List (List UInt8)) (i:Nat),A8 ((gn l i).map (·.2))=0
 |[],_=>rfl
 |_::l,i=>by simp [gn,A8,c7.J4,uH l (i+1)]
theorem uh:∀l:List (List UInt8),A8 ((dmap l).map (·.2))=0
 |[]=>rfl
 |_::l=>by
  have:=uh l;simp_all [dmap,G4,A8,c7.J4,Nat.zero_max]
section
variable {A:Prog} {l:J2} {b:Nat}
variable {dr:Bool} {j8 ops:List o3} {T:List c7} {H:j9} {n:Nat} {rl:List c7} {l6:List Touch} {Q:List c7->j9->List c7->Prop}
def RE (id off:Nat)(l6:List Touch)(rs:List Nat):G6 ((Touch.cell id off::l6).take (O (Touch.cell id off::l6) - O l6)) rs=F:=by
 simp_all [G6,Touch.F7]
def Ry.Yh {j k sz bytes id off:Nat}{y:y4}{u u' :List Nat}{d' :Option Nat}{g' :Option (Nat×Bool)}{n' len m:Nat}{cs' cells new:List Data}{old:List c7}
  (hj:lk n rl j=J (.d (.slice n' cs'))) (ha:j8[j]? =J ⟨.load K (.loc k),d',g',u'⟩) (hk:lk n rl k=J (.ptr id off)) (ht:l6.any (Touch.aO id off)=F) (hl:l.may id=W) (ho:H[id]? =J (.cells old)) (hc:old[off]? =J (.own sz len cells))
  (hy:rq T n rl y= .d (.slice m new)) (hn' :O new=m * sz) (hr:roomFor (len+m) bytes=W) (h0:0<sz)
  (h2:Ry A l b dr j8 ops T (H.set id (.cells (old.set off (.d (.slice len cells))))) (n+1) (.own sz (len+m) (cells++new)::rl) (.cell id off::l6) Q):Ry A l b dr j8 (⟨.append sz bytes F (.loc j) y,K,K,u⟩::ops) T H n rl l6 Q:=λhn=>by
 have hjl:rl.reverse[j]? =J (.d (.slice n' cs')):=by simp_all [dD]
 have aX:rl.reverse[k]? =J (.ptr id off):=by simp_all [dD]
 have hL:∀r:List c7,(rl.reverse++ .any::r)[j]? =J (.d (.slice n' cs')):=λr=>lM hjl _
 have hK:∀r:List c7,(rl.reverse++ .any::r)[k]? =J (.ptr id off):=λr=>lM aX _
 have an8:A5.G7 T (rl.reverse++ .any::List.replicate (O ops) .any) (.loc j)= .d (.slice n' cs'):=by simp [A5.G7,hL,c7.K9]
 refine Rx.step (N1:=0) (rs:=[]) (by simp_all [G9]) rfl (λq _=>?_) (RE id off l6) (h2.to hn);have hl' :(K7 A q l b).lim.may id=W:=hl;have hs:C7 H sz (.d (.slice m new))=J (m,new.map .d):=by simp_all [C7,if_true]
 simp [y3,y9,B8,s8.B7,if_true,D3,an8,L8,Q0 hn,hy,hs,eW,j5,if_false,T1,hL,ha,aZ,bU,hK,ht,hl',Bool.not_true,Bool.or_self,ho,hc,hr,h0,and_self,put,K4,s7,E2]
namespace S
def o2 {x:y4}{u:List Nat}{z1 z2:c7}{c d:Data}(h2:Ry A l b dr j8 ops T H (n+1) (.own 2 1 [c,d]::rl) l6 Q)(hx:rq T n rl x= .agg [.d c,.d d]:=by rfl):Ry A l b dr j8 (⟨.J8 2 1 [z1,z2] [(0,2,x)] F,K,K,u⟩::ops) T H n rl l6 Q :=
 Ry.pure (rs:=[]) rfl (by simp [k8,Z7,hx,c7.cells?,splice,L1,c7.data?,c7.one]) h2
def ac2 {α:Type}{enc:α->List Data}{xs:List α}{a:α}{j k bytes id off:Nat}{y:y4}{u u' :List Nat}{d' :Option Nat}{g' :Option (Nat×Bool)}{n' :Nat}{cs' :List Data}{c d:Data}{old new:List c7}{H2:j9}
  (hr:roomFor (O xs+1) bytes=W) (he:enc a=[c,d]) (hj:lk n rl j=J (.d (.slice n' cs')):=by rfl) (ha:j8[j]? =J ⟨.load K (.loc k),d',g',u'⟩:=by rfl) (hk:lk n rl k=J (.ptr id off):=by rfl) (ht:l6.any (Touch.aO id off)=F:=by rfl) (hl:l.may id=W:=by rfl) (ho:H[id]? =J (.cells old):=by rfl) (hc:old[off]? =J (B9 2 enc xs):=by rfl)
  (hy:rq T n rl y= .d (.slice 1 [c,d]):=by rfl) (hN:old.set off (.d (y6 enc xs))=new:=by rfl) (hH:H.set id (.cells new)=H2:=by simp only [List.set_cons_zero,List.set_cons_succ]<;>rfl)
  (h2:Ry A l b dr j8 ops T H2 (n+1) (B9 2 enc (xs++[a])::rl) (.cell id off::l6) Q):Ry A l b dr j8 (⟨.append 2 bytes F (.loc j) y,K,K,u⟩::ops) T H n rl l6 Q :=
 Ry.Yh hj ha hk ht hl ho hc hy rfl hr (by decide) (by
  have e1:B9 2 enc (xs++[a])= .own 2 (O xs+1) (xs.flatMap enc++[c,d]):=by simp [B9,he]
  rw [e1] at h2;subst hH hN;exact h2)
def ac1 {α:Type}{enc:α->List Data}{xs:List α}{a:α}{j k bytes id off:Nat}{y:y4}{u u' :List Nat}{d' :Option Nat}{g' :Option (Nat×Bool)}{n' :Nat}{cs' :List Data}{c:Data}{old new:List c7}{H2:j9}
  (hr:roomFor (O xs+1) bytes=W) (he:enc a=[c]) (hj:lk n rl j=J (.d (.slice n' cs')):=by rfl) (ha:j8[j]? =J ⟨.load K (.loc k),d',g',u'⟩:=by rfl) (hk:lk n rl k=J (.ptr id off):=by rfl) (ht:l6.any (Touch.aO id off)=F:=by rfl) (hl:l.may id=W:=by rfl) (ho:H[id]? =J (.cells old):=by rfl) (hc:old[off]? =J (B9 1 enc xs):=by rfl)
  (hy:rq T n rl y= .d (.slice 1 [c]):=by rfl) (hN:old.set off (.d (y6 enc xs))=new:=by rfl) (hH:H.set id (.cells new)=H2:=by simp only [List.set_cons_zero,List.set_cons_succ]<;>rfl)
  (h2:Ry A l b dr j8 ops T H2 (n+1) (B9 1 enc (xs++[a])::rl) (.cell id off::l6) Q):Ry A l b dr j8 (⟨.append 1 bytes F (.loc j) y,K,K,u⟩::ops) T H n rl l6 Q :=
 Ry.Yh hj ha hk ht hl ho hc hy rfl hr (by decide) (by
  have e1:B9 1 enc (xs++[a])= .own 1 (O xs+1) (xs.flatMap enc++[c]):=by simp [B9,he]
  rw [e1] at h2;subst hH hN;exact h2)
def Ik {id off j z n0:Nat}{y:y4}{u:List Nat}{cs:List Data}{old new:List c7}{H2:j9}{r2:List c7}(hy:rq T n rl y= .ptr id off:=by rfl)(hj:lk n rl j=J (.own z n0 cs):=by rfl)(hjb:Nat.ble (j+1) n=W:=by rfl)(hl:l.may id=W:=by rfl)
  (ho:H[id]? =J (.cells old):=by rfl) (hq:Nat.ble (off+1) (O old)=W:=by rfl) (hd:dr=W->Nat.ble (oW j8) n=W:=by intro;rfl) (hN:old.set off (.own z n0 cs)=new:=by rfl) (hH:H.set id (.cells new)=H2:=by simp only [List.set_cons_zero,List.set_cons_succ]<;>rfl)
  (hS:rl.set (n - (j+1)) (.d (.slice n0 cs))=r2:=by simp only [Nat.reduceAdd,Nat.reduceSub,List.set_cons_zero,List.set_cons_succ]<;>rfl)
  (h2:Ry A l b dr j8 ops T H2 (n+1) (.any::r2) (.obj id::l6) Q):Ry A l b dr j8 (⟨.store 1 y (.loc j),K,K,u⟩::ops) T H n rl l6 Q:=λhn=>by
 subst hH hN hS;have XU :off<O old:=j6 hq;have hjl:rl.reverse[j]? =J (.own z n0 cs):=by simp_all [dD]
 have hL:∀r:List c7,(rl.reverse++ .any::r)[j]? =J (.own z n0 cs):=λr=>lM hjl _
 have hjn:j<O rl.reverse:=by grind
 have hlen:O (rl.reverse.set j (.d (.slice n0 cs)))=O rl.reverse:=U
 have h4:∀(a v:c7) (r:List c7),(rl.reverse.set j (.d (.slice n0 cs))++a::r).set (O rl.reverse) v=rl.reverse.set j (.d (.slice n0 cs))++v::r:=λa v r=>M
 have h1:splice old off [.own z n0 cs]=old.set off (.own z n0 cs):=by
  simp_all [splice,E4,P6,if_pos]
 have hw:wr H id off [.own z n0 cs]=J (H.set id (.cells (old.set off (.own z n0 cs)))):=by
  simp_all [wr,E4,if_pos]
 have XP :=h2.to (by simp [hn]);rw [<- Al hn hjb] at XP;have e1:∀k,0<=k->y3 (K7 A k l b) j8 K (O rl.reverse) ⟨.store 1 y (.loc j),K,K,u⟩ ⟨T,H,rl.reverse++ .any::List.replicate (O ops) .any,l6⟩=J (⟨T,H.set id (.cells (old.set off (.own z n0 cs))),rl.reverse.set j (.d (.slice n0 cs))++ .any::List.replicate (O ops) .any,.obj id::l6⟩,[]):=λk _=>by
  have hl' :(K7 A k l b).lim.may id=W:=hl;have hx:A5.F6 ⟨T,H,rl.reverse++ .any::List.replicate (O ops) .any,l6⟩ (.loc j)=(.own z n0 cs,⟨T,H,rl.reverse.set j (.d (.slice n0 cs))++ .any::List.replicate (O ops) .any,l6⟩):=by
   simp_all [A5.F6]
  have hb0:A8 [c7.own z n0 cs]<=id+1:=Nat.zero_le _;have hc1:(c7.own z n0 cs).cells? =J [.own z n0 cs]:=rfl;simp_all [y3,y9,B8,s8.B7,if_true,D3,Q0,S6,E4,true_or,and_self,put,s7,E2]
 cases dr with
 |false=>exact Rx.stepT (N1:=0) (rs:=[]) hlen e1 XP
 |true =>
  refine Rx.KA (N1:=0) (rs:=[]) hlen rfl rfl e1 (λh=>?_) XP;simp_all<;>omega
end S
end
section
variable {A:Prog} {l:J2} {b:Nat}
variable {dr:Bool} {j8 ops:List o3} {T:List c7} {H:j9} {n:Nat} {rl:List c7} {l6:List Touch} {Q:List c7->j9->List c7->Prop}
namespace S
def cv1 {f:FuncId}{x:y4}{xs:List y4}{u:List Nat}{v:c7}{first caps args:List c7}{m:Nat}{H0 H1:j9}{l2:J2}(hc:Pm A f args H0 l2 v H1)(Na:O H1=m)(h2:Ry A l b dr j8 ops T H (n+1) (v::rl) l6 Q)(iP:F3 ((H.take m).drop l.strict)<=m:=by exact Nat.zero_le _)(hcl:E6 H l.strict 8 (A8 args)=m:=by rfl)
  (MZ:H.take m=H0:=by rfl) (hle:Nat.ble m (O H)=W:=by rfl) (ov:(⟨0,m,m,B5 H l.strict m⟩:J2)=l2:=by rfl) (hx:rq T n rl x= .func f first caps:=by rfl)
  (ha:first++xs.map (rq T n rl)++caps=args:=by rfl) (iD:A.prom f=F:=by rfl) (hm:A.mode f=1:=by rfl):Ry A l b dr j8 (⟨.X9 x xs,K,K,u⟩::ops) T H n rl l6 Q:=λhn=>by
 obtain ⟨d7,hc⟩:=hc;subst MZ;refine Rx.step (N1:=d7) (rs:=[]) rfl rfl (λk hk=>?_) (λrs=>by simp [G6]) (h2.to hn);have h3:C9 (K7 A k l b) (O rl.reverse) f args ⟨T,H,rl.reverse++ .any::List.replicate (O ops) .any,l6⟩=J (put ⟨T,H,rl.reverse++ .any::List.replicate (O ops) .any,l6⟩ (O rl.reverse) v) :=
  AD iD hm hcl (j6 hle) iP ov (hc k hk) Na
 simp_all [y3,y9,B8,s8.B7,if_true,D3,Q0,cQ,s7,E2,put,K4]
def cv0 {f:FuncId}{x:y4}{xs:List y4}{u:List Nat}{v:c7}{first caps args:List c7}{m:Nat}{H0 HD H1 H2:j9}{l2:J2}(hc:Pm A f args H0 l2 v H1)(Na:O H1=m)(iP:F3 ((H.take m).drop l.strict)<=m:=by exact Nat.zero_le _)(hcl:E6 H l.strict 8 (A8 args)=m:=by rfl)
  (MZ:H.take m=H0:=by rfl) (hle:Nat.ble m (O H)=W:=by rfl) (ov:(⟨l.Mo,l.Mn,m,B5 H l.strict m⟩:J2)=l2:=by rfl) (hx:rq T n rl x= .func f first caps:=by rfl)
  (ha:first++xs.map (rq T n rl)++caps=args:=by rfl) (iD:A.prom f=F:=by rfl) (hm:A.mode f=0:=by rfl) (hD:H.drop m=HD:=by rfl) (hA:H1++HD=H2:=by first|(simp only [List.cons_append,List.nil_append]<;>rfl)|rfl)
  (h2:Ry A l b F j8 ops T H2 (n+1) (v::rl) (.below m::l6) Q):Ry A l b F j8 (⟨.X9 x xs,K,K,u⟩::ops) T H n rl l6 Q:=λhn=>by
 obtain ⟨d7,hc⟩:=hc;subst MZ hD hA;refine Rx.stepT (N1:=d7) (rs:=[]) rfl (λk hk=>?_) (h2.to hn);have h3:C9 (K7 A k l b) (O rl.reverse) f args ⟨T,H,rl.reverse++ .any::List.replicate (O ops) .any,l6⟩=J (put ⟨T,H1++H.drop m,rl.reverse++ .any::List.replicate (O ops) .any,.below m::l6⟩ (O rl.reverse) v) :=
  mz iD hm hcl (j6 hle) iP ov (hc k hk) Na
 simp_all [y3,y9,B8,s8.B7,if_true,D3,Q0,cQ,s7,E2,put,K4]
end S
end
section
variable {A:Prog} {l:J2} {b:Nat}
def LC (j8:List o3)(na k:Nat)(e:gC):Prop :=
 na∉e.reads/\(k<oW j8->∀rs,na∉rs->G6 e.Jm rs=F)/\e.SP<=na/\(∀i,j8[k]? =J i->i.op.y7=W->e.id=na)/\(∀i,j8[k]? =J i->i.op.ZF=F->e.reads=[])
def Rz (A:Prog)(l:J2)(b:Nat)(j8 ops:List o3)(T:List c7)(H:j9)(n:Nat)(rl:List c7)(l6:List Touch)(na:Nat)(Q:List c7->j9->List c7->Prop):Prop :=
 O rl=n->∃r N,Q r.T r.H r.L/\∀k,N<=k->∃lg:List gC,Q1 (K7 A k l b) j8 ops n na ⟨T,H,rl.reverse++List.replicate (O ops) .any,l6⟩=J (r,lg)/\O lg=O ops/\∀j e,lg[j]? =J e->LC j8 na (n+j) e
variable {j8 ops:List o3} {T:List c7} {H:j9} {n:Nat} {rl:List c7} {l6:List Touch} {na:Nat} {Q:List c7->j9->List c7->Prop}
def Rn.bo5 {T:List c7}{H:j9}{s:Nat}(DB:Y7 ops=[.dead])(xR:slotsOf ops=[.slot s])(hu:∀i,i∈ops->∀e,e∈i.cR->e<O ops)(h:Rz A l b ops ops T (H++[.dead]) 0 [] [.slot s] (O H) Q):Rn A l b ops W T H Q:=by
 obtain ⟨r,N,hq,h⟩:=h rfl;refine ⟨r,N,hq,λn hn=>?_⟩;obtain ⟨lg,e1,e2,e3⟩:=h n hn;simp [Nat.zero_add] at e1 e3;have bj4:dN ops lg=W:=by
  simp only [dN,List.all_eq_true];rintro ⟨i,le⟩ Df e he;obtain ⟨j,hj,hji⟩:=L5 Df;simp [List.length_zip] at hj;have hj1:j<O ops:=V
  have hj2:j<O lg:=V
  simp [List.getElem_zip] at hji;obtain ⟨rfl,rfl⟩:=hji;have hi:ops[j]∈ops:=List.getElem_mem hj1;have hlt:=hu _ hi e he;have he2:e<O lg:=V
  rw [n9 he2];have c1:=e3 j _ (n9 hj2);have c2:=e3 e _ (n9 he2);cases hr:ops[j].op.ZF with
  |true =>
   have hb:=Az hi hr he;have h5:=c2.2.1 hb _ c1.1;have ha:ops[j].op.makes=F:=by
    cases ho:ops[j].op<;>rw [ho] at hr<;>first|rfl|(cases hr)
   simp [h5,ha]
  |false =>
   have h5:=c1.2.2.2.2 _ (n9 hj1) hr;cases hm:ops[j].op.makes with
   |false=>simp [h5,G6]
   |true =>
    have ha:ops[j].op.y7=W:=by
     cases ho:ops[j].op<;>rw [ho] at hm<;>first|exact hm|(cases hm)
    have h7:=c1.2.2.2.1 _ (n9 hj1) ha;have h6:=c2.2.2.1;simp_all [G6]
 simp_all [T9,if_true]
def Rz.nil (h:Q T H rl.reverse):Rz A l b j8 [] T H n rl l6 na Q:=λ_=>⟨⟨T,H,rl.reverse,l6⟩,0,h,λ_ _=>⟨[],by simp [Q1],rfl,λj e h=>by simp at h⟩⟩
def Rz.step {i:o3}{T' :List c7}{H' :j9}{v:c7}{aY :List Touch}{rs:List Nat}{N1:Nat}(hk:∀L,G9 ⟨T,H,L,l6⟩ i.op=F)(hi:j8[n]? =J i)
  (h:O rl=n->∀k,N1<=k->y3 (K7 A k l b) j8 (if i.op.y7 then J na else K) n i ⟨T,H,rl.reverse++ .any::List.replicate (O ops) .any,l6⟩=J (⟨T',H',rl.reverse++v::List.replicate (O ops) .any,aY⟩,rs))
  (hr:na∉rs) (ht:n<oW j8->∀rs,na∉rs->G6 (bw (if i.op.y7 then J na else K)++aY.take (O aY - O l6)) rs=F) (YO:∀k,J1 (K7 A k l b) ⟨T,H,rl.reverse++ .any::List.replicate (O ops) .any,l6⟩ i.op<=na)
  (hn2:i.op.y7=W->∀j,j∈ops->j.op.y7=F) (h2:∀DH,(i.op.y7=F->DH =na)->Rz A l b j8 ops T' H' (n+1) (v::rl) aY na Q/\(i.op.y7=W->∀k r lg,Q1 (K7 A k l b) j8 ops (n+1) na ⟨T',H',(v::rl).reverse++List.replicate (O ops) .any,aY⟩=J (r,lg)->Q1 (K7 A k l b) j8 ops (n+1) (na+1) ⟨T',H',(v::rl).reverse++List.replicate (O ops) .any,aY⟩=J (r,lg))) :
  Rz A l b j8 (i::ops) T H n rl l6 na Q:=λhn=>by
 obtain ⟨h2,h2a⟩:=h2 na (λ_=>rfl);obtain ⟨r,N,hq,h2⟩:=h2 (by simp [hn]);refine ⟨r,max N N1,hq,λk hkk=>?_⟩;obtain ⟨lg,e1,e2,e3⟩:=h2 k V;have h4:=h hn k V;have e1' :Q1 (K7 A k l b) j8 ops (n+1) (if i.op.y7 then na+1 else na) ⟨T',H',rl.reverse++v::List.replicate (O ops) .any,aY⟩=J (r,lg):=by
  grind
 refine ⟨Y9 (K7 A k l b) i (if i.op.y7 then J na else K) ⟨T,H,rl.reverse++ .any::List.replicate (O ops) .any,l6⟩ ⟨T',H',rl.reverse++v::List.replicate (O ops) .any,aY⟩ rs::lg,?_,by simp [e2],?_⟩
 .simp_all [Q1,List.length_cons,O8,ja,Bool.false_and,j5,if_false]
 .intro j e he
  cases j with
  |zero =>
   simp [List.getElem?_cons_zero,Option.some.injEq] at he;subst he;refine ⟨hr,λhb=>ht V,YO k,λi' hi' ha=>?_,λi' hi' hr' =>?_⟩
   .simp_all [Nat.add_zero,Y9]
   .rw [Nat.add_zero,hi] at hi'
    cases hi';exact Cc h4 hr'
  |succ j =>
   grind
theorem BS {E:Env}:∀(ops:List o3) (k na DH :Nat) (st:I5),(∀j,j∈ops->j.op.y7=F)->Q1 E j8 ops k na st=Q1 E j8 ops k DH st
 |[],_,_,_,_,_=>rfl
 |i::ops,k,na,DH,st,h=>by
  have hi:=h i (List.mem_cons_self);simp [Q1,hi,j5,if_false];cases ja E j8 K k i st with
  |none=>rfl
  |some x=>simp [BS ops (k+1) na DH x.1 (λj hj=>h j (List.mem_cons_of_mem _ hj))]
end
section
variable {A:Prog} {l:J2} {b:Nat}
variable {j8 ops:List o3} {T:List c7} {H:j9} {n:Nat} {rl:List c7} {l6:List Touch} {na:Nat} {Q:List c7->j9->List c7->Prop}
def Rz.simple {i:o3}{v:c7}{rs:List Nat}{N1:Nat}(ha:i.op.y7=F)(hk:∀L,G9 ⟨T,H,L,l6⟩ i.op=F)(hi:j8[n]? =J i)
  (h:O rl=n->∀k,N1<=k->y3 (K7 A k l b) j8 K n i ⟨T,H,rl.reverse++ .any::List.replicate (O ops) .any,l6⟩=J (⟨T,H,rl.reverse++v::List.replicate (O ops) .any,l6⟩,rs))
  (hr:na∉rs) (hs:∀k,J1 (K7 A k l b) ⟨T,H,rl.reverse++ .any::List.replicate (O ops) .any,l6⟩ i.op<=na) (h2:Rz A l b j8 ops T H (n+1) (v::rl) l6 na Q):Rz A l b j8 (i::ops) T H n rl l6 na Q :=
 Rz.step (N1:=N1) hk hi (λhn k hk=>M) hr (λ_ rs _=>by grind [bw,G6]) hs (λh=>M) (λ_ _=>⟨h2,λh=>M⟩)
namespace S
def zn (h:Q T H rl.reverse):Rz A l b j8 [] T H n rl l6 na Q:=Rz.nil h
def zp {op:s8}{u:List Nat}{rs:List Nat}(v:c7)(hp:k8 (rq T n rl) H op=J (v,rs))(h2:Rz A l b j8 ops T H (n+1) (v::rl) l6 na Q)(hr:na∉rs:=by simp)(hE:op.B7=F:=by rfl)(ha:op.y7=F:=by rfl)(hk:∀L,G9 ⟨T,H,L,l6⟩ op=F:=by intro;rfl)(hi:j8[n]? =J ⟨op,K,K,u⟩:=by rfl)
  (hs:∀k,J1 (K7 A k l b) ⟨T,H,rl.reverse++ .any::List.replicate (O ops) .any,l6⟩ op<=na:=by intro;exact Nat.zero_le _):Rz A l b j8 (⟨op,K,K,u⟩::ops) T H n rl l6 na Q:=by
 refine Rz.simple (N1:=0) (rs:=rs) ha hk hi (λhn k _=>?_) hr hs h2;have XS:∀x,op≠ .S0 x:=by
  grind [k8]
 have h4:k8 (A5.G7 T (rl.reverse++ .any::List.replicate (O ops) .any)) H op=J (v,rs):=by
  rw [show A5.G7 T (rl.reverse++ .any::List.replicate (O ops) .any)=rq T n rl from funext λx=>Q0 hn _ x];exact hp
 have Ts:∀(a:c7) (r:List c7),(rl.reverse++a::r).set n v=rl.reverse++v::r:=λa r=>M
 simp_all [B8,K7,List.replicate,absurd,j5,if_false,put,s8.B7,y3,y9,s7,E2]
def zm {x:y4}{u:List Nat}{v:c7}(h2:Rz A l b j8 ops T H (n+1) (v::rl) l6 na Q)(hx:Oq T n rl x v:=by exact ⟨rfl,rfl⟩)(hi:j8[n]? =J ⟨.S0 x,K,K,u⟩:=by rfl):Rz A l b j8 (⟨.S0 x,K,K,u⟩::ops) T H n rl l6 na Q:=by
 refine Rz.simple (N1:=0) (rs:=[]) rfl (λ_=>rfl) hi (λhn k _=>?_) U (λk=>Nat.zero_le _) h2;have Ts:∀(a:c7) (r:List c7),(rl.reverse++a::r).set n v=rl.reverse++v::r:=λa r=>M
 simp [y3,y9,B8,s8.B7,j5,if_false,(hx.op hn).F6,put,Ts,s7,E2]
def zc {f:FuncId}{xs:List y4}{u:List Nat}{v:c7}{args:List c7}{m:Nat}{H0 H1:j9}{l2:J2}(hc:Pm A f args H0 l2 v H1)(Na:O H1=m)(h2:Rz A l b j8 ops T H (n+1) (v::rl) l6 na Q)(hmn:m<=na:=by decide)(iP:F3 ((H.take m).drop l.strict)<=m:=by exact Nat.zero_le _)(hcl:E6 H l.strict 8 (A8 args)=m:=by rfl)
  (MZ:H.take m=H0:=by rfl) (hle:Nat.ble m (O H)=W:=by rfl) (ov:(⟨0,m,m,B5 H l.strict m⟩:J2)=l2:=by rfl)
  (ha:xs.map (rq T n rl)=args:=by rfl) (iD:A.prom f=F:=by rfl) (hm:A.mode f=1:=by rfl) (hi:j8[n]? =J ⟨.call f xs,K,K,u⟩:=by rfl) (hn0:O rl=n:=by rfl):Rz A l b j8 (⟨.call f xs,K,K,u⟩::ops) T H n rl l6 na Q:=by
 obtain ⟨d7,hc⟩:=hc;have Sg :∀k,(K7 A k l b).prom f=F:=λ_=>iD
 refine Rz.simple (N1:=d7) (rs:=[]) rfl (λ_=>rfl) hi (λhn k hk=>?_) U (λk=>?_) h2
 .have Ts:∀(a:c7) (r:List c7),(rl.reverse++a::r).set n v=rl.reverse++v::r:=λa r=>M
  simp_all [C9,K7,List.replicate,put,AD,j6,y3,y9,B8,s8.B7,if_true,D3,cQ,s7,E2]
 .have YE :E6 H (K7 A k l b).lim.strict 8 (A8 args)=m:=hcl
  simp_all [J1,j5,if_false,cQ]
def za {zero:List c7}{u:List Nat}{s:Nat}{T2:List c7}{H2:j9}(hs:T[s]?.isSome=W:=by rfl)(htc:l6.any (Touch.U8 s)=W:=by rfl)(hT:T.set s (.ptr na 0)=T2:=by simp only [List.set_cons_zero,List.set_cons_succ]<;>rfl)(hH:H.set na (.cells zero)=H2:=by simp only [List.set_cons_zero,List.set_cons_succ]<;>rfl)
  (hi:j8[n]? =J ⟨.alloc zero,J s,K,u⟩:=by rfl) (hno:ops.all (λj=> !j.op.y7)=W:=by rfl) (h2:Rz A l b j8 ops T2 H2 (n+1) (.ptr na 0::rl) l6 na Q):Rz A l b j8 (⟨.alloc zero,J s,K,u⟩::ops) T H n rl l6 na Q:=by
 have hs:s<O T:=by
  simp_all
 have bj8 :∀j,j∈ops->j.op.y7=F:=λj hj=>M
 refine Rz.step (N1:=0) (rs:=[]) (λ_=>rfl) hi (λhn k _=>?_) U (λ_ rs hrs=>?_) (λk=>Nat.zero_le _) (λ_=>bj8) (λ_ _=>⟨h2,λ_ k r lg h=>by grind [BS]⟩)
 .have Ts:∀(a v:c7) (r:List c7),(rl.reverse++a::r).set n v=rl.reverse++v::r:=λa v r=>M
  simp_all [List.length_reverse,s8.y7,if_true,y3,y9,B8,s8.B7,D3,E1,newId,Option.getD_some,put,s7,V4,A5.F6,decide_true,Bool.and_self,A5.G7,c7.K9]
 grind [s8.y7,bw,G6,Touch.F7]
def zs {m:Nat}{x y:y4}{u:List Nat}{v:c7}{cs old:List c7}{H2:j9}(hd:Nat.ble (oW j8) n=W:=by rfl)(hy:rq T n rl y= .ptr na 0:=by rfl)(hx:Oq T n rl x v:=by exact ⟨rfl,rfl⟩)(hc:v.cells? =J cs:=by rfl)(hm:O cs=m:=by rfl)(hl:l.may na=W:=by rfl)(hb:A8 cs=0:=by rfl)
  (ho:H[na]? =J (.cells old):=by rfl) (hq:O old=m:=by rfl) (hH:H.set na (.cells cs)=H2:=by simp only [List.set_cons_zero,List.set_cons_succ]<;>rfl) (hi:j8[n]? =J ⟨.store m y x,K,K,u⟩:=by rfl)
  (h2:Rz A l b j8 ops T H2 (n+1) (.any::rl) (.obj na::l6) na Q):Rz A l b j8 (⟨.store m y x,K,K,u⟩::ops) T H n rl l6 na Q:=by
 have hw:wr H na 0 cs=J H2:=by
  simp_all [wr,splice,n5]
 refine Rz.step (N1:=0) (rs:=[]) (λ_=>rfl) hi (λhn k _=>?_) U (λh=>?_) (λk=>Nat.zero_le _) (λh=>by cases h) (λ_ _=>⟨h2,λh=>by cases h⟩)
 .have hl' :(K7 A k l b).lim.may na=W:=hl
  have hb' :A8 cs<=na+1:=V
  have Ts:∀(a v:c7) (r:List c7),(rl.reverse++a::r).set n v=rl.reverse++v::r:=λa v r=>M
  simp [s8.y7,j5,if_false,y3,y9,B8,s8.B7,if_true,D3,Q0 hn,hy,S6,(hx.op hn).F6,hc,hm,hl',hb',true_or,and_self,hw,put,Ts,s7,E2]
 simp_all<;>omega
end S
end
section
variable {A:Prog} {l:J2} {b:Nat}
variable {dr:Bool} {j8 ops:List o3} {T:List c7} {H:j9} {n:Nat} {rl:List c7} {l6:List Touch} {Q:List c7->j9->List c7->Prop}
namespace S
def o12 {x y:y4}{u:List Nat}{z1 z2:c7}{c d:Data}(h2:Ry A l b dr j8 ops T H (n+1) (.own 1 2 [c,d]::rl) l6 Q)(hx:rq T n rl x= .d c:=by rfl)(hy:rq T n rl y= .d d:=by rfl):Ry A l b dr j8 (⟨.J8 1 2 [z1,z2] [(0,1,x),(1,1,y)] F,K,K,u⟩::ops) T H n rl l6 Q :=
 Ry.pure (rs:=[]) rfl (by simp [k8,Z7,hx,hy,c7.cells?,splice,L1,c7.data?,c7.one]) h2
def lq2 {α β:Type}{e1:α->List Data}{e2:β->List Data}{xs:List α}{ys:List β}{x:y4}{u:List Nat}{id z1 z2:Nat}(h2:Ry A l b dr j8 ops T H (n+1) (.agg [.d (y6 e1 xs),.d (y6 e2 ys)]::rl) l6 Q)(hx:rq T n rl x= .ptr id 0:=by rfl)(ho:H[id]? =J (.cells [B9 z1 e1 xs,B9 z2 e2 ys]):=by rfl) :
  Ry A l b dr j8 (⟨.load (J 2) x,K,K,u⟩::ops) T H n rl l6 Q :=
 Ry.pure (rs:=[id]) rfl (by simp [k8,hx,rd,ho,B9,y6,c7.K9]) h2
end S
end
section
variable {A:Prog} {l:J2} {b:Nat}
variable {j8 ops:List o3} {T:List c7} {H:j9} {n:Nat} {rl:List c7} {l6:List Touch} {na:Nat} {Q:List c7->j9->List c7->Prop}
namespace S
def zix {α:Type} [Inhabited α] {enc:α->List Data}{xs:List α}{sz:Nat}{e:Int}{x y:y4}{k:IntKind}{u:List Nat}(h0:0<=e/\e<O xs)(h2:Rz A l b j8 ops T H (n+1) (.bP (enc (Y xs e.toNat)++(xs.drop (e.toNat+1)).flatMap enc)::rl) l6 na Q)(hx:rq T n rl x= .d (y6 enc xs):=by rfl)(hy:rq T n rl y= .d (.int k e):=by rfl)(hs:∀a,O (enc a)=sz:=by intro;rfl)
  (hi:j8[n]? =J ⟨.L2 sz x y,K,K,u⟩:=by rfl):Rz A l b j8 (⟨.L2 sz x y,K,K,u⟩::ops) T H n rl l6 na Q:=by
 refine zp (rs:=[]) _ ?_ h2 (hi:=hi);simp_all [nL,F9,k8,y6,and_self,if_true]
def zle {cs rest:List Data}{x:y4}{m:Nat}{u:List Nat}(h2:Rz A l b j8 ops T H (n+1) (.agg (cs.map .d)::rl) l6 na Q)(hx:rq T n rl x= .bP (cs++rest):=by rfl)(hm:O cs=m:=by rfl)(hi:j8[n]? =J ⟨.load (J m) x,K,K,u⟩:=by rfl):Rz A l b j8 (⟨.load (J m) x,K,K,u⟩::ops) T H n rl l6 na Q:=by
 refine zp (rs:=[]) _ ?_ h2 (hi:=hi);simp_all [k8]
def soD {dr:Bool}{m id:Nat}{x y:y4}{u:List Nat}{v:c7}{cs old:List c7}{H2:j9}(hd:Nat.ble (oW j8) n=W:=by rfl)(hy:rq T n rl y= .ptr id 0:=by rfl)(hx:Oq T n rl x v:=by exact ⟨rfl,rfl⟩)(hc:v.cells? =J cs:=by rfl)(hm:O cs=m:=by rfl)(hl:l.may id=W:=by rfl)(hb:A8 cs=0:=by rfl)
  (ho:H[id]? =J (.cells old):=by rfl) (hq:O old=m:=by rfl) (hH:H.set id (.cells cs)=H2:=by simp only [List.set_cons_zero,List.set_cons_succ]<;>rfl)
  (h2:Ry A l b dr j8 ops T H2 (n+1) (.any::rl) (.obj id::l6) Q):Ry A l b dr j8 (⟨.store m y x,K,K,u⟩::ops) T H n rl l6 Q :=
 Ce hd hy hx hc hm hl V (by simp_all [wr,splice,n5]) h2
end S
end
section
variable {A:Prog} {l:J2} {b:Nat}
variable {dr:Bool} {j8 ops:List o3} {T:List c7} {H:j9} {n:Nat} {rl:List c7} {l6:List Touch} {Q:List c7->j9->List c7->Prop}
namespace S
def mk {u:List Nat}{id:Nat}{H2:j9}(hi:O H=id:=by simp only [List.length_cons,List.length_nil,Nat.reduceAdd]<;>rfl)(hH:H++[.map []]=H2:=by simp only [List.cons_append,List.nil_append]<;>rfl)
  (h2:Ry A l b F j8 ops T H2 (n+1) (.map id::rl) l6 Q):Ry A l b F j8 (⟨.makeMap,K,K,u⟩::ops) T H n rl l6 Q:=λhn=>by
 refine Rx.stepT (N1:=0) (rs:=[]) rfl (λn _=>?_) (h2.to hn);simp_all [y3,y9,B8,s8.B7,D3,E1,newId,put,s7,E2]
def bso {sz len:Nat}{zero:List c7}{parts:List (Nat×Nat×y4)}{u:List Nat}{id:Nat}{H2:j9}(cs:List c7)(hr:Z7 zero (parts.map λp=>(p.1,p.2.1,rq T n rl p.2.2))=J cs)(h0:0<sz/\O cs=len * sz)(hi:O H=id:=by simp only [List.length_cons,List.length_nil,Nat.reduceAdd]<;>rfl)(hH:H++[.cells cs]=H2:=by simp only [List.cons_append,List.nil_append]<;>rfl)
  (h2:Ry A l b F j8 ops T H2 (n+1) (.s6 id sz 0 len::rl) l6 Q):Ry A l b F j8 (⟨.J8 sz len zero parts W,K,K,u⟩::ops) T H n rl l6 Q:=λhn=>by
 refine Rx.stepT (N1:=0) (rs:=[]) rfl (λk _=>?_) (h2.to hn);have hr' :Z7 zero (parts.map λp=>(p.1,p.2.1,A5.G7 T (rl.reverse++ .any::List.replicate (O ops) .any) p.2.2))=J cs:=by
  rw [show A5.G7 T (rl.reverse++ .any::List.replicate (O ops) .any)=rq T n rl from funext λx=>Q0 hn _ x];exact hr
 simp_all [y3,y9,B8,s8.B7,if_true,D3,and_self,E1,newId,Option.getD_none,put,K4,s7,E2]
def lrT {x:y4}{u:List Nat}{id sz lo len s:Nat}{T2:List c7}(hx:rq T n rl x= .s6 id sz lo len:=by rfl)(hs:T[s]?.isSome=W:=by rfl)(hT:T.set s (.d (.int .i64 (len:Int)))=T2:=by simp only [List.set_cons_zero,List.set_cons_succ]<;>rfl)
  (h2:Ry A l b dr j8 ops T2 H (n+1) (.d (.int .i64 (len:Int))::rl) (.slot s::l6) Q):Ry A l b dr j8 (⟨.len x,J s,K,u⟩::ops) T H n rl l6 Q :=
 Ry.tF (v:= .d (.int .i64 (len:Int))) (rs:=[]) rfl (by grind [k8,i64]) rfl rfl hs M
def ixs {x y:y4}{u:List Nat}{id sz lo len i:Nat}{k:IntKind}(hi:i<len)(h2:Ry A l b dr j8 ops T H (n+1) (.ptr id (lo+i * sz)::rl) l6 Q)(hx:rq T n rl x= .s6 id sz lo len:=by rfl)(hy:rq T n rl y= .d (.int k ((i:Nat):Int)):=by rfl):Ry A l b dr j8 (⟨.L2 sz x y,K,K,u⟩::ops) T H n rl l6 Q :=
 Ry.pure (rs:=[]) rfl (by
  simp_all [k8]) h2
def Pa {x:y4}{u:List Nat}{id o m:Nat}{vs:List c7}(hr:rd H id o m=J vs)(hv:vs.map c7.K9=vs)(h2:Ry A l b dr j8 ops T H (n+1) (.agg vs::rl) l6 Q)(hx:rq T n rl x= .ptr id o:=by rfl):Ry A l b dr j8 (⟨.load (J m) x,K,K,u⟩::ops) T H n rl l6 Q :=
 Ry.pure (rs:=[id]) rfl (by simp_all [k8]) h2
def soB {m id:Nat}{x y:y4}{u:List Nat}{v:c7}{cs old:List c7}{H2:j9}(hb:A8 cs<=id+1)(hy:rq T n rl y= .ptr id 0:=by rfl)(hx:Oq T n rl x v:=by exact ⟨rfl,rfl⟩)(hc:v.cells? =J cs:=by rfl)(hm:O cs=m:=by rfl)(hl:l.may id=W:=by rfl)
  (ho:H[id]? =J (.cells old):=by rfl) (hq:O old=m:=by rfl) (hH:H.set id (.cells cs)=H2:=by simp only [List.set_cons_zero,List.set_cons_succ]<;>rfl)
  (h2:Ry A l b F j8 ops T H2 (n+1) (.any::rl) (.obj id::l6) Q):Ry A l b F j8 (⟨.store m y x,K,K,u⟩::ops) T H n rl l6 Q :=
 mS hy hx hc hm hl hb (by simp_all [wr,splice,n5]) h2
end S
def G5 {mask:List Bool}{strict m:Nat}{T:List c7}{H:j9}(h1:A8 (U7 mask T)<=m)(h2:F3 ((H.take m).drop strict)<=m):clean mask strict m ⟨T,H⟩=⟨U7 mask T,H.take m⟩:=by
 grind [clean]
end
section
variable {A:Prog} {l:J2} {b:Nat}
variable {j8 ops:List o3} {T:List c7} {H:j9} {n:Nat} {rl:List c7} {l6:List Touch} {Q:List c7->j9->List c7->Prop}
namespace S
def cp {f:FuncId}{xs:List y4}{u:List Nat}{v:c7}{args:List c7}{H1:j9}(hc:Pm A f args H l v H1)(hle:O H<=O H1)(h2:Ry A l b F j8 ops T H1 (n+1) (v::rl) (.below (O H1)::l6) Q)(ha:xs.map (rq T n rl)=args:=by rfl)(iD:A.prom f=W:=by rfl) :
  Ry A l b F j8 (⟨.call f xs,K,K,u⟩::ops) T H n rl l6 Q:=λhn=>by
 obtain ⟨d7,hc⟩:=hc;refine Rx.stepT (N1:=d7) (rs:=[]) rfl (λk hk=>?_) (h2.to hn);have Sg :(K7 A k l b).prom f=W:=iD;have tN :(K7 A k l b).cf f args H (K7 A k l b).lim=J (v,H1):=hc k hk;have h3:C9 (K7 A k l b) (O rl.reverse) f args ⟨T,H,rl.reverse++ .any::List.replicate (O ops) .any,l6⟩=J (put ⟨T,H1,rl.reverse++ .any::List.replicate (O ops) .any,.below (O H1)::l6⟩ (O rl.reverse) v):=by
  simp only [C9,Sg,if_true,tN,hle]
 simp only [y3,y9,B8,s8.B7,if_true,D3,cQ hn,ha,h3,s7,E2,put,K4]
end S
end
theorem EG (id:Nat):∀l:List c7,O6 id l=l.map (c7.kill id)
 |[]=>rfl
 |v::l=>by simp [O6,EG id l]
def Sm {id m:Nat}(rl:List c7):O6 id (rl.reverse++ .any::List.replicate m .any)=(O6 id rl).reverse++ .any::List.replicate m .any:=by
 simp [EG,c7.kill]
theorem Pm.dR {A:Prog}{f:FuncId}{args:List c7}{H H1:j9}{l:J2}{v:c7}{p:List c7->j9->J2->Option (c7×j9)}(hp:A.dR f=J p)(h:p args H l=J (v,H1)):Pm A f args H l v H1 :=
 ⟨1,λn hn=>by
  obtain ⟨n,rfl⟩:∃j,n=j+1:=⟨n - 1,V⟩;simp_all [call]⟩
section
variable {A:Prog} {l:J2} {b:Nat}
variable {dr:Bool} {j8 ops:List o3} {T:List c7} {H:j9} {n:Nat} {rl:List c7} {l6:List Touch} {Q:List c7->j9->List c7->Prop}
def S.mvA {s:Nat}{w v:c7}{u:List Nat}(hw:w.K9=v)(h2:Ry A l b dr j8 ops T H (n+1) (v::rl) l6 Q)(hx:T[s]? =J w:=by rfl):Ry A l b dr j8 (⟨.S0 (.slot s),K,K,u⟩::ops) T H n rl l6 Q:=λhn=>by
 refine Rx.step (N1:=0) (rs:=[]) rfl rfl (λq _=>?_) (λrs=>by simp [G6]) (h2.to hn);simp_all [A5.G7,List.replicate,y3,y9,B8,s8.B7,j5,if_false,A5.F6,put,K4,s7,E2]
end
section
variable {A:Prog} {l:J2} {b:Nat}
variable {j8 ops:List o3} {T:List c7} {H:j9} {n:Nat} {rl:List c7} {l6:List Touch} {Q:List c7->j9->List c7->Prop}
namespace S
def mn {dr:Bool}{s:Nat}{T2:List c7}{u:List Nat}(hs:T[s]?.isSome=W:=by rfl)(hT:T.set s .N7=T2:=by simp only [List.set_cons_zero,List.set_cons_succ]<;>rfl)(h2:Ry A l b dr j8 ops T2 H (n+1) (.N7::rl) (.slot s::l6) Q) :
  Ry A l b dr j8 (⟨.S0 (.const .N7),J s,K,u⟩::ops) T H n rl l6 Q:=λhn=>by
 have hs' :s<O T:=by
  simp_all
 refine Rx.step (N1:=0) (rs:=[]) rfl rfl (λn _=>?_) (fu s l6) (h2.to hn);simp_all [y3,y9,B8,s8.B7,j5,if_false,A5.F6,put,K4,s7,E2,if_true]
end S
end
end Go.A5
namespace Go.A5.S
def gx {Γ Δ:Prop}(k:Δ)(h:PLift Δ->Γ:=by intro a8;(first|refine Ex.seq ?_|refine Ex.region (Rn.text ?_)|refine Ex.region (Rn.draw ?_)|refine Ex.block ?_|refine nl ?_|refine Ex.skip ?_|refine Ex.exit ?_|refine Ex.ret ?_|refine wa ?_|refine sk ?_|refine st ?_|refine mv ?_|refine mt (h2:=?_)|refine mo ?_|refine lp ?_|refine lpo ?_|refine fp ?_|refine ld ?_|refine lf ?_|refine ln ?_|refine li ?_|refine lo ?_|refine gi ?_|refine go ?_|refine ei ?_|refine ni ?_|refine es ?_|refine ns ?_|refine ad ?_|refine sb ?_|refine ng ?_|refine lt ?_|refine le ?_|refine lq ?_|refine lq3 ?_|refine lq2 ?_|refine o12 ?_|refine et ?_|refine ix (h2:=?_)|refine pt ?_|refine pk ?_|refine mw (h2:=?_)|refine ow (h2:=?_)|refine bx (h2:=?_)|refine bxn (h2:=?_)|refine nk ?_|refine nki ?_|refine ac (h2:=?_)|refine so (h2:=?_)|refine sp1 (h2:=?_)|refine o1 ?_|refine o1z ?_|refine ap1 (h2:=?_)|refine e0 ?_|refine Yg (h2:=?_)|refine al1 (h2:=?_)|refine XN (h2:=?_)|refine alE (h2:=?_)|refine xs (h2:=?_)|refine xsN (h2:=?_)|refine ixN (h2:=?_)|refine ixZ (h2:=?_)|refine ls ?_|refine lnT (h2:=?_)|refine lsT (h2:=?_)|refine ldT (h2:=?_)|refine lpT (h2:=?_)|refine qs ?_|refine qb ?_|refine mm ?_|refine ip ?_|refine ipN ?_|refine ipM ?_|refine bm7 ?_|refine df ?_|refine mf ?_|refine Ea ?_|refine svh (h2:=?_)|refine svl (h2:=?_)|refine svb (h2:=?_)|fail);exact a8.down):Γ:=h ⟨k⟩
def gr {Γ Δ:Prop}(k:Δ)(h:PLift Δ->Γ:=by intro a8;(repeat' (first|refine gx ?_|fail));exact a8.down):Γ:=h ⟨k⟩
def cc {p:Prop}(h:p:=by first|(simp [*,j4];done)|(simp_all [j4];done)|(simp_all [j4,A1,x8,o9,I9];done)|(simp_all [j4,A1,x8,o9,I9]<;>omega)):p:=h
section
variable {A:Prog} {l:J2} {b:Nat}
def tB {ops:List o3}{draw:Bool}{c:y4}{d e:p7}{T:List c7}{H:j9}{Q:J6->St->Prop}{Δ:Prop}(t:Bool)(k:Δ)(h2:t=W->Ex A l b d ⟨T,H⟩ Q)(h3:t=F->Ex A l b e ⟨T,H⟩ Q)
  (h:PLift Δ->Rn A l b ops draw T H λT' H' L=>T' =T/\H' =H/\∃t',G7 T' L c= .d (.bool t')/\t' =t:=by intro a8;first|exact Rn.text a8.down|exact Rn.draw a8.down):Ex A l b (.test ops draw c d e) ⟨T,H⟩ Q:=Ex.gw t (h ⟨k⟩) h2 h3
def tb {ops:List o3}{draw:Bool}{c:y4}{d e:p7}{T:List c7}{H:j9}{Q:J6->St->Prop}(t:Bool)(h2:t=W->Ex A l b d ⟨T,H⟩ Q)(h3:t=F->Ex A l b e ⟨T,H⟩ Q)
  (h:Rn A l b ops draw T H λT' H' L=>T' =T/\H' =H/\∃t',G7 T' L c= .d (.bool t')/\t' =t:=by (first|refine Rn.text ?_|refine Rn.draw ?_|fail);(repeat' (first|refine gx ?_|refine fk (h1:=λhw=>?_) (h2:=λhw=>?_)|refine fpk (h1:=λhw=>?_) (h2:=λhw=>?_)|refine ⟨rfl,rfl,_,rfl,?_⟩|refine ⟨rfl,rfl⟩|fail));all_goals exact cc) :
  Ex A l b (.test ops draw c d e) ⟨T,H⟩ Q:=Ex.gw t h h2 h3
end
end Go.A5.S
namespace Go.A5
abbrev J9:=Int×Int
structure O1 where
 src:J9
 dst:J9
 dat:Bool
 deriving DecidableEq,Inhabited
def zC (S:List J9)(p:J9):List J9:=if p∈S then S else S++[p]
def oG:List J9->List J9->List J9
 |S,[]=>S
 |S,p::r=>oG (zC S p) r
def bV (S:List J9)(f:O1):List J9:=if f.src∈S/\f.dst∉S then S++[f.dst] else S
def pass:List J9->List O1->List J9
 |S,[]=>S
 |S,f::r=>pass (bV S f) r
def Ml (fs:List O1):Nat->List J9->List J9
 |0,S=>S
 |n+1,S=>if O (pass S fs)=O S then S else Ml fs n (pass S fs)
def BP (fs:List O1)(l:List J9):List J9:=Ml fs (O fs+1) (oG [] l)
inductive Mk (fs:List O1) (l:List J9):J9->Prop
 |base {p:J9}:p∈l->Mk fs l p
 |step {f:O1}:f∈fs->Mk fs l f.src->Mk fs l f.dst
def Vc {S:List J9}{p q:J9}:q∈zC S p↔q∈S\/q=p:=by
 grind [zC]
theorem Bx:∀(l S:List J9) {q:J9},q∈oG S l↔q∈S\/q∈l
 |[],S,q=>by simp [oG]
 |p::r,S,q=>by
  rw [oG,Bx r,Vc]
  grind
theorem Iv:∀(l S:List J9),O (oG S l)<=O S+O l
 |[],_=>k9 _
 |p::r,S=>by
  have h1:=Iv r (zC S p)
  grind [zC,oG,List.length_cons]
def Fk {S:List J9}{f:O1}{q:J9}(h:q∈S):q∈bV S f:=by
 grind [bV]
def Td (S:List J9)(f:O1):O S<=O (bV S f)/\(O (bV S f)=O S->bV S f=S/\(f.src∈S->f.dst∈S)):=by
 grind [bV]
theorem pX:∀(fs:List O1) {S:List J9} {q:J9},q∈S->q∈pass S fs
 |[],_,_,h=>h
 |_::r,_,_,h=>pX r (Fk h)
theorem uI:∀(fs:List O1) (S:List J9),O S<=O (pass S fs)/\(O (pass S fs)=O S->pass S fs=S/\∀f∈fs,f.src∈S->f.dst∈S)
 |[],_=>⟨k9 _,λ_=>⟨rfl,U⟩⟩
 |f::r,S=>by
  obtain ⟨a1,a2⟩:=Td S f;obtain ⟨b1,b2⟩:=uI r (bV S f)
  grind [pass]
theorem JY {fs:List O1}{l:List J9}:∀(gs:List O1) {S:List J9},(∀g∈gs,g∈fs)->(∀q∈S,Mk fs l q)->∀q∈pass S gs,Mk fs l q
 |[],_,_,h=>h
 |g::r,S,hg,h=>by
  refine JY r (λx hx=>hg x (List.mem_cons_of_mem _ hx)) λq hq=>?_
  unfold bV at hq;split at hq
  next hc=>
   rcases N9.1 hq with hq|hq
   .exact h q hq
   .simp [List.mem_singleton] at hq
    subst hq;exact .step (hg g List.mem_cons_self) (h _ hc.1)
  simp_all
def gI (fs:List O1)(S:List J9):Nat:=O (fs.filter λf=> !decide (f.dst∈S))
theorem BE (fs:List O1)(S:List J9):gI fs S<=O fs:=List.length_filter_le _ _
theorem BF {S S' :List J9}(h:∀q∈S,q∈S'):∀fs:List O1,gI fs S' <=gI fs S
 |[]=>k9 _
 |f::r=>by
  have:=BF h r
  grind [gI]
theorem uF {S S' :List J9}(h:∀q∈S,q∈S'):∀{fs:List O1} {f:O1},f∈fs->f.dst∉S->f.dst∈S' ->gI fs S' <gI fs S
 |g::r,f,hf,h1,h2=>by
  have h3:=BF h r;unfold gI at *
  rcases List.mem_cons.1 hf with rfl|hf
  .grind
  .have h4:=uF h (fs:=r) hf h1 h2
   grind [gI]
theorem BO:∀(fs:List O1) (S:List J9),O (pass S fs)≠O S->∃f∈fs,f.dst∉S/\f.dst∈pass S fs
 |[],S,h=>absurd rfl h
 |f::r,S,h=>by
  rw [pass] at h ⊢
  by_cases hc:f.src∈S/\f.dst∉S
  .simp_all [List.mem_cons_self,pX,bV,if_pos]
  .have e:bV S f=S:=by simp_all [bV]
   rw [e] at h ⊢;obtain ⟨g,hg,h1,h2⟩:=BO r S h
   grind
theorem IP (fs:List O1):∀(n:Nat) (S:List J9),gI fs S<n->(∀q∈S,q∈Ml fs n S)/\(∀f∈fs,f.src∈Ml fs n S->f.dst∈Ml fs n S)
 |0,_,h=>absurd h (Nat.not_lt_zero _)
 |n+1,S,h=>by
  unfold Ml;split
  .grind [uI]
  next he=>
   obtain ⟨f,hf,h1,h2⟩:=BO fs S he;have:=uF (λq hq=>pX fs hq) hf h1 h2;obtain ⟨a,b⟩:=IP fs n (pass S fs) V;simp_all [pX]
theorem Ot {fs:List O1}{l:List J9}:∀(n:Nat) {S:List J9},(∀q∈S,Mk fs l q)->∀q∈Ml fs n S,Mk fs l q
 |0,_,h=>h
 |n+1,S,h=>by
  unfold Ml;split
  .exact h
  .exact Ot n (JY fs (λ_ h=>h) h)
def Vd {fs:List O1}{l:List J9}{q:J9}:q∈BP fs l↔Mk fs l q:=by
 have h:=IP fs (O fs+1) (oG [] l) (by grind [BE,oG]);refine ⟨Ot _ (λq hq=> .base (by simp_all [Bx])) q,λhr=>?_⟩
 induction hr with
 |base hp=>exact h.1 _ (by simp [Bx,hp])
 |step hf _ ih=>exact h.2 _ hf ih
theorem Mk.mono {fs:List O1}{l m:List J9}(h:∀p∈l,Mk fs m p){q:J9}(hr:Mk fs l q):Mk fs m q:=by
 induction hr with
 |base hp=>exact h _ hp
 |step hf _ ih=>exact .step hf ih
def mB (a b:Int):Int:=if a<b then -1 else if b<a then 1 else 0
def wk (a b:J9):Int:=if mB a.1 b.1≠0 then mB a.1 b.1 else mB a.2 b.2
def cfB (a b:Bool):Int:=if a==b then 0 else if a then -1 else 1
def TM (a b:O1):Int:=if wk a.src b.src≠0 then wk a.src b.src else if wk a.dst b.dst≠0 then wk a.dst b.dst else cfB a.dat b.dat
def Nj {α:Type}(cf:α->α->Int)(x:α):List α->List α
 |[]=>[x]
 |y::l=>if cf y x<0 then y::Nj cf x l else x::y::l
def Fj {α:Type}(cf:α->α->Int):List α->List α
 |[]=>[]
 |x::l=>Nj cf x (Fj cf l)
theorem wG {α:Type}(cf:α->α->Int)(x:α):∀l,(Nj cf x l).Perm (x::l)
 |[]=>List.Perm.refl _
 |y::l=>by
  simp [Nj];split
  .exact ((wG cf x l).cons y).trans (List.Perm.swap x y l)
  rfl
theorem nZ {α:Type}(cf:α->α->Int):∀l,(Fj cf l).Perm l
 |[]=>List.Perm.refl _
 |x::l=>(wG cf x _).trans ((nZ cf l).cons x)
theorem OS {α:Type}{cf:α->α->Int}(htr:∀a b c,¬ cf b a<0->¬ cf c b<0->¬ cf c a<0)(hto:∀a b,cf b a<0->¬ cf a b<0)(x:α):∀l:List α,l.Pairwise (λa b=>¬ cf b a<0)->(Nj cf x l).Pairwise λa b=>¬ cf b a<0
 |[],_=>by simp [Nj]
 |y::l,h=>by
  simp only [Nj];rw [O5] at h;split
  .refine O5.2 ⟨λz hz=>?_,OS htr hto x l h.2⟩
   grind [wG]
  grind [O5]
theorem BX {α:Type}{cf:α->α->Int}(htr:∀a b c,¬ cf b a<0->¬ cf c b<0->¬ cf c a<0)(hto:∀a b,cf b a<0->¬ cf a b<0):∀l:List α,(Fj cf l).Pairwise λa b=>¬ cf b a<0
 |[]=>List.Pairwise.nil
 |x::l=>OS htr hto x _ (BX htr hto l)
def yx {α:Type}{cf:α->α->Int}(htr:∀a b c,¬ cf b a<0->¬ cf c b<0->¬ cf c a<0)(hto:∀a b,cf b a<0->¬ cf a b<0)(han:∀a b,¬ cf b a<0->¬ cf a b<0->a=b)(l:List α):(l.mergeSort λx y=> !decide (cf y x<0))=Fj cf l:=by
 refine List.Perm.eq_of_pairwise (le:=λa b=>¬ cf b a<0) (λa b _ _ h1 h2=>han a b h1 h2) ?_ (BX htr hto l) ((List.mergeSort_perm l _).trans (nZ cf l).symm);have:=List.pairwise_mergeSort (le:=λx y:α=> !decide (cf y x<0)) (λa b c h1 h2=>by grind) (λa b=>by
  grind) l
 simp_all
def sortP (l:List J9):List J9:=Fj wk l
def dV (l:List O1):List O1:=Fj TM l
def NH (l:List O1):(dV l).Perm l:=nZ _ _
theorem wU (l:List O1):O (dV l)=O l:=(NH l).length_eq
def O1.enc (f:O1):List Data:=[Z f.src.1,Z f.src.2,Z f.dst.1,Z f.dst.2,.bool f.dat]
def tf:List Data->Option (List O1)
 |[]=>J []
 | .int .i64 a:: .int .i64 b:: .int .i64 c:: .int .i64 d:: .bool t::r=>match tf r with
  |some l=>J (⟨(a,b),(c,d),t⟩::l)
  |none=>K
 |_=>K
def wP (g:FuncId):List c7->j9->J2->Option (c7×j9)
 |[.s6 id 5 lo len,.func g' [] []],H,l=>if g' =g/\l.may id=W/\len<=1000000 then match rd H id lo (len * 5) with
   |some vs=>match L1 vs with
    |some cs=>match tf cs with
     |some fs=>match wr H id lo (((dV fs).flatMap O1.enc).map .d) with
      |some H1=>J (.tuple [],H1)
      |none=>K
     |none=>K
    |none=>K
   |none=>K
  else K
 |[.d (.slice 0 _),.func g' [] []],H,_=>if g' =g then J (.tuple [],H) else K
 |_,_,_=>K
def Ak:List c7->j9->J2->Option (c7×j9)
 |[.map id],H,_=>match H[id]? with
  |some (.map es)=>match tu es with
   |some ks=>if O ks<=1000000 then J (.own 2 (O ks) (ey (sortP ks)),H) else K
   |none=>K
  |_=>K
 |_,_,_=>K
def wM:List c7->j9->J2->Option (c7×j9)
 |[.d (.slice 0 _)],H,_=>J (.d (.slice 0 []),H)
 |as,H,l=>mP as H l
end Go.A5
namespace Go.A5.S
section
variable {A:Prog} {l:J2} {b:Nat} {dr:Bool}
variable {j8 ops:List o3} {T:List c7} {H:j9} {n:Nat} {rl:List c7} {l6:List Touch} {Q:List c7->j9->List c7->Prop}
def lqo {x:y4}{m id o:Nat}{cs:List c7}{u:List Nat}(h2:Ry A l b dr j8 ops T H (n+1) (.agg cs::rl) l6 Q)(hx:rq T n rl x= .ptr id o:=by rfl)(hr:rd H id o m=J cs:=by rfl)(hv:cs.map c7.K9=cs:=by rfl) :
  Ry A l b dr j8 (⟨.load (J m) x,K,K,u⟩::ops) T H n rl l6 Q:=Ry.pure (rs:=[id]) rfl (by simp_all [k8]) h2
def mkm {u:List Nat}{id:Nat}{H2:j9}(hi:O H=id:=by simp only [List.length_cons,List.length_nil,Nat.reduceAdd]<;>rfl)(hH:H++[.map []]=H2:=by simp only [List.cons_append,List.nil_append]<;>rfl)
  (h2:Ry A l b F j8 ops T H2 (n+1) (.map id::rl) l6 Q):Ry A l b F j8 (⟨.makeMap,K,K,u⟩::ops) T H n rl l6 Q:=λhn=>by
 have h2:=h2.to hn;refine Rx.stepT (N1:=0) (rs:=[]) rfl (λn _=>?_) h2;simp_all [y3,y9,B8,s8.B7,D3,E1,newId,put,s7,E2]
end
end Go.A5.S
namespace Go.A5
section
variable {A:Prog} {l:J2} {b:Nat}
variable {j8 ops:List o3} {T:List c7} {H:j9} {n:Nat} {rl:List c7} {l6:List Touch} {na nb:Nat} {Q:List c7->j9->List c7->Prop}
namespace S
end S
end
section
variable {A:Prog} {l:J2} {b:Nat}
variable {j8 ops:List o3} {T:List c7} {H:j9} {n:Nat} {rl:List c7} {l6:List Touch} {na nb:Nat} {Q:List c7->j9->List c7->Prop}
namespace S
section
variable {dr:Bool}
def XV {x y:y4}{u:List Nat}{sz id lo len:Nat}{k:IntKind}{e:Int}(h0:0<=e/\e<len)(h2:Ry A l b dr j8 ops T H (n+1) (.ptr id (lo+e.toNat * sz)::rl) l6 Q)(hx:rq T n rl x= .s6 id sz lo len:=by rfl)(hy:rq T n rl y= .d (.int k e):=by rfl) :
  Ry A l b dr j8 (⟨.L2 sz x y,K,K,u⟩::ops) T H n rl l6 Q:=Ry.pure (rs:=[]) rfl (by simp_all [k8,and_self,if_true]) h2
def XX {x:y4}{id o:Nat}{v:c7}{u:List Nat}(hr:rd H id o 1=J [v])(hv:v.K9=v)(h2:Ry A l b dr j8 ops T H (n+1) (v::rl) l6 Q)(hx:rq T n rl x= .ptr id o:=by rfl) :
  Ry A l b dr j8 (⟨.load K x,K,K,u⟩::ops) T H n rl l6 Q:=Ry.pure (rs:=[id]) rfl (by simp_all [k8]) h2
def sox {id off:Nat}{x y:y4}{u:List Nat}{v:c7}{H2:j9}(hw:wr H id off [v]=J H2)(hd:Nat.ble (oW j8) n=W:=by rfl)(hy:rq T n rl y= .ptr id off:=by rfl)(hx:Oq T n rl x v:=by exact ⟨rfl,rfl⟩)(hc:v.cells? =J [v]:=by rfl)(hl:l.may id=W:=by rfl)(hb:v.J4<=id+1:=by exact Nat.zero_le _)
  (h2:Ry A l b dr j8 ops T H2 (n+1) (.any::rl) (.obj id::l6) Q):Ry A l b dr j8 (⟨.store 1 y x,K,K,u⟩::ops) T H n rl l6 Q :=
 Ce hd hy hx hc rfl hl (by simp_all [A8]) hw h2
end
def mks {x y:y4}{u:List Nat}{sz id len:Nat}{zero:List c7}{H2:j9}(hm:uB sz zero (rq T n rl x) (rq T n rl y)=J len)(hH:H++[.cells (List.replicate len zero).flatten]=H2)(hi:O H=id:=by simp only [List.length_cons,List.length_nil,Nat.reduceAdd]<;>rfl)
  (h2:Ry A l b F j8 ops T H2 (n+1) (.s6 id sz 0 len::rl) l6 Q):Ry A l b F j8 (⟨.iY sz zero x y,K,K,u⟩::ops) T H n rl l6 Q:=λhn=>by
 have h2:=h2.to hn;refine Rx.stepT (N1:=0) (rs:=[]) rfl (λn _=>?_) h2;simp_all [y3,y9,B8,s8.B7,if_true,D3,Q0,E1,newId,Option.getD_none,put,K4,s7,E2]
end S
def iv (n:Int):c7:= .d (Z n)
def aN8 {H:j9}{id a:Nat}{hs:List Int}(h:H[id]? =J (.cells (hs.map iv)))(ha:a<O hs):rd H id (0+a * 1) 1=J [iv (hs[a]?.getD 0)]:=by
 simp only [rd,h,List.length_map,Nat.mul_one];rw [if_pos V]
 congr 1
 apply List.ext_getElem?
 grind
def aP5 {H:j9}{id a:Nat}{hs:List Int}{v:Int}(h:H[id]? =J (.cells (hs.map iv)))(ha:a<O hs):wr H id (0+a * 1) [iv v]=J (H.set id (.cells ((hs.set a v).map iv))):=by
 simp only [wr,h,List.length_map,E4];rw [if_pos V,List.map_set];simp_all [splice,E4,P6,if_pos]
end
section
variable {A:Prog} {l:J2} {b:Nat}
theorem Ex.fz {s:Nat}{st st' :St}{Q:J6->St->Prop}(h:oH l b s st=J st')(h2:Q .normal st'):Ex A l b (.fz s) st Q:=⟨_,_,0,h2,λn _=>by
 simp_all [oH,K7,exec]⟩
def Yy {lim:J2}{s z n:Nat}{xs:List Data}{T:List c7}{H:j9}(hT:T[s]? =J (.own z n xs))(h0:n≠0)(hb:lim.base=0)(hs:lim.strict=0)(hf:xs.all Data.flat=W) :
  oH lim 0 s ⟨T,H⟩=J ⟨(S9 T).set s (.s6 (O H) z 0 n),H.map x4.forget++[.cells (xs.map .d)]⟩:=by
 simp_all [oH,uu,KJ,if_false,and_self,if_true]
def OJ {T:List c7}(hT:T[1000]? =K:=by rfl):oH R5 0 1000 ⟨T,[]⟩=J ⟨T,[.dead]⟩:=by
 simp only [oH,uu,hT,KJ,R5,and_self,if_true,List.nil_append]
def Uw {lim:J2}{s z:Nat}{xs:List Data}{T:List c7}{H:j9}(hT:T[s]? =J (.own z 0 xs)):oH lim 0 s ⟨T,H⟩=J ⟨T,H⟩:=by
 simp_all [oH,uu,KJ]
def Yx {lim:J2}{s z n p:Nat}{xs:List Data}{T:List c7}{H:j9}(hT:T[s]? =J (.ptr p 0))(hH:H[p]? =J (.cells [.own z n xs]))(h0:n≠0)(hb:lim.base=0)(hs:lim.strict=0)(hf:xs.all Data.flat=W) :
  oH lim 0 s ⟨T,H⟩=J ⟨S9 T,(H.map x4.forget).set p (.cells [.s6 (O H) z 0 n])++[.cells (xs.map .d)]⟩:=by
 simp_all [oH,uu,uN,KJ,ye,if_false,and_self,if_true,S9,c7.forget,List.set_cons_zero]
def Uv {lim:J2}{s z p:Nat}{xs:List Data}{T:List c7}{H:j9}(hT:T[s]? =J (.ptr p 0))(hH:H[p]? =J (.cells [.own z 0 xs])):oH lim 0 s ⟨T,H⟩=J ⟨T,H⟩:=by
 simp_all [oH,uu,uN,KJ,ye,if_true]
def Jd {α:Type}{enc:α->List Data}(h:∀a,(enc a).all Data.flat=W):∀l:List α,(l.flatMap enc).all Data.flat=W
 |[]=>rfl
 |a::l=>by grind
end
namespace S
section
variable {A:Prog} {l:J2} {b:Nat} {dr:Bool} {j8 ops:List o3} {T:List c7} {H:j9} {n:Nat} {rl:List c7} {l6:List Touch} {Q:List c7->j9->List c7->Prop}
def ae5:∀cs:List Data,(cs.map c7.d).all c7.one=W
 |[]=>rfl
 |c::cs=>by
  simp_all [G4,List.all_cons,c7.one,Bool.and_self]
def oN {α:Type}{enc:α->List Data}(a:α){sz:Nat}{zero:List c7}{x:y4}{u:List Nat}(h2:Ry A l b dr j8 ops T H (n+1) (.own sz 1 (enc a)::rl) l6 Q)(hx:rq T n rl x= .agg ((enc a).map .d):=by rfl)(hc:O (enc a)=sz:=by rfl)(hz:O zero=sz:=by rfl)(h0:Nat.ble 1 sz=W:=by rfl) :
  Ry A l b dr j8 (⟨.J8 sz 1 zero [(0,sz,x)] F,K,K,u⟩::ops) T H n rl l6 Q:=by
 have h0' :=j6 h0;have h1:Z7 zero [(0,sz,c7.agg ((enc a).map .d))]=J ((enc a).map .d):=by
  simp only [Z7,c7.cells?,ae5,splice,List.take_zero];simp_all
 refine Ry.pure (rs:=[]) rfl ?_ h2;simp [k8,G4,List.map_nil,hx,h1,eW,and_true]
 grind
def msv {s:Nat}{w:c7}{x:Data}{u:List Nat}(hw:w= .d x\/∃z,w= .own z 0 []/\x= .slice 0 [])(h2:Ry A l b dr j8 ops T H (n+1) (.d x::rl) l6 Q)(hT:T[s]? =J w:=by rfl) :
  Ry A l b dr j8 (⟨.S0 (.slot s),K,K,u⟩::ops) T H n rl l6 Q:=by
 rcases hw with rfl|⟨z,rfl,rfl⟩
 .exact mv h2 ⟨hT,rfl⟩
 grind [mo]
def sO {f:FuncId}{xs:List y4}{u:List Nat}{v:c7}{args:List c7}(hc:Pf A f args v)(h2:Ry A l b dr j8 ops T H (n+1) (v::rl) (.below 0::l6) Q)(ha:xs.map (rq T n rl)=args:=by rfl)(hb:A8 args=0:=by rfl)(iD:A.prom f=F:=by rfl)(hm:A.mode f=0:=by rfl)
  (ov:(⟨l.Mo,l.Mn,0,B5 H l.strict 0⟩:J2)=R5:=by rfl):Ry A l b dr j8 (⟨.call f xs,K,K,u⟩::ops) T H n rl l6 Q:=λhn=>by
 obtain ⟨d7,hc⟩:=hc;have h3:∀k,d7<=k->C9 (K7 A k l b) (O rl.reverse) f args ⟨T,H,rl.reverse++ .any::List.replicate (O ops) .any,l6⟩=J (put ⟨T,[]++H.drop 0,rl.reverse++ .any::List.replicate (O ops) .any,.below 0::l6⟩ (O rl.reverse) v):=λk hk =>
  mz (m:=0) (l2:=R5) iD hm (by simp_all [E6]) (Nat.zero_le _) (by simp_all [F3]) ov (by exact hc k hk) rfl
 refine Rx.step (N1:=d7) (rs:=[]) rfl rfl (λk hk=>?_) (λrs=>?_) (h2.to hn)
 all_goals simp_all [y3,y9,B8,s8.B7,if_true,D3,cQ,s7,E2,put,K4,List.drop_zero,List.nil_append,G6,Touch.F7]
def ak3 {f:FuncId}{x:y4}{xs:List y4}{first caps:List c7}{u:List Nat}{v:c7}{args:List c7}(hc:Pf A f args v)(h2:Ry A l b dr j8 ops T H (n+1) (v::rl) (.below 0::l6) Q)(hx:rq T n rl x= .func f first caps:=by rfl)(ha:first++xs.map (rq T n rl)++caps=args:=by rfl)(hb:A8 args=0:=by rfl)(iD:A.prom f=F:=by rfl)(hm:A.mode f=0:=by rfl)
  (ov:(⟨l.Mo,l.Mn,0,B5 H l.strict 0⟩:J2)=R5:=by rfl):Ry A l b dr j8 (⟨.X9 x xs,K,K,u⟩::ops) T H n rl l6 Q:=λhn=>by
 obtain ⟨d7,hc⟩:=hc;have h3:∀k,d7<=k->C9 (K7 A k l b) (O rl.reverse) f args ⟨T,H,rl.reverse++ .any::List.replicate (O ops) .any,l6⟩=J (put ⟨T,[]++H.drop 0,rl.reverse++ .any::List.replicate (O ops) .any,.below 0::l6⟩ (O rl.reverse) v):=λk hk =>
  mz (m:=0) (l2:=R5) iD hm (by simp_all [E6]) (Nat.zero_le _) (by simp_all [F3]) ov (by exact hc k hk) rfl
 refine Rx.step (N1:=d7) (rs:=[]) rfl rfl (λk hk=>?_) (λrs=>?_) (h2.to hn)
 all_goals simp_all [y3,y9,B8,s8.B7,if_true,D3,Q0,cQ,s7,E2,put,K4,List.drop_zero,List.nil_append,G6,Touch.F7]
def bf1 {f:FuncId}{xs:List y4}{u:List Nat}{z n0:Nat}{cs:List Data}{args:List c7}{s:Nat}{T2:List c7}(hc:Pf A f args (.own z n0 cs))(ha:xs.map (rq T n rl)=args:=by rfl)(iD:A.prom f=F:=by rfl)(hm:A.mode f=1:=by rfl)
  (hb:A8 args=0:=by rfl) (hs:T[s]?.isSome=W:=by rfl) (hT:T.set s (.own z n0 cs)=T2:=by simp only [List.set_cons_zero,List.set_cons_succ]<;>rfl)
  (h2:Ry A l b dr j8 ops T2 H (n+1) (.d (.slice n0 cs)::rl) (.slot s::l6) Q):Ry A l b dr j8 (⟨.call f xs,J s,K,u⟩::ops) T H n rl l6 Q:=λhn=>by
 obtain ⟨d7,hc⟩:=hc;have hs:s<O T:=by
  simp_all
 have h2:=h2.to hn;refine Rx.step (N1:=d7) (rs:=[]) rfl rfl (λk hk=>?_) (fu s l6) h2;have h3:C9 (K7 A k l b) (O rl.reverse) f args ⟨T,H,rl.reverse++ .any::List.replicate (O ops) .any,l6⟩=J (put ⟨T,H,rl.reverse++ .any::List.replicate (O ops) .any,l6⟩ (O rl.reverse) (.own z n0 cs)) :=
  dG iD hm hb (hc k hk)
 have ha' :xs.map (A5.G7 T (rl.reverse++ .any::List.replicate (O ops) .any))=args:=by
  rw [show A5.G7 T (rl.reverse++ .any::List.replicate (O ops) .any)=rq T n rl from funext λx=>Q0 hn _ x];exact ha
 have h5:A5.F6 ⟨T,H,rl.reverse++ .own z n0 cs::List.replicate (O ops) .any,l6⟩ (.loc (O rl.reverse))=(.own z n0 cs,⟨T,H,rl.reverse++ .d (.slice n0 cs)::List.replicate (O ops) .any,l6⟩):=by
  simp_all [A5.F6]
 simp_all [y3,y9,B8,s8.B7,if_true,D3,s7,E2,put,K4]
def bn9 {k:Nat}{cs:List Data}{x:y4}{u:List Nat}{s:Nat}{T2:List c7}(hx:rq T n rl x= .d (.slice k cs):=by rfl)(hs:T[s]?.isSome=W:=by rfl)(hT:T.set s (.d (.int .i64 k))=T2:=by simp only [List.set_cons_zero,List.set_cons_succ]<;>rfl)
  (h2:Ry A l b dr j8 ops T2 H (n+1) (.d (.int .i64 k)::rl) (.slot s::l6) Q):Ry A l b dr j8 (⟨.len x,J s,K,u⟩::ops) T H n rl l6 Q :=
 Ry.tF (v:= .d (.int .i64 k)) (rs:=[]) rfl (by grind [k8,i64]) rfl rfl hs M
def bsv {sz len:Nat}{zero:List c7}{parts:List (Nat×Nat×y4)}(cs:List Data){u:List Nat}(h2:Ry A l b dr j8 ops T H (n+1) (.own sz len cs::rl) l6 Q)(hr:Z7 zero (parts.map λp=>(p.1,p.2.1,rq T n rl p.2.2))=J (cs.map .d):=by rfl)(hl:O cs=len * sz:=by rfl)(h0:Nat.ble 1 sz=W:=by rfl) :
  Ry A l b dr j8 (⟨.J8 sz len zero parts F,K,K,u⟩::ops) T H n rl l6 Q:=by
 have h0' :=j6 h0;refine Ry.pure (rs:=[]) rfl ?_ h2;have hr' :Z7 zero (parts.map λx=>match x with|(o,s,x)=>(o,s,rq T n rl x))=J (cs.map .d):=hr;simp [k8,hr',eW,hl]
 grind
def owS {j s d z n0 n' :Nat}{cs cs' :List Data}{u u' :List Nat}{d' :Option Nat}{g' :Option (Nat×Bool)}{T2:List c7}(h2:Ry A l b dr j8 ops T2 H (n+1) (.d (.slice n0 cs)::rl) (.slot d:: .slot s::l6) Q)
  (hj:lk n rl j=J (.d (.slice n' cs')):=by rfl) (ha:j8[j]? =J ⟨.S0 (.slot s),d',g',u'⟩:=by rfl) (ht:l6.any (Touch.U8 s)=F:=by rfl) (hT:T[s]? =J (.own z n0 cs):=by rfl)
  (hs:T[d]?.isSome=W:=by rfl) (hT2:(T.set s (.d (.slice n0 cs))).set d (.own z n0 cs)=T2:=by simp only [List.set_cons_zero,List.set_cons_succ]<;>rfl) :
  Ry A l b dr j8 (⟨.own z (.loc j),J d,K,u⟩::ops) T H n rl l6 Q:=λhn=>by
 have hj' :rl.reverse[j]? =J (.d (.slice n' cs')):=by simp_all [dD]
 have hjl:j<O rl.reverse:=by
  grind
 have hs' :d<O (T.set s (.d (.slice n0 cs))):=by
  simp_all
 have hL:∀r:List c7,(rl.reverse++ .any::r)[j]? =J (.d (.slice n' cs')):=λr=>by grind
 have h2:=h2.to hn;rw [<- hT2] at h2;refine Rx.step (N1:=0) (rs:=[]) rfl rfl (λk _=>?_) (λrs=>?_) h2
 .have h5:A5.F6 ⟨T.set s (.d (.slice n0 cs)),H,rl.reverse++ .own z n0 cs::List.replicate (O ops) .any,.slot s::l6⟩ (.loc (O rl.reverse))=(.own z n0 cs,⟨T.set s (.d (.slice n0 cs)),H,rl.reverse++ .d (.slice n0 cs)::List.replicate (O ops) .any,.slot s::l6⟩):=by
   simp_all [A5.F6]
  simp only [y3,y9,B8,s8.B7,if_true,D3,T1,hL,ha,aZ,ht,hT,j5,if_false,put,K4,s7,E2,hs',h5]
 .have:O l6+1+1 - O l6=2:=V
  simp [G6,this,Touch.F7]
def moT {s d z n0:Nat}{cs:List Data}{u:List Nat}{T2:List c7}(hx:T[s]? =J (.own z n0 cs):=by rfl)(hs:T[d]?.isSome=W:=by rfl)(hT:T.set d (.d (.slice n0 cs))=T2:=by simp only [List.set_cons_zero,List.set_cons_succ]<;>rfl)
  (h2:Ry A l b dr j8 ops T2 H (n+1) (.d (.slice n0 cs)::rl) (.slot d::l6) Q):Ry A l b dr j8 (⟨.S0 (.slot s),J d,K,u⟩::ops) T H n rl l6 Q:=λhn=>by
 have hs' :d<O T:=by
  simp_all
 have h2:=h2.to hn;refine Rx.step (N1:=0) (rs:=[]) rfl rfl (λk _=>?_) (fu d l6) h2;have e1:∀r,A5.F6 ⟨T,H,r,l6⟩ (.slot s)=(.d (.slice n0 cs),⟨T,H,r,l6⟩):=λr=>by simp [A5.F6,A5.G7,hx,c7.K9]
 have h5:A5.F6 ⟨T,H,rl.reverse++ .d (.slice n0 cs)::List.replicate (O ops) .any,l6⟩ (.loc (O rl.reverse))=(.d (.slice n0 cs),⟨T,H,rl.reverse++ .d (.slice n0 cs)::List.replicate (O ops) .any,l6⟩):=by
  simp_all [A5.F6,A5.G7,c7.K9]
 simp_all [y3,y9,B8,s8.B7,j5,if_false,put,K4,s7,E2,if_true]
def acN {α:Type}{enc:α->List Data}{xs:List α}(a:α){j k sz bytes id off:Nat}{y:y4}{u u' :List Nat}{d' :Option Nat}{g' :Option (Nat×Bool)}{n' :Nat}{cs' :List Data}{old new:List c7}{H2:j9}
  (hr:roomFor (O xs+1) bytes=W) (hy:rq T n rl y= .d (.slice 1 (enc a)):=by rfl) (hs:O (enc a)=1 * sz:=by rfl) (h0:Nat.ble 1 sz=W:=by rfl) (hj:lk n rl j=J (.d (.slice n' cs')):=by rfl) (ha:j8[j]? =J ⟨.load K (.loc k),d',g',u'⟩:=by rfl) (hk:lk n rl k=J (.ptr id off):=by rfl) (ht:l6.any (Touch.aO id off)=F:=by rfl) (hl:l.may id=W:=by rfl) (ho:H[id]? =J (.cells old):=by rfl) (hc:old[off]? =J (B9 sz enc xs):=by rfl)
  (hN:old.set off (.d (y6 enc xs))=new:=by rfl) (hH:H.set id (.cells new)=H2:=by simp only [List.set_cons_zero,List.set_cons_succ]<;>rfl)
  (h2:Ry A l b dr j8 ops T H2 (n+1) (B9 sz enc (xs++[a])::rl) (.cell id off::l6) Q):Ry A l b dr j8 (⟨.append sz bytes F (.loc j) y,K,K,u⟩::ops) T H n rl l6 Q :=
 Ry.Yh hj ha hk ht hl ho hc hy hs hr (j6 h0) (by
  have e1:B9 sz enc (xs++[a])= .own sz (O xs+1) (xs.flatMap enc++enc a):=by simp [B9]
  rw [e1] at h2;subst hH hN;exact h2)
end
end S
section
variable {A:Prog} {l:J2} {b:Nat} {T:List c7} {H:j9}
def Ex.M4 {mask:List Bool}{body:p7}{R:J6->St->Prop}(Inv:Nat->List c7->j9->Prop)
  (hb:∀k T' H',Inv k T' H' ->Ex A l b body ⟨T',H'⟩ (oI R λs=>∃k',k' <k/\Inv k' (U7 mask s.T) s.H)) {k:Nat} (h:Inv k (U7 mask T) H)
  (hl:∀k T' H',Inv k T' H' ->O H'=O H:=by simp only [forall_exists_index,and_imp];intros;subst_vars;rfl):Ex A l b (.loop mask body) ⟨T,H⟩ R:=by
 refine Ex.loop (λk s=>Inv k (U7 mask s.T) s.H) (λk s hs=>?_) (k:=k) h;obtain ⟨T',H'⟩:=s;rw [wo (hl k _ H' hs)];exact hb k _ H' hs
def Ex.fh {mask:List Bool}{body:p7}{R:J6->St->Prop}(Inv:Nat->List c7->j9->Prop)
  (hb:∀k T' H',Inv k T' H' ->Ex A l b body ⟨U7 mask T',H'⟩ (oI R λs=>∃k',k' <k/\Inv k' s.T s.H)) {k:Nat} (h:Inv k T H)
  (hl:∀k T' H',Inv k T' H' ->O H'=O H:=by simp only [forall_exists_index,and_imp];intros;subst_vars;rfl):Ex A l b (.loop mask body) ⟨T,H⟩ R:=Ex.EM Inv hl hb h
def Pf.go {f:FuncId}{af:r7}{args:List c7}{v:c7}{T:List c7}(n:Nat)(h:Ex A R5 0 af.body ⟨T,[]⟩ λx s=>∃w,Z4 af 0 (J (x,s))=J (w,[])/\w=v)
  (hf:A.fn f=J af:=by rfl) (hp:A.dR f=K:=by rfl) (hn:O args=af.nparams:=by rfl)
  (hT:args++List.replicate n .any=T:=by simp only [List.replicate,List.cons_append,List.nil_append]<;>rfl) (hN:O af.names - O args=n:=by rfl):Pf A f args v :=
 Pf.run T hp hf hn (by rw [hN];exact hT) h
def Pf.gr {f:FuncId}{af:r7}{args:List c7}{v:c7}{T:List c7}{Δ:Prop}(n:Nat)(k:Δ)
  (hf:A.fn f=J af:=by rfl) (hp:A.dR f=K:=by rfl) (hn:O args=af.nparams:=by rfl)
  (hT:args++List.replicate n .any=T:=by simp only [List.replicate,List.cons_append,List.nil_append]<;>rfl) (hN:O af.names - O args=n:=by rfl)
  (h:PLift Δ->Ex A R5 0 af.body ⟨T,[]⟩ λx s=>∃w,Z4 af 0 (J (x,s))=J (w,[])/\w=v:=by intro a8;(repeat' (first|refine gx ?_|fail));exact a8.down):Pf A f args v :=
 Pf.go n (h ⟨k⟩) hf hp hn hT hN
def kk {P:Nat->Prop}{k:Nat}(h:P (k - 1))(hk:k - 1<k:=by omega):∃k',k' <k/\P k' :=⟨_,hk,h⟩
def Pq.go {f:FuncId}{af:r7}{args:List c7}{H:j9}{Post:c7->j9->Prop}{T:List c7}(n:Nat)(h:Ex A l b af.body ⟨T,H⟩ λx s=>∃w H1,Z4 af b (J (x,s))=J (w,H1)/\Post w H1)
  (hf:A.fn f=J af:=by rfl) (hp:A.dR f=K:=by rfl) (hn:O args=af.nparams:=by rfl) (hb:O H=b:=by rfl)
  (hT:args++List.replicate n .any=T:=by simp only [List.replicate,List.cons_append,List.nil_append]<;>rfl) (hN:O af.names - O args=n:=by rfl):Pq A f args H l Post :=
 Pq.run T hp hf hn hb (by rw [hN];exact hT) h
end
namespace S
def gy {Γ Δ:Prop}(k:Δ)(h:PLift Δ->Γ:=by intro a8;(first|refine gx ?_|refine Ex.rL ?_|refine Ex.ud ?_|refine Ex.test (Rn.text ?_)|refine Ex.test (Rn.draw ?_)|fail);exact a8.down):Γ:=h ⟨k⟩
def fq {Γ Δ E p q:Prop}(k:p->Δ)(m:q->E)(h:PLift (p->Δ)->PLift (q->E)->Γ:=by intro a8 L;first|exact fk (h1:=a8.down) (h2:=L.down)|exact fpk (h1:=a8.down) (h2:=L.down)|exact Ex.cond rfl a8.down L.down|exact ⟨_,rfl,a8.down,L.down⟩):Γ:=h ⟨k⟩ ⟨m⟩
def ft {Γ Δ E p q:Prop}(k:p->Δ)(m:q->E)(h:PLift (p->Δ)->PLift (q->E)->Γ:=by intro a8 L;first|exact Ex.cond rfl a8.down L.down|exact ⟨_,rfl,a8.down,L.down⟩):Γ:=h ⟨k⟩ ⟨m⟩
def gc {P Γ Δ:Prop}(p:P)(k:Δ)(h:PLift P->PLift Δ->Γ:=by intro p a8;(repeat' (first|refine cl (p.down ..) ?_|refine sO (p.down ..) ?_|refine cl (p.down.1 ..) ?_|refine cl (p.down.2 ..) ?_|refine sO (p.down.1 ..) ?_|refine sO (p.down.2 ..) ?_|refine cl (p.down.2.1 ..) ?_|refine cl (p.down.2.2 ..) ?_|refine sO (p.down.2.1 ..) ?_|refine sO (p.down.2.2 ..) ?_|refine gx ?_|fail));exact a8.down):Γ:=h ⟨p⟩ ⟨k⟩
section
variable {A:Prog} {l:J2} {b:Nat}
def tc {P:Prop}{ops:List o3}{draw:Bool}{c:y4}{d e:p7}{T:List c7}{H:j9}{Q:J6->St->Prop}(t:Bool)(p:P)(h2:t=W->Ex A l b d ⟨T,H⟩ Q)(h3:t=F->Ex A l b e ⟨T,H⟩ Q)
  (h:PLift P->Rn A l b ops draw T H λT' H' L=>T' =T/\H' =H/\∃t',G7 T' L c= .d (.bool t')/\t' =t:=by intro p;(first|refine Rn.text ?_|refine Rn.draw ?_|fail);(repeat' (first|refine cl (p.down ..) ?_|refine sO (p.down ..) ?_|refine cl (p.down.1 ..) ?_|refine cl (p.down.2 ..) ?_|refine sO (p.down.1 ..) ?_|refine sO (p.down.2 ..) ?_|refine cl (p.down.2.1 ..) ?_|refine cl (p.down.2.2 ..) ?_|refine sO (p.down.2.1 ..) ?_|refine sO (p.down.2.2 ..) ?_|refine gx ?_|refine fk (h1:=λhw=>?_) (h2:=λhw=>?_)|refine fpk (h1:=λhw=>?_) (h2:=λhw=>?_)|refine ⟨rfl,rfl,_,rfl,?_⟩|refine ⟨rfl,rfl⟩|fail));all_goals exact cc) :
  Ex A l b (.test ops draw c d e) ⟨T,H⟩ Q:=Ex.gw t (h ⟨p⟩) h2 h3
def tl {ops:List o3}{draw:Bool}{c:y4}{d e:p7}{T:List c7}{H:j9}{Q:J6->St->Prop}(x y:Int)(h2:x<y->Ex A l b d ⟨T,H⟩ Q)(h3:y<=x->Ex A l b e ⟨T,H⟩ Q)
  (h:Rn A l b ops draw T H λT' H' L=>T' =T/\H' =H/\∃t',G7 T' L c= .d (.bool t')/\t' =F0 x y:=by (first|refine Rn.text ?_|refine Rn.draw ?_|fail);(repeat' (first|refine gx ?_|refine fk (h1:=λhw=>?_) (h2:=λhw=>?_)|refine fpk (h1:=λhw=>?_) (h2:=λhw=>?_)|refine ⟨rfl,rfl,_,rfl,?_⟩|refine ⟨rfl,rfl⟩|fail));all_goals exact cc) :
  Ex A l b (.test ops draw c d e) ⟨T,H⟩ Q:=Ex.gw (F0 x y) h (λh=>h2 (C8 h)) λh=>h3 (D4 h)
end
end S
def nA (op:Int):Int :=
 if x5 op 1||x5 op 2 then 0 else if x5 op 3||x5 op 9||x5 op 13||x5 op 16 then 1 else if x5 op 18 then 3 else if aH 1 op&&aH op 18 then 2 else -1
def iW (k n:Int)(s:K0):Bool :=
 if x5 k 0 then x5 n 0&&O4 s [] else if x5 k 1 then aH (-4294967296) n&&aH n 4294967296&&O4 s [] else if x5 k 2 then x5 n 0&&aH (O s) 32 else F
def zeroV (t:X0):Bool:=x5 t.kind 0&&x5 t.int 0&&O4 t.text []
def eo (t:X0):Bool :=
 if x5 t.op 1 then iW t.kind t.int t.text&& !x5 t.kind 0&&x5 t.col 0 else if x5 t.op 2 then zeroV t&&aH 0 t.col else zeroV t&&x5 t.col 0
def Aj (t:X0):Bool:= !F0 (nA t.op) 0&&eo t
def qL (op:Int):nA op<=3:=by
 grind [nA]
inductive bF where
 |node (t:X0) (l:List bF)
mutual
def bF.flat:bF->List X0
 | .node t l=>t::O2 l
def O2:List bF->List X0
 |[]=>[]
 |a::l=>a.flat++O2 l
end
mutual
def bF.dep:bF->Nat
 | .node _ l=>nG l+1
def nG:List bF->Nat
 |[]=>0
 |a::l=>max a.dep (nG l)
end
mutual
def bF.wf:bF->Prop
 | .node t l=>Aj t=W/\(nA t.op).toNat=O l/\Ya l
def Ya:List bF->Prop
 |[]=>True
 |a::l=>a.wf/\Ya l
end
def ga (f:List X0->Option (bF×List X0)):Nat->List X0->Option (List bF×List X0)
 |0,r=>J ([],r)
 |k+1,r=>match f r with
  |none=>K
  |some (a,r')=>match ga f k r' with
   |none=>K
   |some (l,r2)=>J (a::l,r2)
def P0:Nat->List X0->Option (bF×List X0)
 |0,_=>K
 |_+1,[]=>K
 |d+1,t::r=>if Aj t then match ga (P0 d) (nA t.op).toNat r with
   |none=>K
   |some (l,r')=>J (.node t l,r')
  else K
theorem Bq {f:List X0->Option (bF×List X0)}{d:Nat}(hf:∀r a r',f r=J (a,r')->r=a.flat++r' /\a.wf/\a.dep<=d):∀(k:Nat) (r:List X0) (l:List bF) (r' :List X0),ga f k r=J (l,r')->r=O2 l++r' /\Ya l/\nG l<=d/\O l=k
 |0,r,l,r',h=>by
  simp_all [ga,Option.some.injEq,Prod.mk.injEq,O2,Ya,nG]
 |k+1,r,l,r',h=>by
  simp [ga] at h;split at h
  .cases h
  next a r1 h1=>
   split at h
   .cases h
   next l2 r2 h2=>
    obtain ⟨rfl,rfl⟩:=h;obtain ⟨e1,e2,e3⟩:=hf _ _ _ h1;obtain ⟨g1,g2,g3,g4⟩:=Bq hf k _ _ _ h2;refine ⟨?_,⟨e2,g2⟩,?_,by simp [g4]⟩
    all_goals grind [O2,nG]
theorem V2:∀(d:Nat) (r:List X0) (a:bF) (r' :List X0),P0 d r=J (a,r')->r=a.flat++r' /\a.wf/\a.dep<=d
 |0,r,a,r',h=>by simp [P0] at h
 |d+1,[],a,r',h=>by simp [P0] at h
 |d+1,t::r,a,r',h=>by
  simp only [P0] at h;split at h
  next ht=>
   split at h
   .cases h
   next l r1 h1=>
    obtain ⟨rfl,rfl⟩:=h;obtain ⟨g1,g2,g3,g4⟩:=Bq (V2 d) _ _ _ _ h1;refine ⟨?_,⟨ht,g4.symm,g2⟩,?_⟩
    all_goals simp_all [bF.flat,bF.dep]
  .cases h
mutual
theorem aq:∀(a:bF) (d:Nat) (r:List X0),a.wf->a.dep<=d->P0 d (a.flat++r)=J (a,r)
 | .node t l,0,r,_,h=>by simp [bF.dep] at h
 | .node t l,d+1,r,hw,h=>by
  simp [bF.dep] at h;obtain ⟨h1,h2,h3⟩:=hw;have h4:=rQ l d r h3 V;simp_all [bF.flat,List.cons_append,P0,if_true]
theorem rQ:∀(l:List bF) (d:Nat) (r:List X0),Ya l->nG l<=d->ga (P0 d) (O l) (O2 l++r)=J (l,r)
 |[],d,r,_,_=>by rfl
 |a::l,d,r,hw,h=>by
  simp [nG] at h;have h1:=aq a d (O2 l++r) hw.1 V;have h2:=rQ l d r hw.2 V;simp_all [O2,K2,List.length_cons,ga]
end
mutual
theorem pH:∀a:bF,a.dep<=O a.flat
 | .node t l=>by
  have:=Eo l;simp_all [bF.dep,bF.flat,List.length_cons]
theorem Eo:∀l:List bF,nG l<=O (O2 l)
 |[]=>by simp [nG]
 |a::l=>by
  have h1:=pH a;have h2:=Eo l
  grind [nG,O2,List.length_append]
end
def jQ (a:bF):0<O a.flat:=by
 cases a;simp [bF.flat]
theorem wA:∀l:List bF,O l<=O (O2 l)
 |[]=>U
 |a::l=>by
  have:=jQ a;have:=wA l
  grind [O2,List.length_append,List.length_cons]
def Hz {d d' :Nat}{r:List X0}(h:O r<=d)(h' :O r<=d'):P0 d r=P0 d' r:=by
 cases h1:P0 d r with
 |some p =>
  obtain ⟨a,r'⟩:=p;obtain ⟨e,w,_⟩:=V2 d r a r' h1
  grind [pH,aq]
 |none =>
  cases h2:P0 d' r with
  |none=>rfl
  |some p =>
   obtain ⟨a,r'⟩:=p;obtain ⟨e,w,_⟩:=V2 d' r a r' h2
   grind [pH,aq]
def iV (op:Int)(t:List Int):Int :=
 if x5 op 3||x5 op 13 then (if x5 (Y t 0) 1 then 1 else 0)
 else if x5 op 8 then (if x5 (Y t 0) 2&&x5 (Y t 1) 2 then 2 else 0)
 else if x5 op 9 then (if x5 (Y t 0) 2 then 1 else 0)
 else if x5 op 10 then (if x5 (Y t 0) 2&&x5 (Y t 1) 1 then 2 else 0)
 else if x5 op 11||x5 op 12 then (if x5 (Y t 0) (Y t 1) then 1 else 0)
 else if x5 op 16 then 1
 else if x5 op 17 then (if x5 (Y t 0) (Y t 1) then Y t 0 else 0)
 else if x5 op 18 then (if x5 (Y t 0) 1&&x5 (Y t 1) (Y t 2) then Y t 1 else 0)
 else (if x5 (Y t 0) 1&&x5 (Y t 1) 1 then 1 else 0)
def Cm (ty:List Int)(t:X0)(ts:List Int):Int×Int :=
 if x5 t.op 1 then (t.kind,0) else if x5 t.op 2 then (if aH (O ty) t.col then (0,3) else (Y ty t.col.toNat,0))
 else if x5 (iV t.op ts) 0 then (0,5) else (iV t.op ts,0)
mutual
def bF.typ (ty:List Int):bF->Int×Int
 | .node t l=>if x5 (iH ty l).2 0 then Cm ty t (iH ty l).1 else (0,(iH ty l).2)
def iH (ty:List Int):List bF->List Int×Int
 |[]=>([],0)
 |a::l=>if x5 (a.typ ty).2 0 then ((a.typ ty).1::(iH ty l).1,(iH ty l).2) else ([],(a.typ ty).2)
end
def dA (ty:List Int):Bool:=ty.all λt=>x5 t 1||x5 t 2
def gY (e:List X0):Option bF:=if aH 1 (O e)&&aH (O e) 64 then match P0 16 e with
  |some (a,[])=>J a
  |_=>K
 else K
def M8 (e:List X0)(ty:List Int):Int×Int:=match gY e with
 |none=>(0,1)
 |some a=>if dA ty then a.typ ty else (0,1)
def Ah {α:Type} [Inhabited α] (i:Nat):Y ([]:List α) i=default:=by simp [Y]
def HJ (ty:List Int)(t:X0)(a b c:Int):Int×Bool :=
 if x5 t.op 1 then (t.kind,W) else if x5 t.op 2 then (Y ty t.col.toNat,W)
 else if x5 t.op 3||x5 t.op 13 then (1,x5 a 1)
 else if x5 t.op 8 then (2,x5 a 2&&x5 b 2)
 else if x5 t.op 9 then (1,x5 a 2)
 else if x5 t.op 10 then (2,x5 a 2&&x5 b 1)
 else if x5 t.op 11||x5 t.op 12 then (1,x5 a b)
 else if x5 t.op 16 then (1,W)
 else if x5 t.op 17 then (a,x5 a b)
 else if x5 t.op 18 then (b,x5 a 1&&x5 b c)
 else (1,x5 a 1&&x5 b 1)
def good (x:Int):Prop:=x=1\/x=2
def JQ {l:List Int}(h:∀x,x∈l->good x){i:Nat}(hn:Y l i≠0):good (Y l i):=by
 simp_all [Y]<;>grind
theorem MX {ty:List Int}(h:dA ty=W):∀x,x∈ty->good x:=by
 intro x hx;have:=List.all_eq_true.1 h x hx;simp_all [o9,good]
def KR {op:Int}{ts:List Int}(h:∀x,x∈ts->good x)(hn:iV op ts≠0):good (iV op ts):=by
 unfold iV at hn ⊢;split
 .rename_i h1;rw [if_pos h1] at hn;split at hn<;>simp_all [good]
 rename_i h1;rw [if_neg h1] at hn;split
 .rename_i h1;rw [if_pos h1] at hn;split at hn<;>simp_all [good]
 rename_i h1;rw [if_neg h1] at hn;split
 .rename_i h1;rw [if_pos h1] at hn;split at hn<;>simp_all [good]
 rename_i h1;rw [if_neg h1] at hn;split
 .rename_i h1;rw [if_pos h1] at hn;split at hn<;>simp_all [good]
 rename_i h1;rw [if_neg h1] at hn;split
 .rename_i h1;rw [if_pos h1] at hn;split at hn<;>simp_all [good]
 rename_i h1;rw [if_neg h1] at hn;split
 .exact Or.inl rfl
 rename_i h1;rw [if_neg h1] at hn;split
 .rename_i h1;rw [if_pos h1] at hn
  split at hn
  .rename_i h2;rw [if_pos h2];exact JQ h hn
  .exact absurd rfl hn
 rename_i h1;rw [if_neg h1] at hn;split
 .rename_i h1;rw [if_pos h1] at hn
  split at hn
  .rename_i h2;rw [if_pos h2];exact JQ h hn
  .exact absurd rfl hn
 rename_i h1;rw [if_neg h1] at hn;split at hn<;>simp_all [good]
mutual
theorem KQ {ty:List Int}(tP:dA ty=W):∀a:bF,a.wf->x5 (a.typ ty).2 0=W->good (a.typ ty).1
 | .node t l,hw,h=>by
  obtain ⟨hok,har,Mq⟩:=hw;simp [bF.typ] at h ⊢;split
  .have hl:=wZ tP l Mq
   simp [Cm] at h ⊢;split
   next h2=>
    simp [Aj,eo,h2,if_true,Bool.and_eq_true] at hok;have h3:=hok.2.1.1;unfold iW at h3
    grind [good,br]
   .split
    .split
     .simp_all [if_pos,o9]
     next h4=>
      have h5:=rR (Bool.not_eq_true _ ▸ h4);have h6:0<=t.col:=by
       simp_all [Aj,eo,if_true,j5,if_false,Bool.and_eq_true,kM]
      grind [MX,H6]
    .split
     all_goals simp_all [if_pos,o9,KR]
  simp_all
theorem wZ {ty:List Int}(tP:dA ty=W):∀l:List bF,Ya l->∀x,x∈(iH ty l).1->good x
 |[],_,x,h=>by simp [iH] at h
 |a::l,hw,x,h=>by
  simp [iH] at h;split at h
  next h1=>
   rcases List.mem_cons.1 h with rfl|h
   .exact KQ tP a hw.1 h1
   .exact wZ tP l hw.2 x h
  .cases h
end
def ZY {ty:List Int}{t:X0}{ts:List Int}(hts:∀x,x∈ts->good x)(hc:x5 t.op 2=W->aH (O ty) t.col=F)
  (h17:x5 t.op 17=W->0<O ts) (h18:x5 t.op 18=W->1<O ts) :
  Cm ty t ts=if (HJ ty t (Y ts 0) (Y ts 1) (Y ts 2)).2 then ((HJ ty t (Y ts 0) (Y ts 1) (Y ts 2)).1,0) else (0,5):=by
 unfold Cm HJ;cases d1:x5 t.op 1 with
 |true=>rfl
 |false =>
 cases d2:x5 t.op 2 with
 |true=>simp_all
 |false =>
 have z1:x5 1 0=F:=by simp [o9]
 have z2:x5 2 0=F:=by simp [o9]
 have z0:x5 0 0=W:=by simp [o9]
 have sel:∀(b:Bool) (x:Int),(b=W->x5 x 0=F)->(if x5 (if b=W then x else 0) 0=W then ((0:Int),(5:Int)) else (if b=W then x else 0,0))=if b=W then (x,0) else (0,5):=by
  simp_all
 have gz:∀{i:Nat},i<O ts->x5 (Y ts i) 0=F:=λ{i} hi=>by
  grind [H6,good,o9]
 unfold iV;cases c1:(x5 t.op 3||x5 t.op 13) with
 |true=>grind
 |false =>
 cases c2:x5 t.op 8 with
 |true=>grind
 |false =>
 cases c3:x5 t.op 9 with
 |true=>grind
 |false =>
 cases c4:x5 t.op 10 with
 |true=>grind
 |false =>
 cases c5:(x5 t.op 11||x5 t.op 12) with
 |true=>grind
 |false =>
 cases c6:x5 t.op 16 with
 |true=>simp [z1]
 |false =>
 grind
open List
theorem jL (a b:J9):wk a b<0↔a.1<b.1\/(a.1=b.1/\a.2<b.2):=by
 grind [wk,mB]
theorem Za (a b:J9):(!decide (wk b a<0))=W↔a.1<b.1\/(a.1=b.1/\a.2<=b.2):=by
 simp [Bool.not_eq_true',decide_eq_false_iff_not,jL];omega
def oa (l:List J9):(sortP l).Perm l:=nZ _ _
def Sw {l:List J9}{p:J9}:p∈sortP l↔p∈l:=(oa l).mem_iff
def wV (l:List J9):O (sortP l)=O l:=(oa l).length_eq
def Kv (l:List J9):(sortP l).Pairwise λa b=>(!decide (wk b a<0))=W :=
 (BX (λa b c h1 h2=>by rw [jL] at *;omega) (λa b h=>by grind [jL]) l).imp λh=>by simpa using h
def DL {l m:List J9}(h:l.Perm m):sortP l=sortP m:=by
 refine ((oa l).trans (h.trans (oa m).symm)).eq_of_pairwise (λa b _ _ h1 h2=>?_) (Kv l) (Kv m)
 grind [Za,Prod.ext]
def rG (fs:List O1)(l:List J9):List J9:=sortP (BP fs l)
def Bz {fs:List O1}{l:List J9}{p:J9}:p∈rG fs l↔Mk fs l p:=by rw [rG,Sw,Vd]
end Go.A5
namespace Go.A5
section
variable {α:Type} [Inhabited α] {enc:α->List Data} {sz:Nat} {H:j9} {id:Nat} {xs:List α}
def NC (hs:∀a,O (enc a)=sz)(h:H[id]? =J (.cells ((xs.flatMap enc).map .d))){i:Nat}(hi:i<O xs):rd H id (0+i * sz) sz=J ((enc (Y xs i)).map .d):=by
 have h1:i * sz+sz<=O xs * sz:=by rw [<- Nat.succ_mul];exact I8 _ hi
 simp [rd,h,List.length_map,bt hs,Nat.zero_add,if_true];rw [<- List.map_drop,<- List.map_take,mD hs,D8 hi];simp_all
def NV (hs:∀a,O (enc a)=sz){ys zs:List α}{z:α}(h:H[id]? =J (.cells (((ys++z::zs).flatMap enc).map .d)))(x:α) :
  wr H id (0+O ys * sz) ((enc x).map .d)=J (H.set id (.cells (((ys++x::zs).flatMap enc).map .d))):=by
 have l1:O ((ys.flatMap enc).map c7.d)=O ys * sz:=by rw [List.length_map,bt hs]
 have l2:O ((enc z).map c7.d)=sz:=M
 have l3:O ((enc x).map c7.d)=sz:=M
 simp_all [wr,Nat.zero_add,splice,if_pos,List.length_append,List.take_left,List.drop_append,List.drop_eq_nil_of_le,List.drop_left]
end
namespace S
section
variable {A:Prog} {l:J2} {b:Nat} {dr:Bool} {j8 ops:List o3} {T:List c7} {H:j9} {n:Nat} {rl:List c7} {l6:List Touch} {Q:List c7->j9->List c7->Prop}
def lnr {x:y4}{u:List Nat}{id sz lo len:Nat}(h2:Ry A l b dr j8 ops T H (n+1) (.d (.int .i64 (len:Int))::rl) l6 Q)(hx:rq T n rl x= .s6 id sz lo len:=by rfl):Ry A l b dr j8 (⟨.len x,K,K,u⟩::ops) T H n rl l6 Q :=
 Ry.pure (rs:=[]) rfl (by grind [k8,i64]) h2
def svr {x y:y4}{u:List Nat}{id sz lo len i:Nat}{k:IntKind}(hi:i<len)(h2:Ry A l b dr j8 ops T H (n+1) (.s6 id sz (lo+i * sz) (len - i)::rl) l6 Q)(hx:rq T n rl x= .s6 id sz lo len:=by rfl)(hy:rq T n rl y= .d (.int k ((i:Nat):Int)):=by rfl) :
  Ry A l b dr j8 (⟨.ay sz x (J y) K,K,K,u⟩::ops) T H n rl l6 Q :=
 Ry.pure (rs:=[]) rfl (by
  grind [k8,Y5]) h2
def svf {x y:y4}{u:List Nat}{id sz lo len i:Nat}{k:IntKind}(hi:i<=len)(h0:0<i)(h2:Ry A l b dr j8 ops T H (n+1) (.s6 id sz lo i::rl) l6 Q)(hx:rq T n rl x= .s6 id sz lo len:=by rfl)(hy:rq T n rl y= .d (.int k ((i:Nat):Int)):=by rfl) :
  Ry A l b dr j8 (⟨.ay sz x K (J y),K,K,u⟩::ops) T H n rl l6 Q :=
 Ry.pure (rs:=[]) rfl (by
  grind [k8,Y5]) h2
def clS {x:y4}{u:List Nat}{id sz lo len:Nat}{zero:List c7}{H2:j9}(hw:wr H id lo ((List.replicate len zero).flatten)=J H2)(h2:Ry A l b F j8 ops T H2 (n+1) (.tuple []::rl) (.obj id::l6) Q)(hx:rq T n rl x= .s6 id sz lo len:=by rfl)(hz:O zero=sz:=by rfl)(hb:A8 zero=0:=by rfl)(hl:l.may id=W:=by rfl) :
  Ry A l b F j8 (⟨.clear sz zero x,K,K,u⟩::ops) T H n rl l6 Q:=λhn=>by
 refine Rx.stepT (N1:=0) (rs:=[]) rfl (λk _=>?_) (h2.to hn);simp_all [K7,y3,y9,B8,s8.B7,if_true,D3,Q0,aa,and_self,put,K4,s7,E2]
end
end S
section
variable {A:Prog} {l:J2} {b:Nat}
variable {j8 ops:List o3} {T:List c7} {H:j9} {n:Nat} {rl:List c7} {l6:List Touch} {na nb:Nat} {Q:List c7->j9->List c7->Prop}
namespace S
end S
end
section
variable {A:Prog} {l:J2} {b:Nat}
variable {j8 ops:List o3} {T:List c7} {H:j9} {n:Nat} {rl:List c7} {l6:List Touch} {na:Nat} {lg:List gC} {Q:List c7->j9->List c7->Prop}
def Rl (A:Prog)(l:J2)(b:Nat)(j8 ops:List o3)(T:List c7)(H:j9)(n:Nat)(rl:List c7)(l6:List Touch)(na:Nat)(lg:List gC)(Q:List c7->j9->List c7->Prop):Prop :=
 O rl=n->∃r N,Q r.T r.H r.L/\∀k,N<=k->∃Zb,Q1 (K7 A k l b) j8 ops n na ⟨T,H,rl.reverse++List.replicate (O ops) .any,l6⟩=J (r,Zb)/\dN j8 (lg.reverse++Zb)=W
theorem Rn.aG8 {T:List c7}{H:j9}(H' :j9)(l6:List Touch)(h:Rl A l b ops ops T H' 0 [] l6 (O H) [] Q)(hH:H++Y7 ops=H' :=by rfl)(hs:slotsOf ops=l6:=by rfl):Rn A l b ops W T H Q:=by
 obtain ⟨r,N,hq,h⟩:=h rfl;refine ⟨r,N,hq,λn hn=>?_⟩
 grind [T9]
def Rl.step {i:o3}{T' :List c7}{H' :j9}{v:c7}{aY :List Touch}{rs:List Nat}{N1:Nat}{e:gC}(hk:∀L,G9 ⟨T,H,L,l6⟩ i.op=F)
  (h:O rl=n->∀k,N1<=k->y3 (K7 A k l b) j8 (if i.op.y7 then J na else K) n i ⟨T,H,rl.reverse++ .any::List.replicate (O ops) .any,l6⟩=J (⟨T',H',rl.reverse++v::List.replicate (O ops) .any,aY⟩,rs))
  (he:O rl=n->∀k,Y9 (K7 A k l b) i (if i.op.y7 then J na else K) ⟨T,H,rl.reverse++ .any::List.replicate (O ops) .any,l6⟩ ⟨T',H',rl.reverse++v::List.replicate (O ops) .any,aY⟩ rs=e)
  (h2:Rl A l b j8 ops T' H' (n+1) (v::rl) aY (if i.op.y7 then na+1 else na) (e::lg) Q):Rl A l b j8 (i::ops) T H n rl l6 na lg Q:=λhn=>by
 obtain ⟨r,N,hq,h2⟩:=h2 (by simp [hn]);refine ⟨r,max N N1,hq,λk hkk=>?_⟩;obtain ⟨Zb,e1,e2⟩:=h2 k V
 grind [Q1,K7,List.replicate,ja]
def oy (hn:O rl=n)(a v:c7)(r:List c7):(rl.reverse++a::r).set n v=rl.reverse++v::r:=M
def Rl.simple {i:o3}{v:c7}{rs:List Nat}(ha:i.op.y7=F)(hk:∀L,G9 ⟨T,H,L,l6⟩ i.op=F)(hs:∀k st,J1 (K7 A k l b) st i.op=0)
  (h:O rl=n->∀k,y3 (K7 A k l b) j8 K n i ⟨T,H,rl.reverse++ .any::List.replicate (O ops) .any,l6⟩=J (⟨T,H,rl.reverse++v::List.replicate (O ops) .any,l6⟩,rs))
  (h2:Rl A l b j8 ops T H (n+1) (v::rl) l6 na (⟨rs,[],0,0⟩::lg) Q):Rl A l b j8 (i::ops) T H n rl l6 na lg Q :=
 Rl.step (N1:=0) (e:=⟨rs,[],0,0⟩) hk (λhn k _=>by rw [ha];exact h hn k) (λ_ k=>by simp_all [Y9,bw]) M
namespace S
def yn (h:Q T H rl.reverse)(hl:dN j8 lg.reverse=W):Rl A l b j8 [] T H n rl l6 na lg Q:=λ_=>⟨⟨T,H,rl.reverse,l6⟩,0,h,λ_ _=>⟨[],by simp [Q1],M⟩⟩
def yp {op:s8}{u:List Nat}{rs:List Nat}(v:c7)(hp:k8 (rq T n rl) H op=J (v,rs))(h2:Rl A l b j8 ops T H (n+1) (v::rl) l6 na (⟨rs,[],0,0⟩::lg) Q)(hE:op.B7=F:=by rfl)
  (ha:op.y7=F:=by rfl) (hk:∀L,G9 ⟨T,H,L,l6⟩ op=F:=by intro;rfl) (hs:∀k st,J1 (K7 A k l b) st op=0:=by intros;rfl):Rl A l b j8 (⟨op,K,K,u⟩::ops) T H n rl l6 na lg Q:=by
 refine Rl.simple (rs:=rs) ha hk hs (λhn k=>?_) h2;have XS:∀x,op≠ .S0 x:=by
  grind [k8]
 have h4:k8 (A5.G7 T (rl.reverse++ .any::List.replicate (O ops) .any)) H op=J (v,rs):=by
  rw [show A5.G7 T (rl.reverse++ .any::List.replicate (O ops) .any)=rq T n rl from funext λx=>Q0 hn _ x];exact hp
 have h3:B8 (K7 A k l b) j8 K n op ⟨T,H,rl.reverse++ .any::List.replicate (O ops) .any,l6⟩=J (⟨T,H,rl.reverse++v::List.replicate (O ops) .any,l6⟩,rs):=by
  simp_all [absurd,B8,j5,if_false,put,oy,s8.B7]
 grind [y3,y9,s7,E2]
def ym {x:y4}{u:List Nat}{v:c7}(h2:Rl A l b j8 ops T H (n+1) (v::rl) l6 na (⟨[],[],0,0⟩::lg) Q)(hx:Oq T n rl x v:=by exact ⟨rfl,rfl⟩):Rl A l b j8 (⟨.S0 x,K,K,u⟩::ops) T H n rl l6 na lg Q:=by
 refine Rl.simple (rs:=[]) rfl (λ_=>rfl) (λ_ _=>rfl) (λhn k=>?_) h2;simp [y3,y9,B8,s8.B7,j5,if_false,(hx.op hn).F6,put,oy hn,s7,E2]
theorem yb {sz len:Nat}{zero:List c7}{ps:List (Nat×Nat×y4)}{u:List Nat}{cs:List c7}{H2:j9}(hr:Z7 zero (ps.map λp=>(p.1,p.2.1,rq T n rl p.2.2))=J cs)(hl:0<sz/\O cs=len * sz)
  (h2:Rl A l b j8 ops T H2 (n+1) (.s6 na sz 0 len::rl) l6 (na+1) (⟨[],[.obj na],0,na⟩::lg) Q) (hH:H.set na (.cells cs)=H2:=by rfl):Rl A l b j8 (⟨.J8 sz len zero ps W,K,K,u⟩::ops) T H n rl l6 na lg Q:=by
 refine Rl.step (N1:=0) (rs:=[]) (λ_=>rfl) (λhn k _=>?_) (λ_ k=>?_) h2
 .have hr' :Z7 zero (ps.map λx=>match x with|(o,s,x)=>(o,s,A5.G7 T (rl.reverse++ .any::List.replicate (O ops) .any) x))=J cs:=by
   simp_all [List.map_congr_left,Q0]
  simp_all [s8.y7,if_true,y3,y9,B8,s8.B7,D3,and_self,E1,newId,Option.getD_some,put,oy,s7,V4]
 .simp [Y9,bw,J1,s8.y7]
theorem ya {sz bytes id len m:Nat}{x y:y4}{u:List Nat}{cs l0:List c7}{H2:j9}{w:c7}(hx:rq T n rl x= .s6 id sz 0 len)(hy:rq T n rl y=w)(hO:H[id]? =J (.cells l0))(hc:C7 H sz w=J (m,cs))(hmay:l.may id=W)
  (aQ:len * sz=O l0/\roomFor (len+m) bytes=W/\A8 cs<=O H/\cs.all c7.one=W/\0<sz)
  (h2:Rl A l b j8 ops T H2 (n+1) (.s6 (O H) sz 0 (len+m)::rl) (.obj (O H):: .obj id::l6) na (⟨[],[.obj (O H),.obj id],max (id+1) w.J4,0⟩::lg) Q)
  (hH:H.set id .dead++[.cells (l0.map c7.K9++cs)]=H2:=by rfl):Rl A l b j8 (⟨.K3 sz bytes x y,K,K,u⟩::ops) T H n rl l6 na lg Q:=by
 refine Rl.step (N1:=0) (rs:=[]) (λ_=>rfl) (λhn k _=>?_) (λhn k=>?_) h2
 .simp_all [K7,Q0,trans,s8.y7,j5,if_false,y3,y9,B8,s8.B7,if_true,D3,U9,newId,Option.getD_none,E1,put,oy,gL,C6,s7,E2,List.length_set]
 .have hx' :=(Q0 hn (O ops) x).trans hx
  have hy' :=(Q0 hn (O ops) y).trans hy;have:O l6+1+1 - O l6=2:=V
  simp_all [Y9,bw,s8.y7,J1,c7.J4]
theorem ya0 {sz bytes j j2 id off m:Nat}{y:y4}{u:List Nat}{a:o3}{cs l0:List c7}{H2:j9}{w:c7}(hL:lk n rl j=J (.d (.slice 0 [])))(ha:j8[j]? =J a)(hz:a.op= .load K (.loc j2))(hp:lk n rl j2=J (.ptr id off))(ht:l6.any (Touch.aO id off)=F)(hmay:l.may id=W)
  (hO:H[id]? =J (.cells l0)) (h0:l0[off]? =J .N7) (hy:rq T n rl y=w) (hc:C7 H sz w=J (m,cs)) (aQ:roomFor m bytes=W/\0<sz) (hm:m≠0)
  (h2:Rl A l b j8 ops T H2 (n+1) (.s6 (O H) sz 0 m::rl) (.obj (O H)::l6) na (⟨[],[.obj (O H)],w.J4,0⟩::lg) Q) (hH:H++[.cells cs]=H2:=by rfl):Rl A l b j8 (⟨.K3 sz bytes (.loc j) y,K,K,u⟩::ops) T H n rl l6 na lg Q:=by
 have XY:∀{i v},O rl=n->lk n rl i=J v->(rl.reverse++ .any::List.replicate (O ops) .any)[i]? =J v:=λhn h=>lM (by simp_all [dD]) _
 have hx:O rl=n->A5.G7 T (rl.reverse++ .any::List.replicate (O ops) .any) (.loc j)= .d (.slice 0 []):=λhn=>by
  simp [A5.G7,List.getD_eq_getElem?_getD,XY hn hL];rfl
 have hnil:O rl=n->isNil l j8 ⟨T,H,rl.reverse++ .any::List.replicate (O ops) .any,l6⟩ (.loc j)=W:=λhn=>by
  simp_all [isNil,iS,bU]
 refine Rl.step (N1:=0) (rs:=[]) (λ_=>rfl) (λhn k _=>?_) (λhn k=>?_) h2
 .have hy' :=(Q0 hn (O ops) y).trans hy
  simp_all [isNil,K7,List.replicate,s8.y7,j5,if_false,y3,y9,B8,s8.B7,if_true,D3,L8,and_self,E1,newId,Option.getD_none,put,oy,gL,C6,s7,E2]
 simp_all [Q0,trans,Y9,bw,s8.y7,J1,c7.J4]
def ys {m id off:Nat}{x y:y4}{u:List Nat}{v:c7}{cs:List c7}{H2:j9}(hy:rq T n rl y= .ptr id off)(hx:Oq T n rl x v)(hc:v.cells? =J cs)(hm:O cs=m)(hl:l.may id=W)(hb:A8 cs<=id+1\/(l.base<=id/\l.strict<=id))
  (hw:wr H id off cs=J H2) (h2:Rl A l b j8 ops T H2 (n+1) (.any::rl) (.obj id::l6) na (⟨[],[.obj id],0,0⟩::lg) Q):Rl A l b j8 (⟨.store m y x,K,K,u⟩::ops) T H n rl l6 na lg Q:=by
 refine Rl.step (N1:=0) (rs:=[]) (λ_=>rfl) (λhn k _=>?_) (λhn k=>?_) h2
 .have hl' :(K7 A k l b).lim.may id=W:=hl
  have hb' :A8 cs<=id+1\/((K7 A k l b).lim.base<=id/\(K7 A k l b).lim.strict<=id):=hb;simp [s8.y7,j5,if_false,y3,y9,B8,s8.B7,if_true,D3,Q0 hn,hy,S6,(hx.op hn).F6,hc,hm,hl',hb',and_self,hw,put,oy hn,s7,E2]
 simp_all [Y9,bw,s8.y7,J1]
end S
end
end Go.A5
namespace Go.A5.S
section
variable {A:Prog} {l:J2} {b:Nat} {j8 ops:List o3} {T:List c7} {H:j9} {n:Nat} {rl:List c7} {l6:List Touch}
section
variable {na:Nat} {lg:List gC} {Q:List c7->j9->List c7->Prop}
def yal {zero:List c7}{u:List Nat}{s:Nat}(DH :Nat)(T2:List c7)(H2:j9)(hs:s<O T)(htc:l6.any (Touch.U8 s)=W)(hT:T.set s (.ptr na 0)=T2)(hH:H.set na (.cells zero)=H2)(hn:na+1=DH)
  (h2:Rl A l b j8 ops T2 H2 (n+1) (.ptr na 0::rl) l6 DH (⟨[],[.obj na],0,na⟩::lg) Q):Rl A l b j8 (⟨.alloc zero,J s,K,u⟩::ops) T H n rl l6 na lg Q:=by
 subst hT hH hn;have h3:O rl=n->∀r:List c7,(rl.reverse++ .ptr na 0::r)[n]? =J (.ptr na 0):=λhn r=>M
 refine Rl.step (N1:=0) (rs:=[]) (λ_=>rfl) (λhn k _=>?_) (λhn k=>?_) h2
 all_goals simp_all [s8.y7,if_true,y3,y9,B8,s8.B7,D3,E1,newId,Option.getD_some,put,oy,s7,V4,A5.F6,decide_true,Bool.and_self,A5.G7,c7.K9,Y9,bw,J1]
def yc {f:FuncId}{xs:List y4}{u:List Nat}{v:c7}{args:List c7}{m:Nat}{H0 H1:j9}{l2:J2}(HD H2:j9)(hc:Pm A f args H0 l2 v H1)(Na:O H1=m)(iP:F3 ((H.take m).drop l.strict)<=m)(hcl:E6 H l.strict 8 (A8 args)=m)
  (MZ:H.take m=H0) (hle:m<=O H) (ov:(⟨l.Mo,l.Mn,m,B5 H l.strict m⟩:J2)=l2) (hD:H.drop m=HD) (hA:H1++HD=H2)
  (h2:Rl A l b j8 ops T H2 (n+1) (v::rl) (.below m::l6) na (⟨[],[.below m],m,0⟩::lg) Q) (ha:xs.map (rq T n rl)=args:=by rfl) (iD:A.prom f=F:=by rfl) (hm:A.mode f=0:=by rfl):Rl A l b j8 (⟨.call f xs,K,K,u⟩::ops) T H n rl l6 na lg Q:=by
 obtain ⟨d7,hc⟩:=hc;subst MZ hD hA;have Sg :∀k,(K7 A k l b).prom f=F:=λ_=>iD
 refine Rl.step (N1:=d7) (rs:=[]) (λ_=>rfl) (λhn k hk=>?_) (λhn k=>?_) h2
 .have h3:C9 (K7 A k l b) n f args ⟨T,H,rl.reverse++ .any::List.replicate (O ops) .any,l6⟩=J (put ⟨T,H1++H.drop m,rl.reverse++ .any::List.replicate (O ops) .any,.below m::l6⟩ n v) :=
   mz iD hm hcl hle iP ov (hc k hk) Na
  simp_all [s8.y7,j5,if_false,y3,y9,B8,s8.B7,if_true,D3,cQ,s7,E2,put,oy]
 .have YE :E6 H (K7 A k l b).lim.strict 8 (A8 args)=m:=hcl
  simp_all [Y9,bw,J1,s8.y7,cQ]
def yl {f:FuncId}{xs:List y4}{u:List Nat}{v:c7}{args:List c7}(hc:Pf A f args v)
  (h2:Rl A l b j8 ops T H (n+1) (v::rl) l6 na (⟨[],[],0,0⟩::lg) Q) (ha:xs.map (rq T n rl)=args:=by rfl) (iD:A.prom f=F:=by rfl) (hm:A.mode f=1:=by rfl) (hb:A8 args=0:=by rfl):Rl A l b j8 (⟨.call f xs,K,K,u⟩::ops) T H n rl l6 na lg Q:=by
 obtain ⟨d7,hc⟩:=hc;refine Rl.step (N1:=d7) (rs:=[]) (λ_=>rfl) (λhn k hk=>?_) (λhn k=>?_) h2
 .have h3:C9 (K7 A k l b) n f args ⟨T,H,rl.reverse++ .any::List.replicate (O ops) .any,l6⟩=J (put ⟨T,H,rl.reverse++ .any::List.replicate (O ops) .any,l6⟩ n v) :=
   dG iD hm hb (hc k hk)
  simp_all [s8.y7,j5,if_false,y3,y9,B8,s8.B7,if_true,D3,cQ,s7,E2,put,oy]
 simp_all [E6,K7,Y9,bw,J1,s8.y7,cQ]
def ymT {x:y4}{s:Nat}{u:List Nat}{v:c7}(T2:List c7)(hs:s<O T)(hT:T.set s v=T2)(h2:Rl A l b j8 ops T2 H (n+1) (v::rl) (.slot s::l6) na (⟨[],[.slot s],0,0⟩::lg) Q)(hx:Oq T n rl x v:=by exact ⟨rfl,rfl⟩)(hv:∀z m cs,v≠ .own z m cs:=by intros;exact λh=>by cases h):Rl A l b j8 (⟨.S0 x,J s,K,u⟩::ops) T H n rl l6 na lg Q:=by
 have h3:O rl=n->∀r:List c7,(rl.reverse++v::r)[n]? =J v:=λhn r=>M
 have hv2:v.K9=v:=hx.2;refine Rl.step (N1:=0) (rs:=[]) (λ_=>rfl) (λhn k _=>?_) (λhn k=>?_) h2
 .have e:∀st:I5,st.L[n]? =J v->A5.F6 st (.loc n)=(v,st):=λst h=>by
   grind [A5.F6,A5.G7,c7.K9]
  simp [s8.y7,y3,y9,B8,s8.B7,(hx.op hn).F6,put,s7,E2,hs];simp_all
 .simp [Y9,bw,J1,s8.y7]
end
section
variable {Q:List c7->j9->List c7->Prop}
def apn {sz bytes id len m:Nat}{x y:y4}{u:List Nat}{cs l0:List c7}{w:c7}(A6 t:Nat)(H2:j9)(hx:rq T n rl x= .s6 id sz 0 len)(hy:rq T n rl y=w)(hO:H[id]? =J (.cells l0))(hc:C7 H sz w=J (m,cs))(hmay:l.may id=W)
  (aQ:len * sz=O l0/\roomFor (len+m) bytes=W/\A8 cs<=O H/\cs.all c7.one=W/\0<sz) (hH:H.set id .dead++[.cells (l0.map c7.K9++cs)]=H2) (hN:O H=A6) (ht:len+m=t)
  (h2:Ry A l b F j8 ops T H2 (n+1) (.s6 A6 sz 0 t::rl) (.obj A6:: .obj id::l6) Q):Ry A l b F j8 (⟨.K3 sz bytes x y,K,K,u⟩::ops) T H n rl l6 Q:=λhn=>by
 refine Rx.stepT (N1:=0) (rs:=[]) rfl (λk _=>?_) (h2.to hn);simp_all [K7,y3,y9,B8,s8.B7,if_true,D3,Q0,U9,newId,Option.getD_none,E1,put,K4,gL,C6,s7,E2,List.length_set]
def apz {sz bytes j j2 id off m:Nat}{y:y4}{u:List Nat}{a:o3}{cs l0:List c7}{w:c7}(A6:Nat)(H2:j9)(hL:lk n rl j=J (.d (.slice 0 [])))(ha:j8[j]? =J a)(hz:a.op= .load K (.loc j2))(hp:lk n rl j2=J (.ptr id off))(ht:l6.any (Touch.aO id off)=F)(hmay:l.may id=W)
  (hO:H[id]? =J (.cells l0)) (h0:l0[off]? =J .N7) (hy:rq T n rl y=w) (hc:C7 H sz w=J (m,cs)) (aQ:roomFor m bytes=W/\0<sz) (hm:m≠0) (hH:H++[.cells cs]=H2) (hN:O H=A6)
  (h2:Ry A l b F j8 ops T H2 (n+1) (.s6 A6 sz 0 m::rl) (.obj A6::l6) Q):Ry A l b F j8 (⟨.K3 sz bytes (.loc j) y,K,K,u⟩::ops) T H n rl l6 Q:=λhn=>by
 have XY:∀{i v},lk n rl i=J v->(rl.reverse++ .any::List.replicate (O ops) .any)[i]? =J v:=λh=>lM (by simp_all [dD]) _
 have hx:A5.G7 T (rl.reverse++ .any::List.replicate (O ops) .any) (.loc j)= .d (.slice 0 []):=by
  simp [A5.G7,List.getD_eq_getElem?_getD,XY hL];rfl
 have hnil:isNil l j8 ⟨T,H,rl.reverse++ .any::List.replicate (O ops) .any,l6⟩ (.loc j)=W:=by
  simp_all [isNil,iS,bU]
 refine Rx.stepT (N1:=0) (rs:=[]) rfl (λk _=>?_) (h2.to hn);simp_all [isNil,K7,List.replicate,y3,y9,B8,s8.B7,if_true,D3,Q0,L8,and_self,if_false,E1,newId,Option.getD_none,put,K4,gL,C6,s7,E2]
def soy {m id off:Nat}{x y:y4}{u:List Nat}{v:c7}{cs:List c7}{H2:j9}(hy:rq T n rl y= .ptr id off)(hx:Oq T n rl x v)(hc:v.cells? =J cs)(hm:O cs=m)(hl:l.may id=W)(hb:A8 cs<=id+1\/(l.base<=id/\l.strict<=id))
  (hw:wr H id off cs=J H2) (h2:Ry A l b F j8 ops T H2 (n+1) (.any::rl) (.obj id::l6) Q):Ry A l b F j8 (⟨.store m y x,K,K,u⟩::ops) T H n rl l6 Q:=λhn=>by
 refine Rx.stepT (N1:=0) (rs:=[]) rfl (λk _=>?_) (h2.to hn);have hl' :(K7 A k l b).lim.may id=W:=hl;have hb' :A8 cs<=id+1\/((K7 A k l b).lim.base<=id/\(K7 A k l b).lim.strict<=id):=hb;simp [y3,y9,B8,s8.B7,if_true,D3,Q0 hn,hy,S6,(hx.op hn).F6,hc,hm,hl',hb',and_self,hw,put,K4,s7,E2]
end
end
section
variable {ρ:y4->c7} {G:j9} {x y:y4}
def Zx {α:Type} [Inhabited α] {enc:α->List Data}{xs:List α}{sz:Nat}{i:Int}(hs:∀a,O (enc a)=sz)(hx:ρ x= .d (y6 enc xs))(hy:ρ y= .d (.int .i64 i))(h0:0<=i)(h1:i<O xs):k8 ρ G (.L2 sz x y)=J (.bP (enc (Y xs i.toNat)++(xs.drop (i.toNat+1)).flatMap enc),[]):=by
 grind [Y,mD,D8,k8,y6]
def aH8 {c:Data}{cs:List Data}(hx:ρ x= .bP (c::cs)):k8 ρ G (.load K x)=J (.d c,[]):=by simp [k8,hx]
def Vq {cs rest:List Data}{m:Nat}(hx:ρ x= .bP (cs++rest))(hm:O cs=m):k8 ρ G (.load (J m) x)=J (.agg (cs.map .d),[]):=by
 simp_all [k8]
def aH9 {α:Type}{enc:α->List Data}{xs:List α}(hx:ρ x= .d (y6 enc xs)):k8 ρ G (.len x)=J (.d (.int .i64 (O xs:Int)),[]):=by simp [k8,hx,y6,i64]
def SE {id lo len sz i:Nat}(hx:ρ x= .s6 id sz lo len)(hy:ρ y= .d (.int .i64 (i:Int)))(h:i<len):k8 ρ G (.L2 sz x y)=J (.ptr id (lo+i * sz),[]):=by
 simp_all [k8]
def wO {id o k:Nat}(hx:ρ x= .ptr id o):k8 ρ G (.off k x)=J (.ptr id (o+k),[]):=by simp [k8,hx]
def SF {id o:Nat}{v w:c7}(hx:ρ x= .ptr id o)(hr:rd G id o 1=J [v])(hw:v.K9=w):k8 ρ G (.load K x)=J (w,[id]):=by simp_all [k8]
def Nu {id o m:Nat}{vs:List c7}(hx:ρ x= .ptr id o)(hr:rd G id o m=J vs)(hv:vs.map c7.K9=vs):k8 ρ G (.load (J m) x)=J (.agg vs,[id]):=by simp [k8,hx,hr,hv]
end
end Go.A5.S
namespace Go.A5
section
variable {A:Prog} {l:J2} {b:Nat}
def Ex.KI {ops:List o3}{draw:Bool}{c:y4}{d e:p7}{T:List c7}{H:j9}{Q:J6->St->Prop}(h:Rn A l b ops draw T H λT' H' L=>T' =T/\H' =H/\∃t',G7 T' L c= .d (.bool t'))(h2:Ex A l b d ⟨T,H⟩ Q)(h3:Ex A l b e ⟨T,H⟩ Q) :
  Ex A l b (.test ops draw c d e) ⟨T,H⟩ Q:=by
 obtain ⟨r,N,⟨hT,hH,t',ht⟩,hr⟩:=h;exact Ex.gw t' ⟨r,N,⟨hT,hH,t',ht,rfl⟩,hr⟩ (λ_=>h2) λ_=>h3
def Pe.go {f:FuncId}{af:r7}{args:List c7}{P:c7->Prop}{T:List c7}(n:Nat)(h:Ex A R5 0 af.body ⟨T,[]⟩ λx s=>∃w,Z4 af 0 (J (x,s))=J (w,[])/\P w)
  (hf:A.fn f=J af:=by rfl) (hp:A.dR f=K:=by rfl) (hn:O args=af.nparams:=by rfl)
  (hT:args++List.replicate n .any=T:=by simp [List.nil_append]<;>rfl) (hN:O af.names - O args=n:=by rfl):∃v,P v/\Pf A f args v:=by
 obtain ⟨x,s,N,⟨w,hq,hP⟩,h⟩:=h;exact ⟨w,hP,Pf.run T hp hf hn M ⟨x,s,N,⟨w,hq,rfl⟩,h⟩⟩
theorem Pe.bool {f:FuncId}{args:List c7}(h:∃v,(∃t,v= .d (.bool t))/\Pf A f args v):∃t,Pf A f args (.d (.bool t)):=by
 simp_all
theorem Pe.num {f:FuncId}{args:List c7}(h:∃v,(∃t,v= .d (.int .i64 t))/\Pf A f args v):∃t,Pf A f args (.d (.int .i64 t)):=by
 grind
end
namespace S
section
variable {A:Prog} {l:J2} {b:Nat}
def te {P:Prop}{ops:List o3}{draw:Bool}{c:y4}{d e:p7}{T:List c7}{H:j9}{Q:J6->St->Prop}(p:P)(h2:Ex A l b d ⟨T,H⟩ Q)(h3:Ex A l b e ⟨T,H⟩ Q)
  (h:PLift P->Rn A l b ops draw T H λT' H' L=>T' =T/\H' =H/\∃t',G7 T' L c= .d (.bool t'):=by intro p;(first|refine Rn.text ?_|refine Rn.draw ?_|fail);(repeat' (first|refine cl (p.down ..) ?_|refine sO (p.down ..) ?_|refine cl (p.down.1 ..) ?_|refine cl (p.down.2 ..) ?_|refine sO (p.down.1 ..) ?_|refine sO (p.down.2 ..) ?_|refine cl (p.down.2.1 ..) ?_|refine cl (p.down.2.2 ..) ?_|refine sO (p.down.2.1 ..) ?_|refine sO (p.down.2.2 ..) ?_|refine gx ?_|refine fk (h1:=λhw=>?_) (h2:=λhw=>?_)|refine fpk (h1:=λhw=>?_) (h2:=λhw=>?_)|exact ⟨rfl,rfl,_,rfl⟩|fail))) :
  Ex A l b (.test ops draw c d e) ⟨T,H⟩ Q:=Ex.KI (h ⟨p⟩) h2 h3
end
end S
def at1 {n b:Nat}(h:n<=1000)(hb:b<=1000):roomFor n b=W:=by
 refine decide_eq_true ?_;exact s5 (Nat.mul_le_mul (show 2 * n+512<=2512 by omega) hb) (by decide)
def Ex.nS {A:Prog}{l:J2}{b:Nat}{c:p7}{st:St}{Q:J6->St->Prop}(T2:List c7)(H2:j9)(h:Ex A l b c ⟨T2,H2⟩ Q)(e:st=⟨T2,H2⟩:=by rfl):Ex A l b c st Q:=e ▸ h
def Ex.aO7 {A:Prog}{l:J2}{b:Nat}{ops:List o3}{draw:Bool}{c:y4}{d e:p7}{T:List c7}{H:j9}{Q:J6->St->Prop}(P:j9->Prop)(h:Rn A l b ops draw T H λT' H' L=>T' =T/\P H' /\∃t,G7 T' L c= .d (.bool t))
  (h2:∀H',P H' ->Ex A l b d ⟨T,H'⟩ Q) (h3:∀H',P H' ->Ex A l b e ⟨T,H'⟩ Q):Ex A l b (.test ops draw c d e) ⟨T,H⟩ Q:=by
 obtain ⟨r,N,⟨e1,hP,t,e3⟩,h⟩:=h;refine Ex.test ⟨r,N,⟨t,e3,λ_=>?_,λ_=>?_⟩,h⟩
 .rw [e1];exact h2 _ hP
 .rw [e1];exact h3 _ hP
def Ex.aG3 {A:Prog}{l:J2}{b id:Nat}{c:p7}{st:St}{R:J6->St->Prop}{go:St->Prop}(P:St->Prop)(h1:Ex A l b c st (oI R P))(h2:∀s,P s->go s)(hR:∀i s,¬R (.exit i) s:=by rintro i s ⟨_,_,h,_⟩;cases h):Ex A l b c st (qZ id (oI R go)):=by
 refine h1.mono λx s h=>?_
 cases x with
 |normal=>exact h2 s h
 |exit i=>exact (hR _ _ h).elim
 |ret=>exact h
def Ex.join {A:Prog}{l:J2}{b:Nat}{c:p7}{st:St}{R:J6->St->Prop}{go:St->Prop}(P:St->Prop)(h1:Ex A l b c st (oI R P))(h2:∀s,P s->go s):Ex A l b c st (oI R go):=by
 refine h1.mono λx s h=>?_
 cases x with
 |normal=>exact h2 s h
 |exit i=>exact h
 |ret=>exact h
def Ex.Wn {A:Prog}{l:J2}{b id:Nat}{c:p7}{st:St}{R:J6->St->Prop}{go:St->Prop}(P:St->Prop)(h1:Ex A l b c st (oI (λ_ _=>False) P))(h2:∀s,P s->go s):Ex A l b c st (qZ id (oI R go)):=by
 refine h1.mono λx s h=>?_
 cases x with
 |normal=>exact h2 s h
 |exit i=>exact h.elim
 |ret=>exact h.elim
end Go.A5
namespace Go.A5.S
def mkP {α:Type}(f:α->Data):List α->Nat->List (Nat×Nat×y4)
 |[],_=>[]
 |x::xs,i=>(i,1,.const (.d (f x)))::mkP f xs (i+1)
theorem IZ {α:Type}{f:α->Data}{ρ:y4->c7}(hc:∀d,ρ (.const (.d d))= .d d):∀(xs:List α) (pre suf:List c7),O suf=O xs->Z7 (pre++suf) ((mkP f xs (O pre)).map λp=>(p.1,p.2.1,ρ p.2.2))=J (pre++xs.map λx=> .d (f x))
 |[],pre,suf,h=>by
  obtain rfl:=List.length_eq_zero_iff.1 h;simp [mkP,Z7]
 |x::xs,pre,a::s,h=>by
  have ih:=IZ hc (f:=f) xs (pre++[.d (f x)]) s (by simpa using h);have e:splice (pre++a::s) (O pre) [.d (f x)]=pre++ .d (f x)::s:=by simp [splice]
  simp only [K2,List.singleton_append,List.length_append,E4] at ih;simp [mkP,Z7,hc,c7.cells?,c7.one,e];simpa using ih
def Oy {α:Type}(f:α->Data)(l:List α):L1 (l.map λx=> .d (f x))=J (l.map f)/\l.flatMap (λx=>[f x])=l.map f:=by
 induction l with
 |nil=>exact ⟨rfl,rfl⟩
 |cons a l ih=>simp [L1,c7.data?,ih.1,ih.2]
def pBk {α:Type}(f:α->Data)(xs:List α){ρ:y4->c7}{G:j9}{len:Nat}{zero:List c7}{ps:List (Nat×Nat×y4)}(hc:∀d,ρ (.const (.d d))= .d d:=by intro;rfl)(hl:O xs=len:=by rfl)(hz:O zero=len:=by rfl)(hp:ps=mkP f xs 0:=by rfl):k8 ρ G (.J8 1 len zero ps F)=J (B9 1 (λx=>[f x]) xs,[]):=by
 subst hp hl;have h:=IZ hc (f:=f) xs [] zero hz;simp only [List.nil_append,List.length_nil] at h;have e:=Oy f xs;simp only [k8,h,e.1,B9,e.2];simp
section
variable {A:Prog} {l:J2} {b:Nat} {j8 ops:List o3} {T:List c7} {H:j9} {n:Nat} {rl:List c7} {l6:List Touch}
def rg {Q:List c7->j9->List c7->Prop}{na:Nat}{H' :j9}(k:Nat)(hk:Y7 ops=List.replicate k .dead:=by rfl)(hH:H++List.replicate k .dead=H' :=by simp only [List.replicate,List.cons_append,List.nil_append,List.append_nil]<;>rfl)
  (hn:O H=na:=by simp only [List.length_cons,List.length_nil,Nat.reduceAdd]<;>rfl) (h:Rl A l b ops ops T H' 0 [] (slotsOf ops) na [] Q):Rn A l b ops W T H Q:=by
 subst hn hH;exact Rn.aG8 _ _ h (by rw [hk]) rfl
section
variable {na:Nat} {lg:List gC} {Q:List c7->j9->List c7->Prop}
def lN (h:Q T H rl.reverse)(hl:dN j8 lg.reverse=W:=by rfl):Rl A l b j8 [] T H n rl l6 na lg Q:=yn h hl
def lMT {x:y4}{s:Nat}{u:List Nat}{v:c7}{T2:List c7}(hx:Oq T n rl x v:=by exact ⟨rfl,rfl⟩)(hs:Nat.ble (s+1) (O T)=W:=by rfl)(hT:T.set s v=T2:=by simp only [List.set_cons_zero,List.set_cons_succ]<;>rfl)(hv:∀z m cs,v≠ .own z m cs:=by intros;exact λh=>by cases h)
  (h2:Rl A l b j8 ops T2 H (n+1) (v::rl) (.slot s::l6) na (⟨[],[.slot s],0,0⟩::lg) Q):Rl A l b j8 (⟨.S0 x,J s,K,u⟩::ops) T H n rl l6 na lg Q:=ymT T2 (j6 hs) hT h2 hx hv
def lS {id off:Nat}{x y:y4}{u:List Nat}{v:c7}{old new:List c7}{H2:j9}(hy:rq T n rl y= .ptr id off:=by rfl)(hx:Oq T n rl x v:=by exact ⟨rfl,rfl⟩)(hc:v.cells? =J [v]:=by rfl)(hl:l.may id=W:=by rfl)(hb:v.J4<=id+1:=by exact Nat.zero_le _)
  (ho:H[id]? =J (.cells old):=by rfl) (hq:off<O old:=by simp) (hN:old.set off v=new:=by first|(simp only [List.set_cons_zero,List.set_cons_succ];done)|rfl) (hH:H.set id (.cells new)=H2:=by simp only [List.set_cons_zero,List.set_cons_succ]<;>rfl)
  (h2:Rl A l b j8 ops T H2 (n+1) (.any::rl) (.obj id::l6) na (⟨[],[.obj id],0,0⟩::lg) Q):Rl A l b j8 (⟨.store 1 y x,K,K,u⟩::ops) T H n rl l6 na lg Q :=
 ys hy hx hc rfl hl (.inl (by simpa [A8] using hb)) (by
  have h1:splice old off [v]=old.set off v:=by
   simp only [splice,E4];rw [P6,if_pos hq];simp
  simp only [wr,ho,E4,h1,hN,hH];rw [if_pos V]) h2
def lSo {m id:Nat}{x y:y4}{u:List Nat}{v:c7}{cs old:List c7}{H2:j9}(hy:rq T n rl y= .ptr id 0:=by rfl)(hx:Oq T n rl x v:=by exact ⟨rfl,rfl⟩)(hc:v.cells? =J cs:=by rfl)(hm:O cs=m:=by rfl)(hl:l.may id=W:=by rfl)(hb:A8 cs<=id+1:=by exact Nat.zero_le _)
  (ho:H[id]? =J (.cells old):=by rfl) (hq:O old=m:=by rfl) (hH:H.set id (.cells cs)=H2:=by simp only [List.set_cons_zero,List.set_cons_succ]<;>rfl)
  (h2:Rl A l b j8 ops T H2 (n+1) (.any::rl) (.obj id::l6) na (⟨[],[.obj id],0,0⟩::lg) Q):Rl A l b j8 (⟨.store m y x,K,K,u⟩::ops) T H n rl l6 na lg Q :=
 ys hy hx hc hm hl (.inl hb) (by simp [wr,ho,hm,hq,splice,<- hH];rw [n5 V];simp) h2
def lIx {α:Type} [Inhabited α] {enc:α->List Data}{xs:List α}{sz:Nat}{e:Int}{x y:y4}{u:List Nat}(hx:rq T n rl x= .d (y6 enc xs):=by rfl)(hy:rq T n rl y= .d (.int .i64 e):=by rfl)(hs:∀a,O (enc a)=sz:=by intro;rfl)
  (hi:0<=e/\e<O xs:=by first|omega|(simp only [List.length_cons,List.length_nil,Nat.reduceAdd];omega)) (h2:Rl A l b j8 ops T H (n+1) (.bP (enc (Y xs e.toNat)++(xs.drop (e.toNat+1)).flatMap enc)::rl) l6 na (⟨[],[],0,0⟩::lg) Q) :
  Rl A l b j8 (⟨.L2 sz x y,K,K,u⟩::ops) T H n rl l6 na lg Q:=yp _ (Zx hs hx hy hi.1 hi.2) h2
def lA {zero:List c7}{u:List Nat}{s DH :Nat}{T2:List c7}{H2:j9}(hs:Nat.ble (s+1) (O T)=W:=by rfl)(htc:l6.any (Touch.U8 s)=W:=by rfl)(hT:T.set s (.ptr na 0)=T2:=by simp only [List.set_cons_zero,List.set_cons_succ]<;>rfl)(hH:H.set na (.cells zero)=H2:=by simp only [List.set_cons_zero,List.set_cons_succ]<;>rfl)
  (hn:na+1=DH :=by simp only [Nat.reduceAdd]<;>rfl) (h2:Rl A l b j8 ops T2 H2 (n+1) (.ptr na 0::rl) l6 DH (⟨[],[.obj na],0,na⟩::lg) Q):Rl A l b j8 (⟨.alloc zero,J s,K,u⟩::ops) T H n rl l6 na lg Q:=yal DH T2 H2 (j6 hs) htc hT hH hn h2
end
section
variable {Q:List c7->j9->List c7->Prop} {dr:Bool}
def ct {f:FuncId}{xs:List y4}{u:List Nat}{v:c7}{args:List c7}{m:Nat}{H0 HD H1 H2:j9}{l2:J2}(hc:Pm A f args H0 l2 v H1)(Na:O H1=m:=by simp only [List.length_cons,List.length_nil,Nat.reduceAdd]<;>rfl)(iP:F3 ((H.take m).drop l.strict)<=m:=by exact Nat.zero_le _)(hcl:E6 H l.strict 8 (A8 args)=m:=by rfl)
  (MZ:H.take m=H0:=by rfl) (hle:Nat.ble m (O H)=W:=by rfl) (ov:(⟨l.Mo,l.Mn,m,B5 H l.strict m⟩:J2)=l2:=by rfl) (hd:dr=W->Nat.ble (oW j8) n=W:=by intro;rfl) (hD:H.drop m=HD:=by simp only [List.drop_succ_cons,List.drop_zero]<;>rfl) (hA:H1++HD=H2:=by simp only [List.cons_append,List.nil_append]<;>rfl)
  (ha:xs.map (rq T n rl)=args:=by rfl) (iD:A.prom f=F:=by rfl) (hm:A.mode f=0:=by rfl)
  (h2:Ry A l b dr j8 ops T H2 (n+1) (v::rl) (.below m::l6) Q):Ry A l b dr j8 (⟨.call f xs,K,K,u⟩::ops) T H n rl l6 Q :=
 c0 hc Na iP hcl MZ hle ov hd ha iD hm hD hA h2
def bk {α:Type}(f:α->Data)(xs:List α){len:Nat}{zero:List c7}{ps:List (Nat×Nat×y4)}{u:List Nat}(h2:Ry A l b dr j8 ops T H (n+1) (B9 1 (λx=>[f x]) xs::rl) l6 Q)(hl:O xs=len:=by rfl)(hz:O zero=len:=by rfl)(hp:ps=mkP f xs 0:=by rfl) :
  Ry A l b dr j8 (⟨.J8 1 len zero ps F,K,K,u⟩::ops) T H n rl l6 Q:=Ry.pure (rs:=[]) rfl (pBk f xs (λ_=>rfl) hl hz hp) h2
def eN {sz:Nat}{u:List Nat}(h2:Ry A l b dr j8 ops T H (n+1) (.own sz 0 []::rl) l6 Q)(h0:Nat.ble 1 sz=W:=by rfl):Ry A l b dr j8 (⟨.J8 sz 0 [] [] F,K,K,u⟩::ops) T H n rl l6 Q :=
 Ry.pure (rs:=[]) rfl (by have:=j6 h0;simp [k8,Z7,L1];omega) h2
def Ii {α:Type} [Inhabited α] {enc:α->List Data}{xs:List α}{sz:Nat}{e:Int}{x y:y4}{k:IntKind}{u:List Nat}(hx:rq T n rl x= .d (y6 enc xs):=by rfl)(hy:rq T n rl y= .d (.int k e):=by rfl)(hs:∀a,O (enc a)=sz:=by intro;rfl)
  (hi:0<=e/\e<O xs:=by first|omega|(simp only [List.length_cons,List.length_nil,Nat.reduceAdd];omega)) (h2:Ry A l b dr j8 ops T H (n+1) (.bP (enc (Y xs e.toNat)++(xs.drop (e.toNat+1)).flatMap enc)::rl) l6 Q) :
  Ry A l b dr j8 (⟨.L2 sz x y,K,K,u⟩::ops) T H n rl l6 Q:=ixZ hx hy hs hi h2
end
end
section
variable {ρ:y4->c7} {G:j9} {x y:y4}
def br2 {k:Nat}{cs:List Data}(hx:ρ x= .bP cs):k8 ρ G (.off k x)=J (.bP (cs.drop k),[]):=by simp only [k8,hx]
def pBd {zero cs:List c7}{ps:List (Nat×Nat×y4)}(hr:Z7 zero (ps.map λp=>(p.1,p.2.1,ρ p.2.2))=J cs):k8 ρ G (.build zero ps)=J (.agg cs,[]):=by
 simp only [k8,hr]
end
def gl {Γ Δ:Prop}(k:Δ)(h:PLift Δ->Γ:=by intro a8;(first|refine lN ?_|refine ym ?_|refine lMT (h2:=?_)|refine yp _ (wO rfl) ?_|refine yp _ (br2 rfl) ?_|refine yp _ (SF rfl rfl rfl) ?_|refine yp _ (Nu rfl rfl rfl) ?_|refine yp _ (aH8 rfl) ?_|refine yp _ (aH9 rfl) ?_|refine lIx (h2:=?_)|refine yp _ (pAd rfl rfl) ?_|refine yp _ (pSb rfl rfl) ?_|refine yp _ (pBd rfl) ?_|refine lA (h2:=?_)|refine lS (h2:=?_)|refine lSo (h2:=?_)|fail);exact a8.down):Γ:=h ⟨k⟩
def gm {Γ Δ:Prop}(k:Δ)(h:PLift Δ->Γ:=by intro a8;(repeat' (first|refine gl ?_|fail));exact a8.down):Γ:=h ⟨k⟩
end Go.A5.S
namespace Go.A5
theorem xE {A d9:Prog}(hf:A.fn=d9.fn)(hi:A.idle=d9.idle)(hm:A.mode=d9.mode)(d7:Nat)(hn:∀f,A.dR f=K->d9.dR f=K\/A.fn f=K)
  (hp:∀f p,A.dR f=J p->∀args H l r,p args H l=J r->call d9 d7 f args H l=J r):∀n,LeC (call A n) (call d9 (n+d7))
 |0=>λ_ _ _ _=>kz.no _
 |n+1=>λf args H l=>by
  intro r hr;have xQ:A.prom=d9.prom:=by grind [Prog.prom]
  unfold call at hr;split at hr
  next p hq=>
   exact GO d9 d7 (n+1+d7) V f args H l r (hp f p hq args H l r hr)
  .split at hr
   next af haf=>
    have hb:d9.dR f=K:=by
     grind
    rw [show n+1+d7=(n+d7)+1 by omega,GN hb (by rw [<- hf];exact haf)];unfold iA at hr ⊢;split at hr
    next hlen=>
     rw [if_pos hlen];cases hx:exec ⟨call A n,A.prom,A.mode,A.idle,l,O H⟩ n af.body ⟨args++List.replicate (O af.names - O args) .any,H⟩ with
     |none=>simp_all
     |some x =>
      rw [hx] at hr;rw [xQ,hi,hm] at hx;rw [ig (xE hf hi hm d7 hn hp n) (Nat.le_add_right n d7) _ _ _ hx];exact hr
    .cases hr
   .cases hr
def Pf.au2 {A:Prog}{es:List DY}{d7 n:Nat}(XQ:∀e,e∈es->call A d7 e.f e.args [] R5=J (e.res,[])){f:FuncId}{args:List c7}{v:c7}(h:call (memo A es) n f args [] R5=J (v,[]))(hM:0<d7):Pf A f args v:=by
 refine Pf.Zp (xE (A:=memo A es) (d9:=A) rfl rfl rfl d7 ?_ ?_ n _ _ _ _ _ h)
 .grind [memo]
 .intro f p hp args H l r hr
  simp [memo] at hp;split at hp
  .cases hp
   simp only at hr;split at hr
   .grind [Hs,Br]
   .cases hr
  .obtain ⟨k,rfl⟩:∃k,d7=k+1:=⟨d7 - 1,V⟩
   simp_all [call]
end Go.A5


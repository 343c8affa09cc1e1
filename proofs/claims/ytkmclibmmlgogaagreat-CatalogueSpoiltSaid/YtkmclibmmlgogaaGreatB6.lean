/- Texts P1 A42 A43 A44 A45 A46 A47 A48 A49 A50 A51 A52 A53 A54 A55 A56 A57 A58 A59 A60 A61 E1 E2 (made short by a program) -/
import Derived.Test.YtkmclibmmlgogaaGreatB5
set_option linter.unusedVariables false
set_option linter.unusedSimpArgs false
open Bool renaming false_eq_true → b7
open List renaming drop_of_length_le → k9, getElem?_append_left → x9, getElem?_append_right → s7, getElem?_eq_getElem → s9, getElem?_eq_none → A8, mem_cons → C6, replicate → c9, take_of_length_le → q5
open Nat renaming add_assoc → H9, ble → L3, le_of_ble_eq_true → o7, le_refl → n5, lt_or_ge → u9
namespace Go.y3
def iu (x:Int):List Int->List Int
 |[]=>[x]
 |y::l=>if x<=y then x::y::l else y::iu x l
def Q6:List Int->List Int
 |[]=>[]
 |x::l=>iu x (Q6 l)
def iH :List b6->Option (List Int)
 |[]=>some []
 | .d (.int .i64 n)::r=>match iH r with
  |some xs=>some (n::xs)
  |none=>none
 |_=>none
def xX:List b6->o6->G9->Option (b6×o6)
 |[.I8,.d (.int .i64 n)],H,_=>if 0<=n/\n<=1000000 then some (.own 1 0 [],H) else none
 |_,_,_=>none
def xY:List b6->o6->G9->Option (b6×o6)
 |[.D4 id 1 lo len],H,l=>if l.may id&&L3 len 1000000 then match rd H id lo len with
   |some vs=>match iH vs with
    |some xs=>match wr H id lo ((Q6 xs).map fun n=> .d (.int .i64 n)) with
     |some H1=>some (.tuple [],H1)
     |none=>none
    |none=>none
   |none=>none
  else none
 |[.d (.slice 0 _)],H,_=>some (.tuple [],H)
 |_,_,_=>none
def Q4:List Int->List Int
 |[]=>[]
 |[x]=>[x]
 |x::y::l=>if x=y then Q4 (y::l) else x::Q4 (y::l)
def gQ:List b6->o6->G9->Option (b6×o6)
 |[.D4 id 1 lo len],H,l=>if l.may id&&L3 len 1000000 then match rd H id lo len with
   |some vs=>match iH vs with
    |some xs=>match wr H id lo ((Q4 xs++c9 (xs.length - (Q4 xs).length) 0).map fun n=> .d (.int .i64 n)) with
     |some H1=>some (.D4 id 1 lo (Q4 xs).length,H1)
     |none=>none
    |none=>none
   |none=>none
  else none
 |_,_,_=>none
section
variable {A:Prog} {l:G9} {b:Nat}
variable {dr:Bool} {j4 ops:List n8} {T:List b6} {H:o6} {n:Nat} {rl:List b6} {n6:List Touch} {Q:List b6->o6->List b6->Prop}
theorem Ex.Rj {ops:List n8}{draw:Bool}{c:q7}{d e:o8}{T:List b6}{H:o6}{Q:E4->St->Prop}(t:Bool)
  (h:Rn A l b ops draw T H fun T' H' L=>T' =T/\H' =H/\∃ t',F5 T' L c= .d (.bool t')/\t' =t)
  (h2:t=true->Ex A l b d ⟨T,H⟩ Q) (h3:t=false->Ex A l b e ⟨T,H⟩ Q):Ex A l b (.test ops draw c d e) ⟨T,H⟩ Q:=by
 obtain ⟨r,N,⟨e1,e2,t',e3,rfl⟩,h⟩:=h;subst e1;subst e2;exact Ex.test ⟨r,N,⟨t',e3,h2,h3⟩,h⟩
theorem Ex.nT {c:o8}{T T2:List b6}{H:o6}{Q:E4->St->Prop}(h:Ex A l b c ⟨T2,H⟩ Q)(hT:T=T2:=by simp only [V0]<;>rfl):Ex A l b c ⟨T,H⟩ Q:=hT ▸ h
theorem Pf.run {f:FuncId}{af:p7}{args:List b6}{v:b6}(T:List b6)(hp:A.gS f=none)(hf:A.fn f=some af)(hn:args.length=af.nparams)
  (hT:args++c9 (af.names.length - args.length) .any=T) (h:Ex A cB 0 af.body ⟨T,[]⟩ fun x s=>∃ w,kF af 0 (some (x,s))=some (w,[])/\w=v):Pf A f args v :=
 Pf.aj2 T hp hf hn hT (h.mono fun _ _ ⟨_,h1,h2⟩=>h2 ▸ h1)
theorem X7 {α:Type}:∀ {l:List α} {j:Nat} {v:α},l[j]? =some v->l.set j v=l
 |[],_,_,_=>rfl
 |a::l,0,v,h=>by simp at h;simp [h]
 |a::l,j+1,v,h=>by simp at h;simp [X7 h]
theorem Rx.QN {pre:List b6}{op:q9}{j:Nat}{want:Bool}{u:List Nat}(h:pre[j]? =some (.tuple []))(hk:F4 ⟨T,H,pre++ .any::c9 ops.length .any,n6⟩ op=false)(ha:op.z8=false)
  (h2:Rx A l b dr j4 ops T H (pre++[.tuple []]) n6 Q):Rx A l b dr j4 (⟨op,none,some (j,want),u⟩::ops) T H pre n6 Q:=by
 refine Rx.step (N1:=0) (rs:=[]) hk ha (fun n _=> ?_) (fun rs=>by simp [J6]) h2;simp only [y6,y4,pY h,put,F6,q8,F3]
instance:Inhabited aE:=⟨⟨0,0,0,[],0⟩⟩
instance:Inhabited Y5:=⟨⟨[],0,[],[],[],0,0⟩⟩
instance:Inhabited eZ:=⟨⟨[],[],0,0⟩⟩
instance:Inhabited HC:=⟨⟨[],[]⟩⟩
instance:Inhabited Ao:=⟨⟨[],0,[]⟩⟩
instance:Inhabited Vw:=⟨⟨[],0,[],[],[],[],[],false,[]⟩⟩
instance:Inhabited iC:=⟨⟨[],[],0⟩⟩
instance:Inhabited iq:=⟨⟨[],[],0,0,0,0⟩⟩
instance:Inhabited kj:=⟨⟨[],[],0,0⟩⟩
instance:Inhabited jx:=⟨⟨[],[],0⟩⟩
instance:Inhabited lS:=⟨⟨[],[]⟩⟩
instance:Inhabited lQ:=⟨⟨[],[],0⟩⟩
@[irreducible] def nth {α:Type} [Inhabited α] (l:List α) (i:Nat):α:=l[i]?.getD default
theorem K0 {α:Type} [Inhabited α] {l:List α}{i:Nat}(h:i<l.length):nth l i=l[i]:=by simp [nth,h]
theorem U0 {α:Type} [Inhabited α] (a:α)(l:List α):nth (a::l) 0=a:=by simp [nth]
theorem mQ {α:Type} [Inhabited α] (a:α)(l:List α)(i:Nat):nth (a::l) (i+1)=nth l i:=by simp [nth]
theorem ay {α:Type} [Inhabited α] {l:List α}{i:Nat}(h:i<l.length):nth l i ∈ l:=by rw [K0 h];exact List.getElem_mem h
theorem A2 {α:Type} [Inhabited α] {l:List α}{i:Nat}(h:i<l.length):l.drop i=nth l i::l.drop (i+1):=by rw [K0 h];exact List.drop_eq_getElem_cons h
theorem F7 {α:Type} [Inhabited α] {l:List α}{i:Nat}(h:i<l.length):l.take (i+1)=l.take i++[nth l i]:=by rw [K0 h,List.take_append_getElem]
theorem jm {α:Type} [Inhabited α] {l:List α}{i j:Nat}(h:j<i)(hi:i<=l.length):(l.take i).drop j=nth l j::(l.take i).drop (j+1):=by
 rw [A2 (by simp;omega),K0 (by simp;omega),K0 (by omega)];simp
@[irreducible] def C9 (a b:Int):Bool:=decide (a<b)
@[irreducible] def W8 (a b:Int):Bool:=decide (a<=b)
@[irreducible] def o9 (a b:Int):Bool:=a==b
@[irreducible] def J2 (a b:List UInt8):Bool:=a==b
theorem p5 (a b:Int):C9 a b=decide (a<b):=by unfold C9;rfl
theorem p4 (a b:Int):W8 a b=decide (a<=b):=by unfold W8;rfl
theorem j9 (a b:Int):o9 a b=(a==b):=by unfold o9;rfl
theorem B8 (a b:List UInt8):J2 a b=(a==b):=by unfold J2;rfl
theorem y9 {a b:Int}(h:C9 a b=true):a<b:=by simpa [p5] using h
theorem y8 {a b:Int}(h:C9 a b=false):b<=a:=by simpa [p5] using h
theorem qV {a b:Int}(h:W8 a b=true):a<=b:=by simpa [p4] using h
theorem AR {a b:Int}(h:W8 a b=false):b<a:=by simpa [p4] using h
theorem X2 {a b:Int}(h:o9 a b=true):a=b:=by simpa [j9] using h
theorem mz {a b:Int}(h:o9 a b=false):a≠b:=by simpa [j9] using h
theorem ap8 {a b:List UInt8}(h:J2 a b=true):a=b:=by simpa [B8] using h
theorem VU {a b:List UInt8}(h:J2 a b=false):a≠b:=by simpa [B8] using h
def n7 (n a b:Int):Bool:=W8 a n&&W8 n b
def Ry (A:Prog)(l:G9)(b:Nat)(dr:Bool)(j4 ops:List n8)(T:List b6)(H:o6)(n:Nat)(rl:List b6)(n6:List Touch)(Q:List b6->o6->List b6->Prop):Prop :=
 rl.length=n->Rx A l b dr j4 ops T H rl.reverse n6 Q
def lk (n:Nat)(rl:List b6)(j:Nat):Option b6:=match L3 (j+1) n with
 |true=>rl[n - (j+1)]?
 |false=>none
theorem fL (hn:rl.length=n)(j:Nat):rl.reverse[j]? =lk n rl j:=by
 subst hn;unfold lk;split
 ·rename_i h
  have h1:j+1<=rl.length:=o7 h;rw [List.getElem?_reverse (by omega)]
  congr 1
  omega
 ·rename_i h
  have h1:¬ j+1<=rl.length:=fun h2=>by rw [Nat.ble_eq_true_of_le h2] at h;cases h
  rw [A8 (by simp;omega)]
def Vk (T:List b6)(n:Nat)(rl:List b6):q7->Option b6
 | .slot s=>T[s]?
 | .loc j=>lk n rl j
 | .const v=>some v
def Oq (T:List b6)(n:Nat)(rl:List b6)(x:q7)(v:b6):Prop:=Vk T n rl x=some v/\v.G4=v
theorem Oq.op {x:q7}{v:b6}(h:Oq T n rl x v)(hn:rl.length=n):Op T rl.reverse x v:=by
 obtain ⟨h1,h2⟩:=h;refine ⟨?_,h2⟩;cases x with
 |slot s=>exact h1
 |loc j=>simp only [XN,fL hn];exact h1
 |const u=>exact h1
def rq (T:List b6)(n:Nat)(rl:List b6):q7->b6
 | .const v=>v.NP
 |x=>((Vk T n rl x).getD .any).G4
theorem Oq.rq {x:q7}{v:b6}(h:Oq T n rl x v):y3.rq T n rl x=v:=by
 obtain ⟨h1,h2⟩:=h;cases x with
 |const u=>simp only [Vk,Option.some.injEq] at h1;subst h1;simp [y3.rq,Ou h2]
 |_=>simp [y3.rq,h1,h2]
theorem Y9 (hn:rl.length=n)(m:Nat)(x:q7):y3.F5 T (rl.reverse++ .any::c9 m .any) x=rq T n rl x:=by
 cases x with
 |slot s=>simp [y3.F5,rq,Vk]
 |const v=>simp [y3.F5,rq,Vk]
 |loc j =>
  simp only [y3.F5,rq,Vk,<- fL hn,List.getD_eq_getElem?_getD]
  rcases u9 j rl.reverse.length with h|h
  ·rw [x9 h]
  ·rw [s7 h,A8 h]
   congr 1
   cases hk:j - rl.reverse.length with
   |zero=>rfl
   |succ k =>
    simp only [List.getElem?_cons_succ,List.getElem?_replicate];split<;>rfl
theorem Ry.to {v:b6}(h:Ry A l b dr j4 ops T H (n+1) (v::rl) n6 Q)(hn:rl.length=n):Rx A l b dr j4 ops T H (rl.reverse++[v]) n6 Q:=by
 have:=h (by simp [hn]);simpa using this
theorem Rn.text {T:List b6}{H:o6}(h:Ry A l b false ops ops T H 0 [] [] Q):Rn A l b ops false T H Q:=Rn.TI (h rfl)
theorem Rn.draw {T:List b6}{H:o6}(h:Ry A l b true ops ops T H 0 [] [] Q)(hp:pI ops=true:=by rfl):Rn A l b ops true T H Q:=Rn.TH hp (h rfl)
theorem Ry.pure {op:q9}{u:List Nat}{v:b6}{rs:List Nat}(hE:op.E2=false)(hp:m6 (rq T n rl) H op=some (v,rs))
  (h2:Ry A l b dr j4 ops T H (n+1) (v::rl) n6 Q):Ry A l b dr j4 (⟨op,none,none,u⟩::ops) T H n rl n6 Q:=fun hn=>by
 refine Rx.pure (rs:=rs) hE (fun m=> ?_) (h2.to hn);rw [show y3.F5 T (rl.reverse++ .any::c9 m .any)=rq T n rl from funext fun x=>Y9 hn m x];exact hp
theorem Ry.ye {op:q9}{u:List Nat}{v:b6}{rs:List Nat}{s:Nat}(hE:op.E2=false)(hp:m6 (rq T n rl) H op=some (v,rs))(hv:v.G4=v)(hm:op.z8=false)(hs:T[s]?.isSome=true)
  (h2:Ry A l b dr j4 ops (T.set s v) H (n+1) (v::rl) (.slot s::n6) Q):Ry A l b dr j4 (⟨op,some s,none,u⟩::ops) T H n rl n6 Q:=fun hn=>by
 have hs:s<T.length:=by
  rcases u9 s T.length with h|h
  ·exact h
  ·rw [A8 h] at hs;cases hs
 have OT:∀ x,op≠ .O3 x:=by
  rintro x rfl;simp [m6] at hp
 refine Rx.step (N1:=0) (rs:=rs) ?_ hm (fun m _=> ?_) (gD s n6) (h2.to hn)
 ·cases op<;>first|rfl|(simp [q9.E2] at hE)
 ·have h3:D6 (M4 A m l b) j4 none rl.reverse.length op ⟨T,H,rl.reverse++ .any::c9 ops.length .any,n6⟩=some (⟨T,H,rl.reverse++v::c9 ops.length .any,n6⟩,rs):=by
   have h4:m6 (y3.F5 T (rl.reverse++ .any::c9 ops.length .any)) H op=some (v,rs):=by
    rw [show y3.F5 T (rl.reverse++ .any::c9 ops.length .any)=rq T n rl from funext fun x=>Y9 hn _ x];exact hp
   cases op<;>first
    |exact absurd rfl (OT _)
    |(simp only [D6,hE,b7,if_false,h4,put,F6];done)
    |(simp [q9.E2] at hE;done)
  have h5:y3.D7 ⟨T,H,rl.reverse++v::c9 ops.length .any,n6⟩ (.loc rl.reverse.length)=(v,⟨T,H,rl.reverse++v::c9 ops.length .any,n6⟩):=by
   simp only [y3.D7,s7 (n5 _),Nat.sub_self,List.getElem?_cons_zero];split
   ·rename_i heq
    cases heq;simp [b6.G4] at hv
   ·simp [y3.F5,hv]
  simp only [y6,y4,h3,q8,F3,hs,if_true,h5]
theorem Ry.fork {j:Nat}{w:Bool}(h:lk n rl j=some (.d (.bool w)))(hj:L3 (j+1) n=true)(h1:w=true->Ry A l b dr j4 ops T H n (rl.set (n - (j+1)) (.d (.bool true))) n6 Q)
  (h2:w=false->Ry A l b dr j4 ops T H n (rl.set (n - (j+1)) (.d (.bool false))) n6 Q):Ry A l b dr j4 ops T H n rl n6 Q:=by
 simp only [lk,hj] at h;cases w with
 |true=>have:=h1 rfl;rwa [X7 h] at this
 |false=>have:=h2 rfl;rwa [X7 h] at this
theorem Bp {α:Type}{enc:α->List Data}{sz:Nat}(hs:∀ a,(enc a).length=sz):∀ (l:List α) (i:Nat),(l.flatMap enc).take (i * sz)=(l.take i).flatMap enc
 |[],i=>by simp
 |a::l,0=>by simp
 |a::l,i+1=>by
  have h1:=Bp hs l i;simp only [List.flatMap_cons,List.take_succ_cons];rw [List.take_append,hs a,Nat.succ_mul,Nat.add_sub_cancel,h1];rw [q5 (by rw [hs a];omega)]
theorem gJ {α:Type}{enc:α->List Data}{sz:Nat}(hs:∀ a,(enc a).length=sz):∀ (l:List α),(l.flatMap enc).length=l.length * sz
 |[]=>by simp
 |a::l=>by simp [hs a,gJ hs l,Nat.succ_mul,Nat.add_comm]
theorem tj {α:Type}{enc:α->List Data}{sz:Nat}(hs:∀ a,(enc a).length=sz):∀ (l:List α) (i:Nat),(l.flatMap enc).drop (i * sz)=(l.drop i).flatMap enc
 |[],i=>by simp
 |a::l,0=>by simp
 |a::l,i+1=>by
  have h1:=tj hs l i;simp only [List.flatMap_cons,List.drop_succ_cons];rw [List.drop_append,hs a,Nat.succ_mul,Nat.add_sub_cancel,h1];rw [List.drop_eq_nil_of_le (by rw [hs a];omega)];rfl
theorem yu {α:Type}{enc:α->List Data}{sz:Nat}(hs:∀ a,(enc a).length=sz)(l:List α)(lo hi:Nat)(h1:lo<=hi)(h2:hi<=l.length) :
  Data.slice ((hi:Int) - lo).toNat (((l.flatMap enc).take (hi * sz)).drop (lo * sz))=z6 enc ((l.take hi).drop lo):=by
 rw [Bp hs,tj hs,z6]
 congr 1
 simp;omega
def B3 {α:Type}(sz:Nat)(enc:α->List Data)(xs:List α):b6:= .own sz xs.length (xs.flatMap enc)
theorem De {j:Nat}(hn:rl.length=n)(hb:L3 (j+1) n=true)(v:b6):rl.reverse.set j v=(rl.set (n - (j+1)) v).reverse:=by
 have hb' :j+1<=rl.length:=by rw [hn];exact o7 hb
 apply List.ext_getElem?;intro i
 rcases u9 i rl.length with hi|hi
 ·have e1:(rl.set (n - (j+1)) v).reverse[i]? =(rl.set (n - (j+1)) v)[(rl.set (n - (j+1)) v).length - 1 - i]? :=List.getElem?_reverse (by simp;omega)
  have e2:rl.reverse[i]? =rl[rl.length - 1 - i]? :=List.getElem?_reverse (by omega);rw [List.getElem?_set,e2,e1,List.getElem?_set];simp only [List.length_reverse,List.length_set];subst hn
  by_cases hji:j=i
  ·subst hji
   rw [if_pos rfl,if_pos (by omega),if_pos (by omega),if_pos (by omega)]
  ·rw [if_neg hji,if_neg (by omega)]
 ·rw [A8 (by simp;omega),A8 (by simp;omega)]
theorem Rx.SK {pre:List b6}{j sz bytes:Nat}{y:q7}{u:List Nat}{len m:Nat}{cells new:List Data}{vy:b6}{cs:List b6}
  (hj:pre[j]? =some (.own sz len cells)) (hy:∀ m,y3.F5 T (pre++ .any::c9 m .any) y=vy) (hc:J5 H sz vy=some (m,cs)) (hd:N9 cs=some new) (hr:roomFor (len+m) bytes=true) (h0:0<sz)
  (h2:Rx A l b dr j4 ops T H (pre.set j (.d (.slice len cells))++[.own sz (len+m) (cells++new)]) n6 Q):Rx A l b dr j4 (⟨.append sz bytes false (.loc j) y,none,none,u⟩::ops) T H pre n6 Q:=by
 have hjl:j<pre.length:=by
  rcases u9 j pre.length with hj' |hj'
  ·exact hj'
  ·rw [A8 hj'] at hj;cases hj
 have hL:∀ r:List b6,(pre++ .any::r)[j]? =some (.own sz len cells):=fun r=>by rw [x9 hjl,hj]
 have xz:y3.F5 T (pre++ .any::c9 ops.length .any) (.loc j)= .d (.slice len cells):=by simp [y3.F5,hL,b6.G4]
 have hl:(pre.set j (.d (.slice len cells))).length=pre.length:=by simp
 have h3:∀ (a:b6) (r:List b6),(pre++a::r).set j (.d (.slice len cells))=pre.set j (.d (.slice len cells))++a::r:=fun a r=>List.set_append_left _ _ hjl
 have h4:∀ (a v:b6) (r:List b6),(pre.set j (.d (.slice len cells))++a::r).set pre.length v=pre.set j (.d (.slice len cells))++v::r:=fun a v r=>by rw [<- hl];exact F6 _ _ _ _
 refine Rx.stepG (N1:=0) (rs:=[]) hl (by simp only [F4,xz]) rfl (fun n _=> ?_) (fun rs=>by simp [J6]) h2;simp only [y6,y4,D6,q9.E2,if_true,E6,xz,L0,hy,hc,hd,b7,if_false,Q1,hL,hr,h0,and_self,put,h3,h4,q8,F3]
theorem gA:∀ l:List Data,N9 (l.map .d)=some l
 |[]=>rfl
 |a::l=>by simp [N9,b6.data?,gA l]
theorem Ry.ad1 {j s sz bytes:Nat}{y:q7}{u u' :List Nat}{d' :Option Nat}{g' :Option (Nat×Bool)}{n' len m:Nat}{cs' cells new:List Data}
  (hj:lk n rl j=some (.d (.slice n' cs'))) (ha:j4[j]? =some ⟨.O3 (.slot s),d',g',u'⟩) (ht:n6.any (Touch.R9 s)=false) (hT:T[s]? =some (.own sz len cells))
  (hy:rq T n rl y= .d (.slice m new)) (hl:new.length=m * sz) (hr:roomFor (len+m) bytes=true) (h0:0<sz)
  (h2:Ry A l b dr j4 ops (T.set s (.d (.slice len cells))) H (n+1) (.own sz (len+m) (cells++new)::rl) (.slot s::n6) Q):Ry A l b dr j4 (⟨.append sz bytes false (.loc j) y,none,none,u⟩::ops) T H n rl n6 Q:=fun hn =>
 Rx.append (vy:= .d (.slice m new)) (by rw [fL hn];exact hj) ha ht hT (fun k=>by rw [Y9 hn];exact hy) (by simp only [J5,hl,if_true]) (gA new) hr h0 (h2.to hn)
theorem Ry.Ww {j sz bytes:Nat}{y:q7}{u:List Nat}{len m:Nat}{cells new:List Data}(hj:lk n rl j=some (.own sz len cells))(hb:L3 (j+1) n=true)
  (hy:rq T n rl y= .d (.slice m new)) (hl:new.length=m * sz) (hr:roomFor (len+m) bytes=true) (h0:0<sz)
  (h2:Ry A l b dr j4 ops T H (n+1) (.own sz (len+m) (cells++new)::rl.set (n - (j+1)) (.d (.slice len cells))) n6 Q):Ry A l b dr j4 (⟨.append sz bytes false (.loc j) y,none,none,u⟩::ops) T H n rl n6 Q:=fun hn=>by
 refine Rx.SK (vy:= .d (.slice m new)) (by rw [fL hn];exact hj) (fun k=>by rw [Y9 hn];exact hy) (by simp only [J5,hl,if_true]) (gA new) hr h0 ?_;have h3:=h2.to (by simp [hn]);rw [De hn hb];exact h3
namespace S
theorem nl (h:Q T H rl.reverse):Ry A l b dr j4 [] T H n rl n6 Q:=fun _=>Rx.nil h
theorem mv {x:q7}{v:b6}{u:List Nat}(h2:Ry A l b dr j4 ops T H (n+1) (v::rl) n6 Q)(hx:Oq T n rl x (v):=by exact ⟨rfl,rfl⟩) :
  Ry A l b dr j4 (⟨.O3 x,none,none,u⟩::ops) T H n rl n6 Q:=fun hn=>Rx.O3 (hx.op hn) (h2.to hn)
theorem mt {x:q7}{v:b6}{s:Nat}{T2:List b6}{u:List Nat}(hx:Oq T n rl x (v):=by exact ⟨rfl,rfl⟩)(hs:T[s]?.isSome=true:=by rfl)(hT:T.set s v=T2:=by simp only [List.set_cons_zero,List.set_cons_succ]<;>rfl)(h2:Ry A l b dr j4 ops T2 H (n+1) (v::rl) (.slot s::n6) Q) :
  Ry A l b dr j4 (⟨.O3 x,some s,none,u⟩::ops) T H n rl n6 Q:=fun hn=>Rx.ai3 (hx.op hn) hs (by rw [hT];exact h2.to hn)
theorem mo {s z n0:Nat}{cs:List Data}{u:List Nat}(h2:Ry A l b dr j4 ops T H (n+1) (.d (.slice n0 cs)::rl) n6 Q)(hx:T[s]? =some (.own z n0 cs):=by rfl) :
  Ry A l b dr j4 (⟨.O3 (.slot s),none,none,u⟩::ops) T H n rl n6 Q:=fun hn=>Rx.XE hx (h2.to hn)
theorem mw {j s z n0:Nat}{cs:List Data}{u:List Nat}{T2:List b6}(hj:lk n rl j=some (.own z n0 cs):=by rfl)(hb:L3 (j+1) n=true:=by rfl)(hs:T[s]?.isSome=true:=by rfl)(hT:T.set s (.own z n0 cs)=T2:=by simp only [List.set_cons_zero,List.set_cons_succ]<;>rfl)
  (h2:Ry A l b dr j4 ops T2 H (n+1) (.d (.slice n0 cs)::rl.set (n - (j+1)) (.d (.slice n0 cs))) (.slot s::n6) Q):Ry A l b dr j4 (⟨.O3 (.loc j),some s,none,u⟩::ops) T H n rl n6 Q:=fun hn=>by
 refine Rx.Px (by rw [fL hn];exact hj) hs ?_;have h3:=h2.to (by simp [hn]);rw [hT,De hn hb];exact h3
theorem ow {s z n0:Nat}{cs:List Data}{T2:List b6}{u:List Nat}(hs:T[s]?.isSome=true:=by rfl)(hT:T.set s (.own z n0 cs)=T2:=by simp only [List.set_cons_zero,List.set_cons_succ]<;>rfl)(h2:Ry A l b dr j4 ops T2 H (n+1) (.d (.slice n0 cs)::rl) (.slot s::n6) Q) :
  Ry A l b dr j4 (⟨.O3 (.const (.own z n0 cs)),some s,none,u⟩::ops) T H n rl n6 Q:=fun hn=>Rx.aj3 hs (by rw [hT];exact h2.to hn)
theorem ad {x y:q7}{c d:Int}{u:List Nat}(h2:Ry A l b dr j4 ops T H (n+1) (.d (.int .i64 (c+d))::rl) n6 Q)(hx:rq T n rl x= .d (.int .i64 c):=by rfl)(hy:rq T n rl y= .d (.int .i64 d):=by rfl)(h0: -9223372036854775808<=c+d/\c+d<9223372036854775808:=by first|omega|(simp only [n7,Bool.and_eq_true,p5,p4,j9,beq_eq_false_iff_ne,beq_iff_eq,decide_eq_true_eq,decide_eq_false_iff_not,Bool.not_eq_true',Bool.not_eq_false'] at *;omega)) :
  Ry A l b dr j4 (⟨.bin .add x y,none,none,u⟩::ops) T H n rl n6 Q:=Ry.pure (rs:=[]) rfl (by simp only [m6,hx,hy,Ck (Or.inl ⟨rfl,rfl⟩) h0.1 h0.2]) h2
theorem sb {x y:q7}{c d:Int}{u:List Nat}(h2:Ry A l b dr j4 ops T H (n+1) (.d (.int .i64 (c - d))::rl) n6 Q)(hx:rq T n rl x= .d (.int .i64 c):=by rfl)(hy:rq T n rl y= .d (.int .i64 d):=by rfl)(h0: -9223372036854775808<=c - d/\c - d<9223372036854775808:=by first|omega|(simp only [n7,Bool.and_eq_true,p5,p4,j9,beq_eq_false_iff_ne,beq_iff_eq,decide_eq_true_eq,decide_eq_false_iff_not,Bool.not_eq_true',Bool.not_eq_false'] at *;omega)) :
  Ry A l b dr j4 (⟨.bin .sub x y,none,none,u⟩::ops) T H n rl n6 Q:=Ry.pure (rs:=[]) rfl (by simp only [m6,hx,hy,Ck (Or.inr ⟨rfl,rfl⟩) h0.1 h0.2]) h2
theorem li {x y:q7}{k:IntKind}{c d:Int}{u:List Nat}(h2:Ry A l b dr j4 ops T H (n+1) (.d (.bool (C9 c d))::rl) n6 Q)(hx:rq T n rl x= .d (.int k c):=by rfl)(hy:rq T n rl y= .d (.int k d):=by rfl) :
  Ry A l b dr j4 (⟨.bin .lss x y,none,none,u⟩::ops) T H n rl n6 Q:=Ry.pure (rs:=[]) rfl (by simp [m6,hx,hy,M5,X4,aS,p5,p4,j9,bne]) h2
theorem lo {x y:q7}{k:IntKind}{c d:Int}{u:List Nat}(h2:Ry A l b dr j4 ops T H (n+1) (.d (.bool (W8 c d))::rl) n6 Q)(hx:rq T n rl x= .d (.int k c):=by rfl)(hy:rq T n rl y= .d (.int k d):=by rfl) :
  Ry A l b dr j4 (⟨.bin .leq x y,none,none,u⟩::ops) T H n rl n6 Q:=Ry.pure (rs:=[]) rfl (by simp [m6,hx,hy,M5,X4,aS,p5,p4,j9,bne]) h2
theorem gi {x y:q7}{k:IntKind}{c d:Int}{u:List Nat}(h2:Ry A l b dr j4 ops T H (n+1) (.d (.bool (C9 d c))::rl) n6 Q)(hx:rq T n rl x= .d (.int k c):=by rfl)(hy:rq T n rl y= .d (.int k d):=by rfl) :
  Ry A l b dr j4 (⟨.bin .gtr x y,none,none,u⟩::ops) T H n rl n6 Q:=Ry.pure (rs:=[]) rfl (by simp [m6,hx,hy,M5,X4,aS,p5,p4,j9,bne]) h2
theorem go {x y:q7}{k:IntKind}{c d:Int}{u:List Nat}(h2:Ry A l b dr j4 ops T H (n+1) (.d (.bool (W8 d c))::rl) n6 Q)(hx:rq T n rl x= .d (.int k c):=by rfl)(hy:rq T n rl y= .d (.int k d):=by rfl) :
  Ry A l b dr j4 (⟨.bin .geq x y,none,none,u⟩::ops) T H n rl n6 Q:=Ry.pure (rs:=[]) rfl (by simp [m6,hx,hy,M5,X4,aS,p5,p4,j9,bne]) h2
theorem ei {x y:q7}{k:IntKind}{c d:Int}{u:List Nat}(h2:Ry A l b dr j4 ops T H (n+1) (.d (.bool (o9 c d))::rl) n6 Q)(hx:rq T n rl x= .d (.int k c):=by rfl)(hy:rq T n rl y= .d (.int k d):=by rfl) :
  Ry A l b dr j4 (⟨.bin .eql x y,none,none,u⟩::ops) T H n rl n6 Q:=Ry.pure (rs:=[]) rfl (by simp [m6,hx,hy,M5,X4,aS,p5,p4,j9,bne]) h2
theorem ni {x y:q7}{k:IntKind}{c d:Int}{u:List Nat}(h2:Ry A l b dr j4 ops T H (n+1) (.d (.bool (!o9 c d))::rl) n6 Q)(hx:rq T n rl x= .d (.int k c):=by rfl)(hy:rq T n rl y= .d (.int k d):=by rfl) :
  Ry A l b dr j4 (⟨.bin .neq x y,none,none,u⟩::ops) T H n rl n6 Q:=Ry.pure (rs:=[]) rfl (by simp [m6,hx,hy,M5,X4,aS,p5,p4,j9,bne]) h2
theorem es {x y:q7}{c d:List UInt8}{u:List Nat}(h2:Ry A l b dr j4 ops T H (n+1) (.d (.bool (J2 c d))::rl) n6 Q)(hx:rq T n rl x= .d (.str c):=by rfl)(hy:rq T n rl y= .d (.str d):=by rfl) :
  Ry A l b dr j4 (⟨.bin .eql x y,none,none,u⟩::ops) T H n rl n6 Q:=Ry.pure (rs:=[]) rfl (by simp [m6,hx,hy,M5,sY,B8]) h2
theorem ns {x y:q7}{c d:List UInt8}{u:List Nat}(h2:Ry A l b dr j4 ops T H (n+1) (.d (.bool (!J2 c d))::rl) n6 Q)(hx:rq T n rl x= .d (.str c):=by rfl)(hy:rq T n rl y= .d (.str d):=by rfl) :
  Ry A l b dr j4 (⟨.bin .neq x y,none,none,u⟩::ops) T H n rl n6 Q:=Ry.pure (rs:=[]) rfl (by simp [m6,hx,hy,M5,sY,B8]) h2
theorem ng {x:q7}{t:Bool}{u:List Nat}(h2:Ry A l b dr j4 ops T H (n+1) (.d (.bool (!t))::rl) n6 Q)(hx:rq T n rl x= .d (.bool t):=by rfl) :
  Ry A l b dr j4 (⟨.un .not x,none,none,u⟩::ops) T H n rl n6 Q:=Ry.pure (rs:=[]) rfl (by simp only [m6,hx,yU]) h2
theorem ln {α:Type}{enc:α->List Data}{xs:List α}{x:q7}{u:List Nat}(h2:Ry A l b dr j4 ops T H (n+1) (.d (.int .i64 (xs.length:Int))::rl) n6 Q)(hx:rq T n rl x= .d (z6 enc xs):=by rfl) :
  Ry A l b dr j4 (⟨.len x,none,none,u⟩::ops) T H n rl n6 Q:=Ry.pure (rs:=[]) rfl (by simp only [m6,hx,z6,i64]) h2
theorem ls {x:q7}{m:Nat}{cs:List Data}{u:List Nat}(h2:Ry A l b dr j4 ops T H (n+1) (.d (.int .i64 (m:Int))::rl) n6 Q)(hx:rq T n rl x= .d (.slice m cs):=by rfl) :
  Ry A l b dr j4 (⟨.len x,none,none,u⟩::ops) T H n rl n6 Q:=Ry.pure (rs:=[]) rfl (by simp only [m6,hx,i64]) h2
theorem lnT {α:Type}{enc:α->List Data}{xs:List α}{x:q7}{s:Nat}{T2:List b6}{u:List Nat}(hx:rq T n rl x= .d (z6 enc xs):=by rfl)(hs:T[s]?.isSome=true:=by rfl)(hT:T.set s (.d (.int .i64 (xs.length:Int)))=T2:=by simp only [List.set_cons_zero,List.set_cons_succ]<;>rfl)(h2:Ry A l b dr j4 ops T2 H (n+1) (.d (.int .i64 (xs.length:Int))::rl) (.slot s::n6) Q) :
  Ry A l b dr j4 (⟨.len x,some s,none,u⟩::ops) T H n rl n6 Q:=Ry.ye (v:= .d (.int .i64 (xs.length:Int))) (rs:=[]) rfl (by simp only [m6,hx,z6,i64]) rfl rfl hs (by rw [hT];exact h2)
theorem lsT {m:Nat}{cs:List Data}{x:q7}{s:Nat}{T2:List b6}{u:List Nat}(hx:rq T n rl x= .d (.slice m cs):=by rfl)(hs:T[s]?.isSome=true:=by rfl)(hT:T.set s (.d (.int .i64 (m:Int)))=T2:=by simp only [List.set_cons_zero,List.set_cons_succ]<;>rfl)(h2:Ry A l b dr j4 ops T2 H (n+1) (.d (.int .i64 (m:Int))::rl) (.slot s::n6) Q) :
  Ry A l b dr j4 (⟨.len x,some s,none,u⟩::ops) T H n rl n6 Q:=Ry.ye (v:= .d (.int .i64 (m:Int))) (rs:=[]) rfl (by simp only [m6,hx,i64]) rfl rfl hs (by rw [hT];exact h2)
theorem ldT {c:Data}{cs:List Data}{x:q7}{s:Nat}{T2:List b6}{u:List Nat}(hx:rq T n rl x= .Q5 (c::cs):=by rfl)(hs:T[s]?.isSome=true:=by rfl)(hT:T.set s (.d c)=T2:=by simp only [List.set_cons_zero,List.set_cons_succ]<;>rfl)(h2:Ry A l b dr j4 ops T2 H (n+1) (.d c::rl) (.slot s::n6) Q) :
  Ry A l b dr j4 (⟨.load none x,some s,none,u⟩::ops) T H n rl n6 Q:=Ry.ye (v:= .d c) (rs:=[]) rfl (by simp only [m6,hx]) rfl rfl hs (by rw [hT];exact h2)
theorem lpT {v:b6}{id o:Nat}{x:q7}{s:Nat}{T2:List b6}{u:List Nat}(hx:rq T n rl x= .ptr id o:=by rfl)(hr:rd H id o 1=some [v]:=by rfl)(hv:v.G4=v:=by rfl)(hs:T[s]?.isSome=true:=by rfl)(hT:T.set s v=T2:=by simp only [List.set_cons_zero,List.set_cons_succ]<;>rfl)(h2:Ry A l b dr j4 ops T2 H (n+1) (v::rl) (.slot s::n6) Q) :
  Ry A l b dr j4 (⟨.load none x,some s,none,u⟩::ops) T H n rl n6 Q:=Ry.ye (v:=v) (rs:=[id]) rfl (by simp only [m6,hx,hr,hv]) hv rfl hs (by rw [hT];exact h2)
theorem lt {x:q7}{s:List UInt8}{u:List Nat}(h2:Ry A l b dr j4 ops T H (n+1) (.d (.int .i64 (s.length:Int))::rl) n6 Q)(hx:rq T n rl x= .d (.str s):=by rfl) :
  Ry A l b dr j4 (⟨.U9 x,none,none,u⟩::ops) T H n rl n6 Q:=Ry.pure (rs:=[]) rfl (by simp only [m6,hx,i64]) h2
theorem ix {α:Type} [Inhabited α] {enc:α->List Data}{xs:List α}{sz i:Nat}{x y:q7}{k:IntKind}{u:List Nat}(hx:rq T n rl x= .d (z6 enc xs):=by rfl)(hy:rq T n rl y= .d (.int k ((i:Nat):Int)):=by rfl)(hs:∀ a,(enc a).length=sz:=by intro;rfl)(hi:i<xs.length:=by first|omega|(simp only [n7,Bool.and_eq_true,p5,p4,j9,beq_eq_false_iff_ne,beq_iff_eq,decide_eq_true_eq,decide_eq_false_iff_not,Bool.not_eq_true',Bool.not_eq_false'] at *;omega))(h2:Ry A l b dr j4 ops T H (n+1) (.Q5 (enc (nth xs i)++(xs.drop (i+1)).flatMap enc)::rl) n6 Q) :
  Ry A l b dr j4 (⟨.C4 sz x y,none,none,u⟩::ops) T H n rl n6 Q:=Ry.pure (rs:=[]) rfl (by
  have h1:(i:Int)<xs.length:=by omega
  have h3:=OA hs xs i hi;rw [<- K0 hi] at h3;simp only [m6,hx,hy,z6,Int.natCast_nonneg,h1,and_self,if_true,h3]) h2
theorem ixN {α:Type} [Inhabited α] {enc:α->List Data}{xs:List α}{sz i:Nat}{x y:q7}{k:IntKind}{u:List Nat}(hx:rq T n rl x= .d (z6 enc xs):=by rfl)(hy:rq T n rl y= .d (.int k (OfNat.ofNat i)):=by rfl)(hs:∀ a,(enc a).length=sz:=by intro;rfl)(hi:i<xs.length:=by first|omega|(simp only [n7,Bool.and_eq_true,p5,p4,j9,beq_eq_false_iff_ne,beq_iff_eq,decide_eq_true_eq,decide_eq_false_iff_not,Bool.not_eq_true',Bool.not_eq_false'] at *;omega))(h2:Ry A l b dr j4 ops T H (n+1) (.Q5 (enc (nth xs i)++(xs.drop (i+1)).flatMap enc)::rl) n6 Q) :
  Ry A l b dr j4 (⟨.C4 sz x y,none,none,u⟩::ops) T H n rl n6 Q:=ix hx hy hs hi h2
theorem Xe {α:Type} [Inhabited α] {enc:α->List Data}{xs:List α}{sz:Nat}{e:Int}{x y:q7}{k:IntKind}{u:List Nat}(i:Nat)(he:e=i:=by first|omega|(simp only [n7,Bool.and_eq_true,p5,p4,j9,beq_eq_false_iff_ne,beq_iff_eq,decide_eq_true_eq,decide_eq_false_iff_not,Bool.not_eq_true',Bool.not_eq_false'] at *;omega))(hx:rq T n rl x= .d (z6 enc xs):=by rfl)(hy:rq T n rl y= .d (.int k e):=by rfl)(hs:∀ a,(enc a).length=sz:=by intro;rfl)(hi:i<xs.length:=by first|omega|(simp only [n7,Bool.and_eq_true,p5,p4,j9,beq_eq_false_iff_ne,beq_iff_eq,decide_eq_true_eq,decide_eq_false_iff_not,Bool.not_eq_true',Bool.not_eq_false'] at *;omega))(h2:Ry A l b dr j4 ops T H (n+1) (.Q5 (enc (nth xs i)++(xs.drop (i+1)).flatMap enc)::rl) n6 Q) :
  Ry A l b dr j4 (⟨.C4 sz x y,none,none,u⟩::ops) T H n rl n6 Q:=ix hx (he ▸ hy) hs hi h2
theorem ixZ {α:Type} [Inhabited α] {enc:α->List Data}{xs:List α}{sz:Nat}{e:Int}{x y:q7}{k:IntKind}{u:List Nat}(hx:rq T n rl x= .d (z6 enc xs):=by rfl)(hy:rq T n rl y= .d (.int k e):=by rfl)(hs:∀ a,(enc a).length=sz:=by intro;rfl)(hi:0<=e/\e<xs.length:=by first|omega|(simp only [n7,Bool.and_eq_true,p5,p4,j9,beq_eq_false_iff_ne,beq_iff_eq,decide_eq_true_eq,decide_eq_false_iff_not,Bool.not_eq_true',Bool.not_eq_false'] at *;omega))(h2:Ry A l b dr j4 ops T H (n+1) (.Q5 (enc (nth xs e.toNat)++(xs.drop (e.toNat+1)).flatMap enc)::rl) n6 Q) :
  Ry A l b dr j4 (⟨.C4 sz x y,none,none,u⟩::ops) T H n rl n6 Q:=ix hx (by rw [hy,Int.toNat_of_nonneg hi.1]) hs (by omega) h2
theorem ld {x:q7}{c:Data}{cs:List Data}{u:List Nat}(h2:Ry A l b dr j4 ops T H (n+1) (.d c::rl) n6 Q)(hx:rq T n rl x= .Q5 (c::cs):=by rfl) :
  Ry A l b dr j4 (⟨.load none x,none,none,u⟩::ops) T H n rl n6 Q:=Ry.pure (rs:=[]) rfl (by simp only [m6,hx]) h2
theorem le {x:q7}{cs rest:List Data}{m:Nat}{u:List Nat}(h2:Ry A l b dr j4 ops T H (n+1) (.agg (cs.map .d)::rl) n6 Q)(hx:rq T n rl x= .Q5 (cs++rest):=by rfl)(hm:cs.length=m:=by rfl) :
  Ry A l b dr j4 (⟨.load (some m) x,none,none,u⟩::ops) T H n rl n6 Q:=Ry.pure (rs:=[]) rfl (by subst hm;simp [m6,hx]) h2
theorem lf {x:q7}{k:Nat}{cs:List Data}{u:List Nat}(h2:Ry A l b dr j4 ops T H (n+1) (.Q5 (cs.drop k)::rl) n6 Q)(hx:rq T n rl x= .Q5 cs:=by rfl) :
  Ry A l b dr j4 (⟨.off k x,none,none,u⟩::ops) T H n rl n6 Q:=Ry.pure (rs:=[]) rfl (by simp only [m6,hx]) h2
theorem fp {x:q7}{k id o:Nat}{u:List Nat}(h2:Ry A l b dr j4 ops T H (n+1) (.ptr id (o+k)::rl) n6 Q)(hx:rq T n rl x= .ptr id o:=by rfl) :
  Ry A l b dr j4 (⟨.off k x,none,none,u⟩::ops) T H n rl n6 Q:=Ry.pure (rs:=[]) rfl (by simp only [m6,hx]) h2
theorem lp {x:q7}{id o:Nat}{v:b6}{u:List Nat}(h2:Ry A l b dr j4 ops T H (n+1) (v::rl) n6 Q)(hx:rq T n rl x= .ptr id o:=by rfl)(hr:rd H id o 1=some [v]:=by rfl)(hv:v.G4=v:=by rfl) :
  Ry A l b dr j4 (⟨.load none x,none,none,u⟩::ops) T H n rl n6 Q:=Ry.pure (rs:=[id]) rfl (by simp only [m6,hx,hr,hv]) h2
theorem lpo {x:q7}{id o z m:Nat}{cs:List Data}{u:List Nat}(h2:Ry A l b dr j4 ops T H (n+1) (.d (.slice m cs)::rl) n6 Q)(hx:rq T n rl x= .ptr id o:=by rfl)(hr:rd H id o 1=some [.own z m cs]:=by rfl) :
  Ry A l b dr j4 (⟨.load none x,none,none,u⟩::ops) T H n rl n6 Q:=Ry.pure (rs:=[id]) rfl (by simp only [m6,hx,hr,b6.G4]) h2
theorem lq {x:q7}{m id:Nat}{cs:List b6}{u:List Nat}(h2:Ry A l b dr j4 ops T H (n+1) (.agg cs::rl) n6 Q)(hx:rq T n rl x= .ptr id 0:=by rfl)(hr:H[id]? =some (.cells cs):=by rfl)(hm:cs.length=m:=by rfl)(hv:cs.map b6.G4=cs:=by rfl) :
  Ry A l b dr j4 (⟨.load (some m) x,none,none,u⟩::ops) T H n rl n6 Q:=Ry.pure (rs:=[id]) rfl (by subst hm;simp [m6,hx,rd,hr,hv]) h2
theorem et {x:q7}{i:Nat}{vs:List b6}{v:b6}{u:List Nat}(h2:Ry A l b dr j4 ops T H (n+1) (v::rl) n6 Q)(hx:rq T n rl x= .tuple vs:=by rfl)(hv:vs[i]? =some v:=by rfl) :
  Ry A l b dr j4 (⟨.extract x i,none,none,u⟩::ops) T H n rl n6 Q:=Ry.pure (rs:=[]) rfl (by simp only [m6,hx,hv]) h2
theorem wa {op:q9}{dst:Option Nat}{j:Nat}{want:Bool}{u:List Nat}(h2:Ry A l b dr j4 (⟨op,dst,none,u⟩::ops) T H n rl n6 Q)(h:lk n rl j=some (.d (.bool want)):=by rfl) :
  Ry A l b dr j4 (⟨op,dst,some (j,want),u⟩::ops) T H n rl n6 Q:=fun hn=>Rx.wanted (by rw [fL hn];exact h) (by simp) (h2 hn)
theorem sk {op:q9}{j:Nat}{want:Bool}{u:List Nat}(h2:Ry A l b dr j4 ops T H (n+1) (.tuple []::rl) n6 Q)(h:lk n rl j=some (.d (.bool (!want))):=by rfl)(hk:∀ L,F4 ⟨T,H,L,n6⟩ op=false:=by intro;rfl)(ha:op.z8=false:=by rfl) :
  Ry A l b dr j4 (⟨op,none,some (j,want),u⟩::ops) T H n rl n6 Q:=fun hn=>Rx.Uo (by rw [fL hn];exact h) (by cases want<;>rfl) (hk _) ha (h2.to hn)
theorem st {op:q9}{j:Nat}{want:Bool}{u:List Nat}(h2:Ry A l b dr j4 ops T H (n+1) (.tuple []::rl) n6 Q)(h:lk n rl j=some (.tuple []):=by rfl)(hk:∀ L,F4 ⟨T,H,L,n6⟩ op=false:=by intro;rfl)(ha:op.z8=false:=by rfl) :
  Ry A l b dr j4 (⟨op,none,some (j,want),u⟩::ops) T H n rl n6 Q:=fun hn=>Rx.QN (by rw [fL hn];exact h) (hk _) ha (h2.to hn)
theorem fk {op:q9}{dst:Option Nat}{j:Nat}{want w:Bool}{r1 r2:List b6}{u:List Nat}(h:lk n rl j=some (.d (.bool w)):=by rfl)(hj:L3 (j+1) n=true:=by rfl)(ht:rl.set (n - (j+1)) (.d (.bool true))=r1:=by simp only [Nat.reduceAdd,Nat.reduceSub,List.set_cons_zero,List.set_cons_succ]<;>rfl)(hf:rl.set (n - (j+1)) (.d (.bool false))=r2:=by simp only [Nat.reduceAdd,Nat.reduceSub,List.set_cons_zero,List.set_cons_succ]<;>rfl)(h1:w=true->Ry A l b dr j4 (⟨op,dst,some (j,want),u⟩::ops) T H n r1 n6 Q)(h2:w=false->Ry A l b dr j4 (⟨op,dst,some (j,want),u⟩::ops) T H n r2 n6 Q) :
  Ry A l b dr j4 (⟨op,dst,some (j,want),u⟩::ops) T H n rl n6 Q:=Ry.fork h hj (fun e=>by rw [ht];exact h1 e) (fun e=>by rw [hf];exact h2 e)
theorem L7 {j:Nat}{x y:q7}{w:Bool}{r1 r2:List b6}{u:List Nat}(h:lk n rl j=some (.d (.bool w)):=by rfl)(hj:L3 (j+1) n=true:=by rfl)(ht:rl.set (n - (j+1)) (.d (.bool true))=r1:=by simp only [Nat.reduceAdd,Nat.reduceSub,List.set_cons_zero,List.set_cons_succ]<;>rfl)(hf:rl.set (n - (j+1)) (.d (.bool false))=r2:=by simp only [Nat.reduceAdd,Nat.reduceSub,List.set_cons_zero,List.set_cons_succ]<;>rfl)(h1:w=true->Ry A l b dr j4 (⟨.pick (.loc j) x y,none,none,u⟩::ops) T H n r1 n6 Q)(h2:w=false->Ry A l b dr j4 (⟨.pick (.loc j) x y,none,none,u⟩::ops) T H n r2 n6 Q) :
  Ry A l b dr j4 (⟨.pick (.loc j) x y,none,none,u⟩::ops) T H n rl n6 Q:=Ry.fork h hj (fun e=>by rw [ht];exact h1 e) (fun e=>by rw [hf];exact h2 e)
theorem pt {c x y:q7}{v:b6}{u:List Nat}(h2:Ry A l b dr j4 ops T H (n+1) (v::rl) n6 Q)(hc:rq T n rl c= .d (.bool true):=by rfl)(hx:Oq T n rl x (v):=by exact ⟨rfl,rfl⟩) :
  Ry A l b dr j4 (⟨.pick c x y,none,none,u⟩::ops) T H n rl n6 Q:=Ry.pure (rs:=[]) rfl (by simp [m6,hc,hx.rq]) h2
theorem pk {c x y:q7}{v:b6}{u:List Nat}(h2:Ry A l b dr j4 ops T H (n+1) (v::rl) n6 Q)(hc:rq T n rl c= .d (.bool false):=by rfl)(hy:Oq T n rl y (v):=by exact ⟨rfl,rfl⟩) :
  Ry A l b dr j4 (⟨.pick c x y,none,none,u⟩::ops) T H n rl n6 Q:=Ry.pure (rs:=[]) rfl (by simp [m6,hc,hy.rq]) h2
theorem bx {x:q7}{u:List Nat}{v:b6}{cs:List b6}{s id:Nat}{T2:List b6}{H2:o6}(hx:Oq T n rl x v:=by exact ⟨rfl,rfl⟩)(hc:v.cells? =some cs:=by rfl)(hs:T[s]?.isSome=true:=by rfl)
  (hi:H.length=id:=by simp only [List.length_cons,List.length_nil,Nat.reduceAdd]<;>rfl) (hT:T.set s (.ptr id 0)=T2:=by simp only [List.set_cons_zero,List.set_cons_succ]<;>rfl) (hH:H++[.cells cs]=H2:=by simp only [List.cons_append,List.nil_append]<;>rfl)
  (h2:Ry A l b false j4 ops T2 H2 (n+1) (.ptr id 0::rl) (.slot s::n6) Q):Ry A l b false j4 (⟨.box x,some s,none,u⟩::ops) T H n rl n6 Q:=fun hn=>by
 subst hi;exact Rx.ad3 (hx.op hn) hc hs (by rw [hT,hH];exact h2.to hn)
theorem ac {zero:List b6}{u:List Nat}{s id:Nat}{T2:List b6}{H2:o6}(hs:T[s]?.isSome=true:=by rfl)
  (hi:H.length=id:=by simp only [List.length_cons,List.length_nil,Nat.reduceAdd]<;>rfl) (hT:T.set s (.ptr id 0)=T2:=by simp only [List.set_cons_zero,List.set_cons_succ]<;>rfl) (hH:H++[.cells zero]=H2:=by simp only [List.cons_append,List.nil_append]<;>rfl)
  (h2:Ry A l b false j4 ops T2 H2 (n+1) (.ptr id 0::rl) (.slot s::n6) Q):Ry A l b false j4 (⟨.alloc zero,some s,none,u⟩::ops) T H n rl n6 Q:=fun hn=>by
 subst hi;have hs:s<T.length:=by
  rcases u9 s T.length with h|h
  ·exact h
  ·rw [A8 h] at hs;cases hs
 have h2:=h2.to hn;rw [<- hT,<- hH] at h2;refine Rx.stepT (N1:=0) (rs:=[]) rfl (fun n _=> ?_) h2;have h3:∀ r:List b6,(rl.reverse++ .ptr H.length 0::r)[rl.reverse.length]? =some (.ptr H.length 0):=fun r=>by simp
 simp only [y6,y4,D6,q9.E2,if_true,E6,J7,newId,Option.getD_none,put,F6,q8,F3,hs,y3.D7,h3];simp [y3.F5,b6.G4]
theorem tS {m id off:Nat}{x y:q7}{u:List Nat}{v:b6}{cs:List b6}{H2:o6}(hy:rq T n rl y= .ptr id off)(hx:Oq T n rl x v)(hc:v.cells? =some cs)(hm:cs.length=m)(hl:l.may id=true)(hb:A4 cs<=id+1)
  (hw:wr H id off cs=some H2) (h2:Ry A l b false j4 ops T H2 (n+1) (.any::rl) (.obj id::n6) Q):Ry A l b false j4 (⟨.store m y x,none,none,u⟩::ops) T H n rl n6 Q:=fun hn=>by
 refine Rx.stepT (N1:=0) (rs:=[]) rfl (fun k _=> ?_) (h2.to hn);have hl' :(M4 A k l b).lim.may id=true:=hl;simp only [y6,y4,D6,q9.E2,if_true,E6,Y9 hn,hy,Q0,(hx.op hn).D7,hc,hm,hl',hb,true_or,and_self,hw,put,F6,q8,F3]
theorem so {m id:Nat}{x y:q7}{u:List Nat}{v:b6}{cs old:List b6}{H2:o6}(hy:rq T n rl y= .ptr id 0:=by rfl)(hx:Oq T n rl x v:=by exact ⟨rfl,rfl⟩)(hc:v.cells? =some cs:=by rfl)(hm:cs.length=m:=by rfl)(hl:l.may id=true:=by rfl)(hb:A4 cs=0:=by rfl)
  (ho:H[id]? =some (.cells old):=by rfl) (hq:old.length=m:=by rfl) (hH:H.set id (.cells cs)=H2:=by simp only [List.set_cons_zero,List.set_cons_succ]<;>rfl)
  (h2:Ry A l b false j4 ops T H2 (n+1) (.any::rl) (.obj id::n6) Q):Ry A l b false j4 (⟨.store m y x,none,none,u⟩::ops) T H n rl n6 Q :=
 tS hy hx hc hm hl (by omega) (by simp [wr,ho,hm,hq,splice,<- hH];rw [k9 (by omega)];simp) h2
theorem Jb {m id off:Nat}{x y:q7}{u:List Nat}{v:b6}{cs:List b6}{H2:o6}(hd:L3 (tc j4) n=true)(hy:rq T n rl y= .ptr id off)(hx:Oq T n rl x v)(hc:v.cells? =some cs)(hm:cs.length=m)(hl:l.may id=true)(hb:A4 cs<=id+1)
  (hw:wr H id off cs=some H2) (h2:Ry A l b dr j4 ops T H2 (n+1) (.any::rl) (.obj id::n6) Q):Ry A l b dr j4 (⟨.store m y x,none,none,u⟩::ops) T H n rl n6 Q:=fun hn=>by
 refine Rx.FN (N1:=0) (rs:=[]) rfl rfl rfl (fun k _=> ?_) (fun h=> ?_) (h2.to hn)
 ·have hl' :(M4 A k l b).lim.may id=true:=hl
  simp only [y6,y4,D6,q9.E2,if_true,E6,Y9 hn,hy,Q0,(hx.op hn).D7,hc,hm,hl',hb,true_or,and_self,hw,put,F6,q8,F3]
 ·have:=o7 hd
  simp [hn] at h;omega
theorem so1 {id off:Nat}{x y:q7}{u:List Nat}{v:b6}{old new:List b6}{H2:o6}(hy:rq T n rl y= .ptr id off:=by rfl)(hx:Oq T n rl x v:=by exact ⟨rfl,rfl⟩)(hc:v.cells? =some [v]:=by rfl)(hl:l.may id=true:=by rfl)(hb:v.N4<=id+1:=by decide)
  (ho:H[id]? =some (.cells old):=by rfl) (hq:off<old.length:=by decide) (hN:old.set off v=new:=by first|(simp only [List.set_cons_zero,List.set_cons_succ];done)|rfl) (hH:H.set id (.cells new)=H2:=by simp only [List.set_cons_zero,List.set_cons_succ]<;>rfl)
  (h2:Ry A l b false j4 ops T H2 (n+1) (.any::rl) (.obj id::n6) Q):Ry A l b false j4 (⟨.store 1 y x,none,none,u⟩::ops) T H n rl n6 Q :=
 tS hy hx hc rfl hl (by simpa [A4] using hb) (by
  have h1:splice old off [v]=old.set off v:=by
   simp only [splice,List.length_singleton];rw [List.set_eq_take_append_cons_drop,if_pos hq];simp
  simp only [wr,ho,List.length_singleton,h1,hN,hH];rw [if_pos (by omega)]) h2
theorem o1 {x:q7}{z c:Data}{u:List Nat}(h2:Ry A l b dr j4 ops T H (n+1) (.own 1 1 [c]::rl) n6 Q)(hx:rq T n rl x= .d c:=by rfl) :
  Ry A l b dr j4 (⟨.p8 1 1 [.d z] [(0,1,x)] false,none,none,u⟩::ops) T H n rl n6 Q:=Ry.pure (rs:=[]) rfl (by simp [m6,bU,hx,b6.cells?,splice,N9,b6.data?,b6.one]) h2
theorem ap1 {α:Type}{enc:α->List Data}{xs:List α}{j s bytes n' :Nat}{y:q7}{u' :List Nat}{d' :Option Nat}{g' :Option (Nat×Bool)}{cs' :List Data}{T2:List b6}{a:α}{c:Data}{u:List Nat}(hj:lk n rl j=some (.d (.slice n' cs')):=by rfl)(ha:j4[j]? =some ⟨.O3 (.slot s),d',g',u'⟩:=by rfl)(ht:n6.any (Touch.R9 s)=false:=by rfl)(hT:T[s]? =some (B3 1 enc xs):=by rfl)(hy:rq T n rl y= .d (.slice 1 [c]):=by rfl)(he:enc a=[c]:=by rfl)(hr:roomFor (xs.length+1) bytes=true:=by simp only [roomFor,decide_eq_true_eq,List.length_append,List.length_cons,List.length_nil,List.length_take,List.length_drop,List.length_map] at * <;>omega)(hS:T.set s (.d (z6 enc xs))=T2:=by simp only [List.set_cons_zero,List.set_cons_succ]<;>rfl)(h2:Ry A l b dr j4 ops T2 H (n+1) (B3 1 enc (xs++[a])::rl) (.slot s::n6) Q) :
  Ry A l b dr j4 (⟨.append 1 bytes false (.loc j) y,none,none,u⟩::ops) T H n rl n6 Q:=Ry.ad1 hj ha ht hT hy rfl hr (by decide) (by
  have e1:B3 1 enc (xs++[a])= .own 1 (xs.length+1) (xs.flatMap enc++[c]):=by simp [B3,he]
  rw [e1] at h2;rw [show (b6.d (.slice xs.length (xs.flatMap enc)))= .d (z6 enc xs) from rfl,hS];exact h2)
theorem apN {α:Type}{enc:α->List Data}{xs:List α}{j s sz bytes n' :Nat}{y:q7}{u' :List Nat}{d' :Option Nat}{g' :Option (Nat×Bool)}{cs' :List Data}{T2:List b6}{ys:List α}{u:List Nat}(hj:lk n rl j=some (.d (.slice n' cs')):=by rfl)(ha:j4[j]? =some ⟨.O3 (.slot s),d',g',u'⟩:=by rfl)(ht:n6.any (Touch.R9 s)=false:=by rfl)(hT:T[s]? =some (B3 sz enc xs):=by rfl)(hy:rq T n rl y= .d (z6 enc ys):=by rfl)(hs:∀ a,(enc a).length=sz:=by intro;rfl)(h0:0<sz:=by decide)(hr:roomFor (xs.length+ys.length) bytes=true:=by simp only [roomFor,decide_eq_true_eq,List.length_append,List.length_cons,List.length_nil,List.length_take,List.length_drop,List.length_map] at * <;>omega)(hS:T.set s (.d (z6 enc xs))=T2:=by simp only [List.set_cons_zero,List.set_cons_succ]<;>rfl)(h2:Ry A l b dr j4 ops T2 H (n+1) (B3 sz enc (xs++ys)::rl) (.slot s::n6) Q) :
  Ry A l b dr j4 (⟨.append sz bytes false (.loc j) y,none,none,u⟩::ops) T H n rl n6 Q:=Ry.ad1 hj ha ht hT hy (gJ hs ys) hr h0 (by
  have e1:B3 sz enc (xs++ys)= .own sz (xs.length+ys.length) (xs.flatMap enc++ys.flatMap enc):=by simp [B3]
  rw [e1] at h2;rw [show (b6.d (.slice xs.length (xs.flatMap enc)))= .d (z6 enc xs) from rfl,hS];exact h2)
theorem al1 {α:Type}{enc:α->List Data}{xs:List α}{j bytes:Nat}{y:q7}{r2:List b6}{a:α}{c:Data}{u:List Nat}(hj:lk n rl j=some (B3 1 enc xs):=by rfl)(hb:L3 (j+1) n=true:=by rfl)(hy:rq T n rl y= .d (.slice 1 [c]):=by rfl)(he:enc a=[c]:=by rfl)(hr:roomFor (xs.length+1) bytes=true:=by simp only [roomFor,decide_eq_true_eq,List.length_append,List.length_cons,List.length_nil,List.length_take,List.length_drop,List.length_map] at * <;>omega)(hS:rl.set (n - (j+1)) (.d (z6 enc xs))=r2:=by simp only [Nat.reduceAdd,Nat.reduceSub,List.set_cons_zero,List.set_cons_succ]<;>rfl)(h2:Ry A l b dr j4 ops T H (n+1) (B3 1 enc (xs++[a])::r2) n6 Q) :
  Ry A l b dr j4 (⟨.append 1 bytes false (.loc j) y,none,none,u⟩::ops) T H n rl n6 Q:=Ry.Ww hj hb hy rfl hr (by decide) (by
  have e1:B3 1 enc (xs++[a])= .own 1 (xs.length+1) (xs.flatMap enc++[c]):=by simp [B3,he]
  rw [e1] at h2;rw [show (b6.d (.slice xs.length (xs.flatMap enc)))= .d (z6 enc xs) from rfl,hS];exact h2)
theorem alN {α:Type}{enc:α->List Data}{xs:List α}{j sz bytes:Nat}{y:q7}{r2:List b6}{ys:List α}{u:List Nat}(hj:lk n rl j=some (B3 sz enc xs):=by rfl)(hb:L3 (j+1) n=true:=by rfl)(hy:rq T n rl y= .d (z6 enc ys):=by rfl)(hs:∀ a,(enc a).length=sz:=by intro;rfl)(h0:0<sz:=by decide)(hr:roomFor (xs.length+ys.length) bytes=true:=by simp only [roomFor,decide_eq_true_eq,List.length_append,List.length_cons,List.length_nil,List.length_take,List.length_drop,List.length_map] at * <;>omega)(hS:rl.set (n - (j+1)) (.d (z6 enc xs))=r2:=by simp only [Nat.reduceAdd,Nat.reduceSub,List.set_cons_zero,List.set_cons_succ]<;>rfl)(h2:Ry A l b dr j4 ops T H (n+1) (B3 sz enc (xs++ys)::r2) n6 Q) :
  Ry A l b dr j4 (⟨.append sz bytes false (.loc j) y,none,none,u⟩::ops) T H n rl n6 Q:=Ry.Ww hj hb hy (gJ hs ys) hr h0 (by
  have e1:B3 sz enc (xs++ys)= .own sz (xs.length+ys.length) (xs.flatMap enc++ys.flatMap enc):=by simp [B3]
  rw [e1] at h2;rw [show (b6.d (.slice xs.length (xs.flatMap enc)))= .d (z6 enc xs) from rfl,hS];exact h2)
theorem e0 {u:List Nat}(h2:Ry A l b dr j4 ops T H (n+1) (.own 1 0 []::rl) n6 Q) :
  Ry A l b dr j4 (⟨.p8 1 0 [] [] false,none,none,u⟩::ops) T H n rl n6 Q:=Ry.pure (rs:=[]) rfl (by simp [m6,bU,N9]) h2
theorem cl {f:FuncId}{xs:List q7}{u:List Nat}{v:b6}{args:List b6}(hc:Pf A f args v)(h2:Ry A l b dr j4 ops T H (n+1) (v::rl) n6 Q)(ha:xs.map (rq T n rl)=args:=by rfl)(fR:A.prom f=false:=by rfl)(hm:A.mode f=1:=by rfl)
  (hb:A4 args=0:=by rfl):Ry A l b dr j4 (⟨.call f xs,none,none,u⟩::ops) T H n rl n6 Q:=fun hn =>
 Rx.call fR hm (fun m=>by rw [show y3.F5 T (rl.reverse++ .any::c9 m .any)=rq T n rl from funext fun x=>Y9 hn m x];exact ha) hb hc (h2.to hn)
theorem Cj {zero:List b6}{parts:List (Nat×Nat×q7)}{cs:List b6}{u:List Nat}(h2:Ry A l b dr j4 ops T H (n+1) (.agg cs::rl) n6 Q)(hr:bU zero (parts.map fun p=>(p.1,p.2.1,rq T n rl p.2.2))=some cs:=by rfl) :
  Ry A l b dr j4 (⟨.build zero parts,none,none,u⟩::ops) T H n rl n6 Q:=Ry.pure (rs:=[]) rfl (by simp only [m6,hr]) h2
theorem xs {s:List UInt8}{i:Nat}{x y:q7}{k:IntKind}{u:List Nat}(hx:rq T n rl x= .d (.str s):=by rfl)(hy:rq T n rl y= .d (.int k ((i:Nat):Int)):=by rfl)(hi:i<s.length:=by first|omega|(simp only [n7,Bool.and_eq_true,p5,p4,j9,beq_eq_false_iff_ne,beq_iff_eq,decide_eq_true_eq,decide_eq_false_iff_not,Bool.not_eq_true',Bool.not_eq_false'] at *;omega))(h2:Ry A l b dr j4 ops T H (n+1) (.d (.int .u8 ((nth s i).toNat:Int))::rl) n6 Q) :
  Ry A l b dr j4 (⟨.C0 x y,none,none,u⟩::ops) T H n rl n6 Q:=Ry.pure (rs:=[]) rfl (by simp [m6,hx,hy,s9 hi,K0 hi]) h2
theorem xsN {s:List UInt8}{i:Nat}{x y:q7}{k:IntKind}{u:List Nat}(hx:rq T n rl x= .d (.str s):=by rfl)(hy:rq T n rl y= .d (.int k (OfNat.ofNat i)):=by rfl)(hi:i<s.length:=by first|omega|(simp only [n7,Bool.and_eq_true,p5,p4,j9,beq_eq_false_iff_ne,beq_iff_eq,decide_eq_true_eq,decide_eq_false_iff_not,Bool.not_eq_true',Bool.not_eq_false'] at *;omega))(h2:Ry A l b dr j4 ops T H (n+1) (.d (.int .u8 ((nth s i).toNat:Int))::rl) n6 Q) :
  Ry A l b dr j4 (⟨.C0 x y,none,none,u⟩::ops) T H n rl n6 Q:=xs hx hy hi h2
theorem qs {neg t:Bool}{ks:List CK}{x y:q7}{va vb:List b6}{u:List Nat}(h2:Ry A l b dr j4 ops T H (n+1) (.d (.bool (neg != t))::rl) n6 Q)(hx:rq T n rl x= .agg va:=by rfl)(hy:rq T n rl y= .agg vb:=by rfl)(hr:V1 ks va vb=some t:=by rfl) :
  Ry A l b dr j4 (⟨.NQ neg ks x y,none,none,u⟩::ops) T H n rl n6 Q:=Ry.pure (rs:=[]) rfl (by simp only [m6,hx,hy,hr]) h2
theorem qb {neg s t:Bool}{x y:q7}{u:List Nat}(h2:Ry A l b dr j4 ops T H (n+1) (.d (.bool (neg != (s==t)))::rl) n6 Q)(hx:rq T n rl x= .d (.bool s):=by rfl)(hy:rq T n rl y= .d (.bool t):=by rfl) :
  Ry A l b dr j4 (⟨.o9 neg x y,none,none,u⟩::ops) T H n rl n6 Q:=Ry.pure (rs:=[]) rfl (by simp only [m6,hx,hy]) h2
theorem mm {isMax:Bool}{xs:List q7}{c d:Data}{r:List b6}{u:List Nat}(h2:Ry A l b dr j4 ops T H (n+1) (.d d::rl) n6 Q)(ha:xs.map (rq T n rl)= .d c::r:=by rfl)(hr:dF isMax c r=some d:=by rfl) :
  Ry A l b dr j4 (⟨.fM isMax xs,none,none,u⟩::ops) T H n rl n6 Q:=Ry.pure (rs:=[]) rfl (by simp only [m6,ha,hr]) h2
theorem ip {m sz i:Nat}{x y:q7}{k:IntKind}{cs:List Data}{u:List Nat}(h2:Ry A l b dr j4 ops T H (n+1) (.Q5 (cs.drop (i * sz))::rl) n6 Q)(hx:rq T n rl x= .Q5 cs:=by rfl)(hy:rq T n rl y= .d (.int k ((i:Nat):Int)):=by rfl)(hi:i<m:=by omega) :
  Ry A l b dr j4 (⟨.gb m sz x y,none,none,u⟩::ops) T H n rl n6 Q:=Ry.pure (rs:=[]) rfl (by
  have h1:(i:Int)<m:=by omega
  simp [m6,hx,hy,h1]) h2
theorem ipN {m sz i:Nat}{x y:q7}{k:IntKind}{cs:List Data}{u:List Nat}(h2:Ry A l b dr j4 ops T H (n+1) (.Q5 (cs.drop (i * sz))::rl) n6 Q)(hx:rq T n rl x= .Q5 cs:=by rfl)(hy:rq T n rl y= .d (.int k (OfNat.ofNat i)):=by rfl)(hi:i<m:=by omega) :
  Ry A l b dr j4 (⟨.gb m sz x y,none,none,u⟩::ops) T H n rl n6 Q:=ip h2 hx hy hi
theorem svh {α:Type} [Inhabited α] {enc:α->List Data}{xs:List α}{sz i:Nat}{x y:q7}{k:IntKind}{u:List Nat}(hx:rq T n rl x= .d (z6 enc xs):=by rfl)(hy:rq T n rl y= .d (.int k ((i:Nat):Int)):=by rfl)(hs:∀ a,(enc a).length=sz:=by intro;rfl)(hi:i<=xs.length:=by first|omega|(simp only [n7,Bool.and_eq_true,p5,p4,j9,beq_eq_false_iff_ne,beq_iff_eq,decide_eq_true_eq,decide_eq_false_iff_not,Bool.not_eq_true',Bool.not_eq_false'] at *;omega))(h2:Ry A l b dr j4 ops T H (n+1) (.d (z6 enc (xs.take i))::rl) n6 Q) :
  Ry A l b dr j4 (⟨.aN sz x none (some y),none,none,u⟩::ops) T H n rl n6 Q:=Ry.pure (rs:=[]) rfl (by
  have h1:=yu hs xs 0 i (Nat.zero_le _) hi;have h3:(xs.flatMap enc).length=xs.length * sz:=gJ hs xs;simp at h1;have hx' :=hx;simp only [z6] at hx' h1;have h4:(i:Int)<=xs.length:=by omega
  simp [m6,hx',hy,U6,z6,h3,h1,h4]) h2
theorem svl {α:Type} [Inhabited α] {enc:α->List Data}{xs:List α}{sz i:Nat}{x y:q7}{k:IntKind}{u:List Nat}(hx:rq T n rl x= .d (z6 enc xs):=by rfl)(hy:rq T n rl y= .d (.int k ((i:Nat):Int)):=by rfl)(hs:∀ a,(enc a).length=sz:=by intro;rfl)(hi:i<=xs.length:=by first|omega|(simp only [n7,Bool.and_eq_true,p5,p4,j9,beq_eq_false_iff_ne,beq_iff_eq,decide_eq_true_eq,decide_eq_false_iff_not,Bool.not_eq_true',Bool.not_eq_false'] at *;omega))(h2:Ry A l b dr j4 ops T H (n+1) (.d (z6 enc (xs.drop i))::rl) n6 Q) :
  Ry A l b dr j4 (⟨.aN sz x (some y) none,none,none,u⟩::ops) T H n rl n6 Q:=Ry.pure (rs:=[]) rfl (by
  have h3:(xs.flatMap enc).length=xs.length * sz:=gJ hs xs;have h5:((xs.flatMap enc).take (xs.length * sz)).drop (i * sz)=(xs.drop i).flatMap enc:=by rw [q5 (by omega),tj hs]
  have hx' :=hx;simp only [z6] at hx';have h4:(i:Int)<=xs.length:=by omega
  have h6:((xs.length:Int) - i).toNat=xs.length - i:=by omega
  simp [m6,hx',hy,U6,z6,h3,h5,h4,h6]) h2
theorem svb {α:Type} [Inhabited α] {enc:α->List Data}{xs:List α}{sz i j:Nat}{x y z:q7}{k k' :IntKind}{u:List Nat}(hx:rq T n rl x= .d (z6 enc xs):=by rfl)(hy:rq T n rl y= .d (.int k ((i:Nat):Int)):=by rfl)(hz:rq T n rl z=(.d (.int k' ((j:Nat):Int))):=by rfl)(hs:∀ a,(enc a).length=sz:=by intro;rfl)(hij:i<=j/\j<=xs.length:=by first|omega|(simp only [n7,Bool.and_eq_true,p5,p4,j9,beq_eq_false_iff_ne,beq_iff_eq,decide_eq_true_eq,decide_eq_false_iff_not,Bool.not_eq_true',Bool.not_eq_false'] at *;omega))(h2:Ry A l b dr j4 ops T H (n+1) (.d (z6 enc ((xs.take j).drop i))::rl) n6 Q) :
  Ry A l b dr j4 (⟨.aN sz x (some y) (some z),none,none,u⟩::ops) T H n rl n6 Q:=Ry.pure (rs:=[]) rfl (by
  have h1:=yu hs xs i j hij.1 hij.2;have h3:(xs.flatMap enc).length=xs.length * sz:=gJ hs xs;have hx' :=hx;simp only [z6] at hx' h1;have h4:(j:Int)<=xs.length:=by omega
  have h5:(i:Int)<=j:=by omega
  simp only [m6,hx',hy,hz,U6,z6,h3,h4,h5,Int.natCast_nonneg,and_self,if_true,Int.toNat_natCast,h1]) h2
end S
end
section
variable {A:Prog} {l:G9} {b:Nat}
variable {dr:Bool} {j4 ops:List n8} {T:List b6} {H:o6} {n:Nat} {rl:List b6} {n6:List Touch} {Q:List b6->o6->List b6->Prop}
namespace S
theorem bxn {x:q7}{u:List Nat}{v:b6}{cs:List b6}{id:Nat}{H2:o6}(hx:Oq T n rl x v:=by exact ⟨rfl,rfl⟩)(hc:v.cells? =some cs:=by rfl)
  (hi:H.length=id:=by simp only [List.length_cons,List.length_nil,Nat.reduceAdd]<;>rfl) (hH:H++[.cells cs]=H2:=by simp only [List.cons_append,List.nil_append]<;>rfl)
  (h2:Ry A l b false j4 ops T H2 (n+1) (.ptr id 0::rl) n6 Q):Ry A l b false j4 (⟨.box x,none,none,u⟩::ops) T H n rl n6 Q:=fun hn=>by
 subst hi;have h2:=h2.to hn;rw [<- hH] at h2;refine Rx.stepT (N1:=0) (rs:=[]) rfl (fun n _=> ?_) h2;simp only [y6,y4,D6,q9.E2,if_true,E6,(hx.op hn).F5,hc,J7,newId,Option.getD_none,put,F6,q8,F3]
theorem nk {x:q7}{u:List Nat}{id o:Nat}(h2:Ry A l b dr j4 ops T H (n+1) (.ptr id o::rl) n6 Q)(hx:rq T n rl x= .ptr id o:=by rfl):Ry A l b dr j4 (⟨.X6 x,none,none,u⟩::ops) T H n rl n6 Q :=
 Ry.pure (rs:=[]) rfl (by simp only [m6,hx]) h2
theorem nki {x:q7}{u:List Nat}{cs:List Data}(h2:Ry A l b dr j4 ops T H (n+1) (.Q5 cs::rl) n6 Q)(hx:rq T n rl x= .Q5 cs:=by rfl):Ry A l b dr j4 (⟨.X6 x,none,none,u⟩::ops) T H n rl n6 Q :=
 Ry.pure (rs:=[]) rfl (by simp only [m6,hx]) h2
theorem mu {x y:q7}{u:List Nat}{c d:Int}(h2:Ry A l b dr j4 ops T H (n+1) (.d (.int .i64 (c * d))::rl) n6 Q)(h0: -9223372036854775808<=c * d/\c * d<9223372036854775808)(hx:rq T n rl x= .d (.int .i64 c):=by rfl)(hy:rq T n rl y= .d (.int .i64 d):=by rfl) :
  Ry A l b dr j4 (⟨.bin .mul x y,none,none,u⟩::ops) T H n rl n6 Q :=
 Ry.pure (rs:=[]) rfl (by simp [m6,hx,hy,M5,X4,aS,wrap_small h0.1 h0.2]) h2
theorem ipM {m sz i:Nat}{x y:q7}{u:List Nat}{k:IntKind}{cs:List Data}(h2:Ry A l b dr j4 ops T H (n+1) (.Q5 (cs.drop (i * sz))::rl) n6 Q)(hx:rq T n rl x= .Q5 cs:=by rfl)(hy:rq T n rl y= .d (.int k (OfNat.ofNat i)):=by rfl)
  (hi:i<m:=by decide):Ry A l b dr j4 (⟨.gb m sz x y,none,none,u⟩::ops) T H n rl n6 Q:=ip h2 hx hy hi
end S
theorem Ex.fS {mask:List Bool}{body:o8}{R:E4->St->Prop}(Inv:Nat->List b6->o6->Prop)
  (hb:∀ k T' H',Inv k T' H' ->Ex A l b body ⟨T',H'⟩ (xq R fun s=>∃ k',k' <k/\∃ T2 H2,clean mask l.strict H.length s=⟨T2,H2⟩/\Inv k' T2 H2)) {k:Nat} (h:Inv k (V0 mask T) H):Ex A l b (.loop mask body) ⟨T,H⟩ R:=by
 refine Ex.loop (fun k s=>∃ T2 H2,clean mask l.strict H.length s=⟨T2,H2⟩/\Inv k T2 H2) (fun k s ⟨T2,H2,e,hs⟩=> ?_) (k:=k) ⟨V0 mask T,H,Ay rfl,h⟩;rw [e];exact hb k T2 H2 hs
end
section
variable {A:Prog} {l:G9} {b:Nat}
variable {dr:Bool} {j4 ops:List n8} {T:List b6} {H:o6} {n:Nat} {rl:List b6} {n6:List Touch} {Q:List b6->o6->List b6->Prop}
theorem Ex.H7 {c:q7}{d e:o8}{t:Bool}{Q:E4->St->Prop}(h2:Ex A l b d ⟨T,H⟩ Q)(h1:F5 T [] c= .d (.bool t):=by rfl)(ht:t=true:=by assumption):Ex A l b (.cond c d e) ⟨T,H⟩ Q :=
 Ex.cond h1 (fun _=>h2) (fun h=>by rw [ht] at h;cases h)
namespace S
theorem lq3 {x:q7}{u:List Nat}{id o:Nat}{v1 v2 v3:Data}(h2:Ry A l b dr j4 ops T H (n+1) (.agg [.d v1,.d v2,.d v3]::rl) n6 Q)(hx:rq T n rl x= .ptr id o:=by rfl)(hr:rd H id o 3=some [.d v1,.d v2,.d v3]:=by rfl) :
  Ry A l b dr j4 (⟨.load (some 3) x,none,none,u⟩::ops) T H n rl n6 Q :=
 Ry.pure (rs:=[id]) rfl (by simp only [m6,hx,hr,List.map_cons,List.map_nil,b6.G4]) h2
theorem o1z {x:q7}{u:List Nat}{z:b6}{c:Data}(h2:Ry A l b dr j4 ops T H (n+1) (.own 1 1 [c]::rl) n6 Q)(hx:rq T n rl x= .d c:=by rfl):Ry A l b dr j4 (⟨.p8 1 1 [z] [(0,1,x)] false,none,none,u⟩::ops) T H n rl n6 Q :=
 Ry.pure (rs:=[]) rfl (by simp [m6,bU,hx,b6.cells?,splice,N9,b6.data?,b6.one]) h2
theorem clT {f:FuncId}{xs:List q7}{u:List Nat}{v:b6}{args:List b6}{s:Nat}{T2:List b6}(hc:Pf A f args v)(ha:xs.map (rq T n rl)=args:=by rfl)(fR:A.prom f=false:=by rfl)(hm:A.mode f=1:=by rfl)
  (hb:A4 args=0:=by rfl) (hv:v.G4=v:=by rfl) (hs:T[s]?.isSome=true:=by rfl) (hT:T.set s v=T2:=by simp only [List.set_cons_zero,List.set_cons_succ]<;>rfl)
  (h2:Ry A l b dr j4 ops T2 H (n+1) (v::rl) (.slot s::n6) Q):Ry A l b dr j4 (⟨.call f xs,some s,none,u⟩::ops) T H n rl n6 Q:=fun hn=>by
 obtain ⟨M,hc⟩:=hc;have hs:s<T.length:=by
  rcases u9 s T.length with h|h
  ·exact h
  ·rw [A8 h] at hs;cases hs
 have h2:=h2.to hn;rw [<- hT] at h2;refine Rx.step (N1:=M) (rs:=[]) rfl rfl (fun k hk=> ?_) (gD s n6) h2;have h3:C7 (M4 A k l b) rl.reverse.length f args ⟨T,H,rl.reverse++ .any::c9 ops.length .any,n6⟩=some (put ⟨T,H,rl.reverse++ .any::c9 ops.length .any,n6⟩ rl.reverse.length v) :=
  jc fR hm hb (hc k hk)
 have Zl :xs.map (y3.F5 T (rl.reverse++ .any::c9 ops.length .any))=args:=by
  rw [show y3.F5 T (rl.reverse++ .any::c9 ops.length .any)=rq T n rl from funext fun x=>Y9 hn _ x];exact ha
 have h5:y3.D7 ⟨T,H,rl.reverse++v::c9 ops.length .any,n6⟩ (.loc rl.reverse.length)=(v,⟨T,H,rl.reverse++v::c9 ops.length .any,n6⟩):=by
  simp only [y3.D7,s7 (n5 _),Nat.sub_self,List.getElem?_cons_zero];split
  ·rename_i heq
   cases heq;simp [b6.G4] at hv
  ·simp [y3.F5,hv]
 simp only [y6,y4,D6,q9.E2,if_true,E6,Zl,h3,q8,F3,put,F6,hs,h5]
end S
end
section
variable {A:Prog} {l:G9} {b:Nat}
variable {dr:Bool} {j4 ops:List n8} {T:List b6} {H:o6} {n:Nat} {rl:List b6} {n6:List Touch} {Q:List b6->o6->List b6->Prop}
namespace S
theorem df {f:FuncId}{a c:List b6}{u:List Nat}(h2:Ry A l b dr j4 ops T H (n+1) (.any::rl) n6 Q)(hi:A.idle f=true:=by rfl):Ry A l b dr j4 (⟨.defer (.const (.func f a c)),none,none,u⟩::ops) T H n rl n6 Q:=fun hn=>by
 refine Rx.step (N1:=0) (rs:=[]) rfl rfl (fun k _=> ?_) (fun rs=>by simp [J6]) (h2.to hn);have hi' :(M4 A k l b).idle f=true:=hi;simp only [y6,y4,D6,q9.E2,if_true,E6,y3.F5,b6.NP,b6.G4,hi',put,F6,q8,F3]
theorem dfl {f:FuncId}{x:q7}{a c:List b6}{u:List Nat}(h2:Ry A l b dr j4 ops T H (n+1) (.any::rl) n6 Q)(hx:rq T n rl x= .func f a c:=by rfl)(hi:A.idle f=true:=by rfl):Ry A l b dr j4 (⟨.defer x,none,none,u⟩::ops) T H n rl n6 Q:=fun hn=>by
 refine Rx.step (N1:=0) (rs:=[]) rfl rfl (fun k _=> ?_) (fun rs=>by simp [J6]) (h2.to hn);have hi' :(M4 A k l b).idle f=true:=hi;simp only [y6,y4,D6,q9.E2,if_true,E6,Y9 hn,hx,hi',put,F6,q8,F3]
theorem ipp {m sz o id o2:Nat}{x y:q7}{u:List Nat}{k:IntKind}{e:Int}(i:Nat)(he:e=i)(ho:o+i * sz=o2)(hi:i<m)(h2:Ry A l b dr j4 ops T H (n+1) (.ptr id o2::rl) n6 Q)(hx:rq T n rl x= .ptr id o:=by rfl)(hy:rq T n rl y= .d (.int k e):=by rfl) :
  Ry A l b dr j4 (⟨.gb m sz x y,none,none,u⟩::ops) T H n rl n6 Q:=by
 subst he;subst ho;refine Ry.pure (rs:=[]) rfl ?_ h2;have h1:(i:Int)<m:=by omega
 simp [m6,hx,hy,h1]
theorem mf {f:FuncId}{a c:List q7}{u:List Nat}{va vc:List b6}(h2:Ry A l b dr j4 ops T H (n+1) (.func f va vc::rl) n6 Q)(ha:a.map (rq T n rl)=va:=by rfl)(hc:c.map (rq T n rl)=vc:=by rfl):Ry A l b dr j4 (⟨.Y8 f a c,none,none,u⟩::ops) T H n rl n6 Q :=
 Ry.pure (rs:=[]) rfl (by simp only [m6,ha,hc]) h2
end S
end
section
variable {A:Prog} {l:G9} {b:Nat}
variable {dr:Bool} {j4 ops:List n8} {T:List b6} {H:o6} {n:Nat} {rl:List b6} {n6:List Touch} {Q:List b6->o6->List b6->Prop}
namespace S
theorem aL4 {m sz i o id:Nat}{x y:q7}{u:List Nat}{k:IntKind}(h2:Ry A l b dr j4 ops T H (n+1) (.ptr id (o+i * sz)::rl) n6 Q)(hx:rq T n rl x= .ptr id o:=by rfl)(hy:rq T n rl y= .d (.int k (OfNat.ofNat i)):=by rfl)(hi:i<m:=by decide) :
  Ry A l b dr j4 (⟨.gb m sz x y,none,none,u⟩::ops) T H n rl n6 Q:=ipp i rfl rfl hi h2 hx hy
end S
end
section
variable {A:Prog} {l:G9} {b:Nat}
variable {dr:Bool} {j4 ops:List n8} {T:List b6} {H:o6} {n:Nat} {rl:List b6} {n6:List Touch} {Q:List b6->o6->List b6->Prop}
namespace S
theorem sp1 {id off:Nat}{x y:q7}{u:List Nat}{v:b6}{old new:List b6}{H2:o6}(hy:rq T n rl y= .ptr id off:=by rfl)(hx:Oq T n rl x v:=by exact ⟨rfl,rfl⟩)(hc:v.cells? =some [v]:=by rfl)(hl:l.may id=true:=by rfl)(hb:v.N4<=id+1:=by exact Nat.zero_le _)
  (ho:H[id]? =some (.cells old):=by rfl) (hq:off<old.length:=by simp) (hN:old.set off v=new:=by first|(simp only [List.set_cons_zero,List.set_cons_succ];done)|rfl) (hH:H.set id (.cells new)=H2:=by simp only [List.set_cons_zero,List.set_cons_succ]<;>rfl)
  (h2:Ry A l b false j4 ops T H2 (n+1) (.any::rl) (.obj id::n6) Q):Ry A l b false j4 (⟨.store 1 y x,none,none,u⟩::ops) T H n rl n6 Q:=so1 hy hx hc hl hb ho hq hN hH h2
end S
end
section
variable {A:Prog} {l:G9} {b:Nat}
variable {dr:Bool} {j4 ops:List n8} {T:List b6} {H:o6} {n:Nat} {rl:List b6} {n6:List Touch} {Q:List b6->o6->List b6->Prop}
namespace S
theorem alE {α:Type}{enc:α->List Data}{ys:List α}{j sz bytes:Nat}{y:q7}{u:List Nat}{r2:List b6}(hj:lk n rl j=some (.own sz 0 []):=by rfl)(hb:L3 (j+1) n=true:=by rfl)(hy:rq T n rl y= .d (z6 enc ys):=by rfl)
  (hs:∀ a,(enc a).length=sz:=by intro;rfl) (h0:0<sz:=by decide) (hr:roomFor (0+ys.length) bytes=true:=by simp only [roomFor,decide_eq_true_eq,List.length_append,List.length_cons,List.length_nil,List.length_take,List.length_drop,List.length_map] at * <;>omega)
  (hS:rl.set (n - (j+1)) (.d (.slice 0 []))=r2:=by simp only [Nat.reduceAdd,Nat.reduceSub,List.set_cons_zero,List.set_cons_succ]<;>rfl) (h2:Ry A l b dr j4 ops T H (n+1) (B3 sz enc ys::r2) n6 Q) :
  Ry A l b dr j4 (⟨.append sz bytes false (.loc j) y,none,none,u⟩::ops) T H n rl n6 Q :=
 Ry.Ww hj hb hy (gJ hs ys) hr h0 (by
  have e1:B3 sz enc ys= .own sz (0+ys.length) ([]++ys.flatMap enc):=by simp [B3]
  rw [e1] at h2;rw [hS];exact h2)
end S
end
section
variable {A:Prog} {l:G9} {b:Nat}
theorem Ex.YX {c:o8}{st:St}{R:E4->St->Prop}{go:St->Prop}(P:St->Prop)(h1:Ex A l b c st (xq (fun _ _=>False) P))(h2:∀ s,P s->go s):Ex A l b c st (xq R go):=by
 refine h1.mono fun x s h=> ?_
 cases x with
 |normal=>exact h2 s h
 |exit i=>exact h.elim
 |ret=>exact h.elim
end
section
variable {A:Prog} {l:G9} {b:Nat}
variable {dr:Bool} {j4 ops:List n8} {T:List b6} {H:o6} {n:Nat} {rl:List b6} {n6:List Touch} {Q:List b6->o6->List b6->Prop}
namespace S
theorem mvS {s:Nat}{u:List Nat}{w v:b6}(hv:w.G4=v)(h2:Ry A l b dr j4 ops T H (n+1) (v::rl) n6 Q)(hx:T[s]? =some w:=by rfl):Ry A l b dr j4 (⟨.O3 (.slot s),none,none,u⟩::ops) T H n rl n6 Q:=fun hn=>by
 refine Rx.step (N1:=0) (rs:=[]) rfl rfl (fun k _=> ?_) (fun rs=>by simp [J6]) (h2.to hn);have h1:y3.F5 T (rl.reverse++ .any::c9 ops.length .any) (.slot s)=v:=by simp [y3.F5,hx,hv]
 simp only [y6,y4,D6,q9.E2,b7,if_false,y3.D7,h1,put,F6,q8,F3]
end S
end
def Pm (A:Prog)(f:FuncId)(args:List b6)(H:o6)(l:G9)(v:b6)(H1:o6):Prop:=∃ N,∀ n,N<=n->call A n f args H l=some (v,H1)
def Pq (A:Prog)(f:FuncId)(args:List b6)(H:o6)(l:G9)(Post:b6->o6->Prop):Prop:=∃ v H1,Post v H1/\Pm A f args H l v H1
section
variable {A:Prog} {l:G9} {b:Nat}
theorem Pq.run {f:FuncId}{af:p7}{args:List b6}{H:o6}{Post:b6->o6->Prop}(T:List b6)(hp:A.gS f=none)(hf:A.fn f=some af)(hn:args.length=af.nparams)(hb:H.length=b)
  (hT:args++c9 (af.names.length - args.length) .any=T) (h:Ex A l b af.body ⟨T,H⟩ fun x s=>∃ w H1,kF af b (some (x,s))=some (w,H1)/\Post w H1):Pq A f args H l Post:=by
 subst hT;subst hb;obtain ⟨x,s,N,⟨w,H1,hq,hP⟩,h⟩:=h;refine ⟨w,H1,hP,N+1,fun n hn' => ?_⟩;obtain ⟨n,rfl⟩:∃ j,n=j+1:=⟨n - 1,by omega⟩;rw [Jx hp hf,qz hn];have:=h n (by omega);simp only [M4] at this;rw [this,hq]
theorem gu {H:o6}{s k n:Nat}(h:Y6 ((H.take n).drop s)<=n):I4 H s (k+1) n=n:=by
 simp only [I4];split
 ·rfl
 ·rw [if_pos (by omega)]
theorem wM {E:Env}{k m:Nat}{f:FuncId}{args:List b6}{st:E5}{v:b6}{H1:o6}{l2:G9}(fR:E.prom f=false)(hm:E.mode f=0)(hc:I4 st.H E.lim.strict 8 (A4 args)=m)(hle:m<=st.H.length)(DL:Y6 ((st.H.take m).drop E.lim.strict)<=m)
  (nY:(⟨E.lim.UU,E.lim.UT,m,C8 st.H E.lim.strict m⟩:G9)=l2) (h:E.cf f args (st.H.take m) l2=some (v,H1)) (hH:H1.length=m) :
  C7 E k f args st=some (put { st with H:=H1++st.H.drop m,n6:= .below m::st.n6 } k v):=by
 subst nY;simp only [C7,fR,hm,hc,hle,DL,and_self,if_true,b7,if_false,h,hH]
theorem qA {E:Env}{k m:Nat}{f:FuncId}{args:List b6}{st:E5}{v:b6}{H1:o6}{l2:G9}(fR:E.prom f=false)(hm:E.mode f=1)(hc:I4 st.H E.lim.strict 8 (A4 args)=m)(hle:m<=st.H.length)(DL:Y6 ((st.H.take m).drop E.lim.strict)<=m)
  (nY:(⟨0,m,m,C8 st.H E.lim.strict m⟩:G9)=l2) (h:E.cf f args (st.H.take m) l2=some (v,H1)) (hH:H1.length=m) :
  C7 E k f args st=some (put st k v):=by
 subst nY;simp only [C7,fR,hm,hc,hle,DL,and_self,if_true,b7,if_false,h,hH]
variable {dr:Bool} {j4 ops:List n8} {T:List b6} {H:o6} {n:Nat} {rl:List b6} {n6:List Touch} {Q:List b6->o6->List b6->Prop}
theorem mV (hn:rl.length=n)(xs:List q7):xs.map (y3.F5 T (rl.reverse++ .any::c9 ops.length .any))=xs.map (rq T n rl):=by
 rw [show y3.F5 T (rl.reverse++ .any::c9 ops.length .any)=rq T n rl from funext fun x=>Y9 hn _ x]
namespace S
theorem c0 {f:FuncId}{xs:List q7}{u:List Nat}{v:b6}{args:List b6}{m:Nat}{H0 HD H1 H2:o6}{l2:G9}(hc:Pm A f args H0 l2 v H1)(Td:H1.length=m)(DL:Y6 ((H.take m).drop l.strict)<=m:=by exact Nat.zero_le _)(hcl:I4 H l.strict 8 (A4 args)=m:=by rfl)
  (OP:H.take m=H0:=by rfl) (hle:L3 m H.length=true:=by rfl) (nY:(⟨l.UU,l.UT,m,C8 H l.strict m⟩:G9)=l2:=by rfl) (hd:dr=true->L3 (tc j4) n=true:=by intro;rfl)
  (ha:xs.map (rq T n rl)=args:=by rfl) (fR:A.prom f=false:=by rfl) (hm:A.mode f=0:=by rfl) (hD:H.drop m=HD:=by rfl) (hA:H1++HD=H2:=by first|(simp only [List.cons_append,List.nil_append]<;>rfl)|rfl)
  (h2:Ry A l b dr j4 ops T H2 (n+1) (v::rl) (.below m::n6) Q):Ry A l b dr j4 (⟨.call f xs,none,none,u⟩::ops) T H n rl n6 Q:=fun hn=>by
 obtain ⟨M,hc⟩:=hc;subst OP hD hA;have h2:=h2.to hn;have e1:∀ k,M<=k->y6 (M4 A k l b) j4 none rl.reverse.length ⟨.call f xs,none,none,u⟩ ⟨T,H,rl.reverse++ .any::c9 ops.length .any,n6⟩=some (⟨T,H1++H.drop m,rl.reverse++v::c9 ops.length .any,.below m::n6⟩,[]):=fun k hk=>by
  have h3:C7 (M4 A k l b) rl.reverse.length f args ⟨T,H,rl.reverse++ .any::c9 ops.length .any,n6⟩=some (put ⟨T,H1++H.drop m,rl.reverse++ .any::c9 ops.length .any,.below m::n6⟩ rl.reverse.length v) :=
   wM fR hm hcl (o7 hle) DL nY (hc k hk) Td
  simp only [y6,y4,D6,q9.E2,if_true,E6,mV hn,ha,h3,q8,F3,put,F6]
 cases dr with
 |false=>exact Rx.stepT (N1:=M) (rs:=[]) rfl e1 h2
 |true =>
  refine Rx.FN (N1:=M) (rs:=[]) rfl rfl rfl e1 (fun h=> ?_) h2;have:=o7 (hd rfl);simp [hn] at h;omega
theorem c1 {f:FuncId}{xs:List q7}{u:List Nat}{v:b6}{args:List b6}{m:Nat}{H0 H1:o6}{l2:G9}(hc:Pm A f args H0 l2 v H1)(Td:H1.length=m)(h2:Ry A l b dr j4 ops T H (n+1) (v::rl) n6 Q)(DL:Y6 ((H.take m).drop l.strict)<=m:=by exact Nat.zero_le _)(hcl:I4 H l.strict 8 (A4 args)=m:=by rfl)
  (OP:H.take m=H0:=by rfl) (hle:L3 m H.length=true:=by rfl) (nY:(⟨0,m,m,C8 H l.strict m⟩:G9)=l2:=by rfl)
  (ha:xs.map (rq T n rl)=args:=by rfl) (fR:A.prom f=false:=by rfl) (hm:A.mode f=1:=by rfl):Ry A l b dr j4 (⟨.call f xs,none,none,u⟩::ops) T H n rl n6 Q:=fun hn=>by
 obtain ⟨M,hc⟩:=hc;subst OP;refine Rx.step (N1:=M) (rs:=[]) rfl rfl (fun k hk=> ?_) (fun rs=>by simp [J6]) (h2.to hn);have h3:C7 (M4 A k l b) rl.reverse.length f args ⟨T,H,rl.reverse++ .any::c9 ops.length .any,n6⟩=some (put ⟨T,H,rl.reverse++ .any::c9 ops.length .any,n6⟩ rl.reverse.length v) :=
  qA fR hm hcl (o7 hle) DL nY (hc k hk) Td
 simp only [y6,y4,D6,q9.E2,if_true,E6,mV hn,ha,h3,q8,F3,put,F6]
theorem cv {f:FuncId}{x:q7}{xs:List q7}{u:List Nat}{v:b6}{first caps args:List b6}(hc:Pf A f args v)(h2:Ry A l b dr j4 ops T H (n+1) (v::rl) n6 Q)(hx:rq T n rl x= .func f first caps:=by rfl)(ha:first++xs.map (rq T n rl)++caps=args:=by rfl)(fR:A.prom f=false:=by rfl)(hm:A.mode f=1:=by rfl)
  (hb:A4 args=0:=by rfl):Ry A l b dr j4 (⟨.aO x xs,none,none,u⟩::ops) T H n rl n6 Q:=fun hn=>by
 obtain ⟨M,hc⟩:=hc;refine Rx.step (N1:=M) (rs:=[]) rfl rfl (fun k hk=> ?_) (fun rs=>by simp [J6]) (h2.to hn);have h3:C7 (M4 A k l b) rl.reverse.length f args ⟨T,H,rl.reverse++ .any::c9 ops.length .any,n6⟩=some (put ⟨T,H,rl.reverse++ .any::c9 ops.length .any,n6⟩ rl.reverse.length v) :=
  jc fR hm hb (hc k hk)
 simp only [y6,y4,D6,q9.E2,if_true,E6,Y9 hn,hx,mV hn,ha,h3,q8,F3,put,F6]
theorem lk1 {kk:KK}{zero:b6}{x y:q7}{u:List Nat}{id:Nat}{key:Key}{es:List (Key×b6)}{r:Option b6}{v:b6}(hr:bA kk key es=some r)(hv:r.getD zero=v)(h2:Ry A l b dr j4 ops T H (n+1) (v::rl) n6 Q)
  (hx:rq T n rl x= .map id:=by rfl) (hy:(rq T n rl y).Im =some key:=by rfl) (ho:H[id]? =some (.map es):=by rfl) (hf:kk.fits key=true:=by rfl):Ry A l b dr j4 (⟨.lookup kk zero false x y,none,none,u⟩::ops) T H n rl n6 Q :=
 Ry.pure (rs:=[id]) rfl (by subst hv;simp [m6,hx,hy,ho,hr,hf]) h2
theorem lk2 {kk:KK}{zero:b6}{x y:q7}{u:List Nat}{id:Nat}{key:Key}{es:List (Key×b6)}{r:Option b6}{v:b6}{t:Bool}(hr:bA kk key es=some r)(hv:r.getD zero=v)(ht:r.isSome=t)(h2:Ry A l b dr j4 ops T H (n+1) (.tuple [v,.d (.bool t)]::rl) n6 Q)
  (hx:rq T n rl x= .map id:=by rfl) (hy:(rq T n rl y).Im =some key:=by rfl) (ho:H[id]? =some (.map es):=by rfl) (hf:kk.fits key=true:=by rfl):Ry A l b dr j4 (⟨.lookup kk zero true x y,none,none,u⟩::ops) T H n rl n6 Q :=
 Ry.pure (rs:=[id]) rfl (by subst hv ht;simp [m6,hx,hy,ho,hr,hf]) h2
theorem mp {kk:KK}{x y z:q7}{u:List Nat}{id:Nat}{key:Key}{es es' :List (Key×b6)}{v:b6}{H2:o6}(hr:cC kk key v es=some es')(hk:Data.aW kk key key=some true)(hx:rq T n rl x= .map id:=by rfl)(hy:(rq T n rl y).Im =some key:=by rfl)(hz:rq T n rl z=v:=by rfl)(hbv:v.N4<=id+1:=by exact Nat.zero_le _)(hl:l.may id=true:=by rfl)
  (ho:H[id]? =some (.map es):=by rfl) (hd:dr=true->L3 (tc j4) n=true:=by intro;rfl) (hH:H.set id (.map es')=H2:=by simp only [List.set_cons_zero,List.set_cons_succ]<;>rfl)
  (h2:Ry A l b dr j4 ops T H2 (n+1) (.any::rl) (.obj id::n6) Q):Ry A l b dr j4 (⟨.dD kk x y z,none,none,u⟩::ops) T H n rl n6 Q:=fun hn=>by
 subst hH;have e1:∀ k,0<=k->y6 (M4 A k l b) j4 none rl.reverse.length ⟨.dD kk x y z,none,none,u⟩ ⟨T,H,rl.reverse++ .any::c9 ops.length .any,n6⟩=some (⟨T,H.set id (.map es'),rl.reverse++ .any::c9 ops.length .any,.obj id::n6⟩,[]):=fun k _=>by
  have hl' :(M4 A k l b).lim.may id=true:=hl;simp only [y6,y4,D6,q9.E2,if_true,E6,Y9 hn,hx,hy,hz,T5,ho,hbv,hl',and_self,hk,hr,put,F6,q8,F3]
 cases dr with
 |false=>exact Rx.stepT (N1:=0) (rs:=[]) rfl e1 (h2.to hn)
 |true =>
  refine Rx.FN (N1:=0) (rs:=[]) rfl rfl rfl e1 (fun h=> ?_) (h2.to hn);have:=o7 (hd rfl);simp [hn] at h;omega
end S
end
def dmap (ds:List (List UInt8)):List (Key×b6):=ds.map fun s=>(.str s,.d (.bool true))
def T3:List (List UInt8)->Nat->List (Key×b6)
 |[],_=>[]
 |s::l,i=>(.str s,.d (.int .i64 (i:Int)))::T3 l (i+1)
theorem th (s:List UInt8):∀ ds,bA .s (.str s) (dmap ds)=some (if ds.any fun y=>J2 y s then some (.d (.bool true)) else none)
 |[]=>by simp [dmap,bA]
 |d::ds=>by
  have h1:=th s ds;simp only [dmap,List.map_cons,bA,Data.aW,List.any_cons];have h2:(s==d)=J2 d s:=by
   rw [B8,Bool.eq_iff_iff];simp only [beq_iff_eq];exact eq_comm
  rw [h2]
  by_cases hb:J2 d s=true
  ·simp [hb]
  ·have hb' :J2 d s=false:=by simpa using hb
   simp only [hb',Bool.false_or];simpa [dmap] using h1
theorem xb (s:List UInt8):∀ ds,(ds.any fun y=>J2 y s)=false->cC .s (.str s) (.d (.bool true)) (dmap ds)=some (dmap (ds++[s]))
 |[],_=>by simp [dmap,cC]
 |d::ds,h=>by
  simp only [List.any_cons,Bool.or_eq_false_iff] at h;have h1:=xb s ds h.2;have h2:(s==d)=false:=by
   have:=VU h.1;simp;exact fun h=>this h.symm
  simp only [dmap,List.map_cons,cC,Data.aW,h2,List.cons_append] at h1 ⊢;rw [h1]
theorem xM (s:List UInt8):∀ (l:List (List UInt8)) (i:Nat),(l.any fun y=>J2 y s)=false->cC .s (.str s) (.d (.int .i64 ((i+l.length:Nat):Int))) (T3 l i)=some (T3 (l++[s]) i)
 |[],i,_=>by simp [T3,cC]
 |d::l,i,h=>by
  simp only [List.any_cons,Bool.or_eq_false_iff] at h;have h1:=xM s l (i+1) h.2;have h2:(s==d)=false:=by
   have:=VU h.1;simp;exact fun h=>this h.symm
  have h3:i+1+l.length=i+(d::l).length:=by simp;omega
  rw [h3] at h1;simp only [T3,cC,Data.aW,h2,List.cons_append,h1]
theorem dG:∀ (l:List (List UInt8)) (i:Nat),A4 ((T3 l i).map (·.2))=0
 |[],_=>rfl
 |_::l,i=>by simp [T3,A4,b6.N4,dG l (i+1)]
theorem dm:∀ l:List (List UInt8),A4 ((dmap l).map (·.2))=0
 |[]=>rfl
 |_::l=>by
  have:=dm l;simp only [dmap,List.map_cons,A4,b6.N4,Nat.zero_max] at this ⊢;exact this
section
variable {A:Prog} {l:G9} {b:Nat}
variable {dr:Bool} {j4 ops:List n8} {T:List b6} {H:o6} {n:Nat} {rl:List b6} {n6:List Touch} {Q:List b6->o6->List b6->Prop}
theorem Aw (id off:Nat)(n6:List Touch)(rs:List Nat):J6 ((Touch.cell id off::n6).take ((Touch.cell id off::n6).length - n6.length)) rs=false:=by
 have:(n6.length+1) - n6.length=1:=by omega
 simp [J6,this,Touch.K4]
theorem Ry.ad0 {j k sz bytes id off:Nat}{y:q7}{u u' :List Nat}{d' :Option Nat}{g' :Option (Nat×Bool)}{n' len m:Nat}{cs' cells new:List Data}{old:List b6}
  (hj:lk n rl j=some (.d (.slice n' cs'))) (ha:j4[j]? =some ⟨.load none (.loc k),d',g',u'⟩) (hk:lk n rl k=some (.ptr id off)) (ht:n6.any (Touch.aP id off)=false) (hl:l.may id=true) (ho:H[id]? =some (.cells old)) (hc:old[off]? =some (.own sz len cells))
  (hy:rq T n rl y= .d (.slice m new)) (hn' :new.length=m * sz) (hr:roomFor (len+m) bytes=true) (h0:0<sz)
  (h2:Ry A l b dr j4 ops T (H.set id (.cells (old.set off (.d (.slice len cells))))) (n+1) (.own sz (len+m) (cells++new)::rl) (.cell id off::n6) Q):Ry A l b dr j4 (⟨.append sz bytes false (.loc j) y,none,none,u⟩::ops) T H n rl n6 Q:=fun hn=>by
 have hjl:rl.reverse[j]? =some (.d (.slice n' cs')):=by rw [fL hn];exact hj
 have aV:rl.reverse[k]? =some (.ptr id off):=by rw [fL hn];exact hk
 have hL:∀ r:List b6,(rl.reverse++ .any::r)[j]? =some (.d (.slice n' cs')):=fun r=>pY hjl _
 have hK:∀ r:List b6,(rl.reverse++ .any::r)[k]? =some (.ptr id off):=fun r=>pY aV _
 have xz:y3.F5 T (rl.reverse++ .any::c9 ops.length .any) (.loc j)= .d (.slice n' cs'):=by simp [y3.F5,hL,b6.G4]
 refine Rx.step (N1:=0) (rs:=[]) (by simp only [F4,xz]) rfl (fun q _=> ?_) (Aw id off n6) (h2.to hn);have hl' :(M4 A q l b).lim.may id=true:=hl;have hs:J5 H sz (.d (.slice m new))=some (m,new.map .d):=by simp only [J5,hn',if_true]
 simp only [y6,y4,D6,q9.E2,if_true,E6,xz,L0,Y9 hn,hy,hs,gA,b7,if_false,Q1,hL,ha,V2,Z8,hK,ht,hl',Bool.not_true,Bool.or_self,ho,hc,hr,h0,and_self,put,F6,q8,F3]
namespace S
theorem o2 {x:q7}{u:List Nat}{z1 z2:b6}{c d:Data}(h2:Ry A l b dr j4 ops T H (n+1) (.own 2 1 [c,d]::rl) n6 Q)(hx:rq T n rl x= .agg [.d c,.d d]:=by rfl):Ry A l b dr j4 (⟨.p8 2 1 [z1,z2] [(0,2,x)] false,none,none,u⟩::ops) T H n rl n6 Q :=
 Ry.pure (rs:=[]) rfl (by simp [m6,bU,hx,b6.cells?,splice,N9,b6.data?,b6.one]) h2
theorem ac2 {α:Type}{enc:α->List Data}{xs:List α}{a:α}{j k bytes id off:Nat}{y:q7}{u u' :List Nat}{d' :Option Nat}{g' :Option (Nat×Bool)}{n' :Nat}{cs' :List Data}{c d:Data}{old new:List b6}{H2:o6}
  (hr:roomFor (xs.length+1) bytes=true) (he:enc a=[c,d]) (hj:lk n rl j=some (.d (.slice n' cs')):=by rfl) (ha:j4[j]? =some ⟨.load none (.loc k),d',g',u'⟩:=by rfl) (hk:lk n rl k=some (.ptr id off):=by rfl) (ht:n6.any (Touch.aP id off)=false:=by rfl) (hl:l.may id=true:=by rfl) (ho:H[id]? =some (.cells old):=by rfl) (hc:old[off]? =some (B3 2 enc xs):=by rfl)
  (hy:rq T n rl y= .d (.slice 1 [c,d]):=by rfl) (hN:old.set off (.d (z6 enc xs))=new:=by rfl) (hH:H.set id (.cells new)=H2:=by simp only [List.set_cons_zero,List.set_cons_succ]<;>rfl)
  (h2:Ry A l b dr j4 ops T H2 (n+1) (B3 2 enc (xs++[a])::rl) (.cell id off::n6) Q):Ry A l b dr j4 (⟨.append 2 bytes false (.loc j) y,none,none,u⟩::ops) T H n rl n6 Q :=
 Ry.ad0 hj ha hk ht hl ho hc hy rfl hr (by decide) (by
  have e1:B3 2 enc (xs++[a])= .own 2 (xs.length+1) (xs.flatMap enc++[c,d]):=by simp [B3,he]
  rw [e1] at h2;subst hH hN;exact h2)
theorem ac1 {α:Type}{enc:α->List Data}{xs:List α}{a:α}{j k bytes id off:Nat}{y:q7}{u u' :List Nat}{d' :Option Nat}{g' :Option (Nat×Bool)}{n' :Nat}{cs' :List Data}{c:Data}{old new:List b6}{H2:o6}
  (hr:roomFor (xs.length+1) bytes=true) (he:enc a=[c]) (hj:lk n rl j=some (.d (.slice n' cs')):=by rfl) (ha:j4[j]? =some ⟨.load none (.loc k),d',g',u'⟩:=by rfl) (hk:lk n rl k=some (.ptr id off):=by rfl) (ht:n6.any (Touch.aP id off)=false:=by rfl) (hl:l.may id=true:=by rfl) (ho:H[id]? =some (.cells old):=by rfl) (hc:old[off]? =some (B3 1 enc xs):=by rfl)
  (hy:rq T n rl y= .d (.slice 1 [c]):=by rfl) (hN:old.set off (.d (z6 enc xs))=new:=by rfl) (hH:H.set id (.cells new)=H2:=by simp only [List.set_cons_zero,List.set_cons_succ]<;>rfl)
  (h2:Ry A l b dr j4 ops T H2 (n+1) (B3 1 enc (xs++[a])::rl) (.cell id off::n6) Q):Ry A l b dr j4 (⟨.append 1 bytes false (.loc j) y,none,none,u⟩::ops) T H n rl n6 Q :=
 Ry.ad0 hj ha hk ht hl ho hc hy rfl hr (by decide) (by
  have e1:B3 1 enc (xs++[a])= .own 1 (xs.length+1) (xs.flatMap enc++[c]):=by simp [B3,he]
  rw [e1] at h2;subst hH hN;exact h2)
theorem soO {id off j z n0:Nat}{y:q7}{u:List Nat}{cs:List Data}{old new:List b6}{H2:o6}{r2:List b6}(hy:rq T n rl y= .ptr id off:=by rfl)(hj:lk n rl j=some (.own z n0 cs):=by rfl)(hjb:L3 (j+1) n=true:=by rfl)(hl:l.may id=true:=by rfl)
  (ho:H[id]? =some (.cells old):=by rfl) (hq:L3 (off+1) old.length=true:=by rfl) (hd:dr=true->L3 (tc j4) n=true:=by intro;rfl) (hN:old.set off (.own z n0 cs)=new:=by rfl) (hH:H.set id (.cells new)=H2:=by simp only [List.set_cons_zero,List.set_cons_succ]<;>rfl)
  (hS:rl.set (n - (j+1)) (.d (.slice n0 cs))=r2:=by simp only [Nat.reduceAdd,Nat.reduceSub,List.set_cons_zero,List.set_cons_succ]<;>rfl)
  (h2:Ry A l b dr j4 ops T H2 (n+1) (.any::r2) (.obj id::n6) Q):Ry A l b dr j4 (⟨.store 1 y (.loc j),none,none,u⟩::ops) T H n rl n6 Q:=fun hn=>by
 subst hH hN hS;have hq' :off<old.length:=o7 hq;have hjl:rl.reverse[j]? =some (.own z n0 cs):=by rw [fL hn];exact hj
 have hL:∀ r:List b6,(rl.reverse++ .any::r)[j]? =some (.own z n0 cs):=fun r=>pY hjl _
 have hjn:j<rl.reverse.length:=by simp only [List.length_reverse,hn];exact o7 hjb
 have h3:∀ (a:b6) (r:List b6),(rl.reverse++a::r).set j (.d (.slice n0 cs))=rl.reverse.set j (.d (.slice n0 cs))++a::r:=fun a r=>List.set_append_left _ _ hjn
 have hlen:(rl.reverse.set j (.d (.slice n0 cs))).length=rl.reverse.length:=by simp
 have h4:∀ (a v:b6) (r:List b6),(rl.reverse.set j (.d (.slice n0 cs))++a::r).set rl.reverse.length v=rl.reverse.set j (.d (.slice n0 cs))++v::r:=fun a v r=>by rw [<- hlen];exact F6 _ _ _ _
 have h1:splice old off [.own z n0 cs]=old.set off (.own z n0 cs):=by
  simp only [splice,List.length_singleton];rw [List.set_eq_take_append_cons_drop,if_pos hq'];simp
 have hw:wr H id off [.own z n0 cs]=some (H.set id (.cells (old.set off (.own z n0 cs)))):=by
  simp only [wr,ho,List.length_singleton,h1];rw [if_pos (by omega)]
 have Tc :=h2.to (by simp [hn]);rw [<- De hn hjb] at Tc;have e1:∀ k,0<=k->y6 (M4 A k l b) j4 none rl.reverse.length ⟨.store 1 y (.loc j),none,none,u⟩ ⟨T,H,rl.reverse++ .any::c9 ops.length .any,n6⟩=some (⟨T,H.set id (.cells (old.set off (.own z n0 cs))),rl.reverse.set j (.d (.slice n0 cs))++ .any::c9 ops.length .any,.obj id::n6⟩,[]):=fun k _=>by
  have hl' :(M4 A k l b).lim.may id=true:=hl;have hx:y3.D7 ⟨T,H,rl.reverse++ .any::c9 ops.length .any,n6⟩ (.loc j)=(.own z n0 cs,⟨T,H,rl.reverse.set j (.d (.slice n0 cs))++ .any::c9 ops.length .any,n6⟩):=by
   simp only [y3.D7,hL,h3]
  have hb0:A4 [b6.own z n0 cs]<=id+1:=Nat.zero_le _;have hc1:(b6.own z n0 cs).cells? =some [.own z n0 cs]:=rfl;simp only [y6,y4,D6,q9.E2,if_true,E6,Y9 hn,hy,Q0,hx,hc1,List.length_singleton,hl',hb0,true_or,and_self,hw,put,h4,q8,F3]
 cases dr with
 |false=>exact Rx.stepT (N1:=0) (rs:=[]) hlen e1 Tc
 |true =>
  refine Rx.FN (N1:=0) (rs:=[]) hlen rfl rfl e1 (fun h=> ?_) Tc;have:=o7 (hd rfl);simp [hn] at h;omega
end S
end
section
variable {A:Prog} {l:G9} {b:Nat}
variable {dr:Bool} {j4 ops:List n8} {T:List b6} {H:o6} {n:Nat} {rl:List b6} {n6:List Touch} {Q:List b6->o6->List b6->Prop}
namespace S
theorem cv1 {f:FuncId}{x:q7}{xs:List q7}{u:List Nat}{v:b6}{first caps args:List b6}{m:Nat}{H0 H1:o6}{l2:G9}(hc:Pm A f args H0 l2 v H1)(Td:H1.length=m)(h2:Ry A l b dr j4 ops T H (n+1) (v::rl) n6 Q)(DL:Y6 ((H.take m).drop l.strict)<=m:=by exact Nat.zero_le _)(hcl:I4 H l.strict 8 (A4 args)=m:=by rfl)
  (OP:H.take m=H0:=by rfl) (hle:L3 m H.length=true:=by rfl) (nY:(⟨0,m,m,C8 H l.strict m⟩:G9)=l2:=by rfl) (hx:rq T n rl x= .func f first caps:=by rfl)
  (ha:first++xs.map (rq T n rl)++caps=args:=by rfl) (fR:A.prom f=false:=by rfl) (hm:A.mode f=1:=by rfl):Ry A l b dr j4 (⟨.aO x xs,none,none,u⟩::ops) T H n rl n6 Q:=fun hn=>by
 obtain ⟨M,hc⟩:=hc;subst OP;refine Rx.step (N1:=M) (rs:=[]) rfl rfl (fun k hk=> ?_) (fun rs=>by simp [J6]) (h2.to hn);have h3:C7 (M4 A k l b) rl.reverse.length f args ⟨T,H,rl.reverse++ .any::c9 ops.length .any,n6⟩=some (put ⟨T,H,rl.reverse++ .any::c9 ops.length .any,n6⟩ rl.reverse.length v) :=
  qA fR hm hcl (o7 hle) DL nY (hc k hk) Td
 simp only [y6,y4,D6,q9.E2,if_true,E6,Y9 hn,hx,mV hn,ha,h3,q8,F3,put,F6]
theorem cv0 {f:FuncId}{x:q7}{xs:List q7}{u:List Nat}{v:b6}{first caps args:List b6}{m:Nat}{H0 HD H1 H2:o6}{l2:G9}(hc:Pm A f args H0 l2 v H1)(Td:H1.length=m)(DL:Y6 ((H.take m).drop l.strict)<=m:=by exact Nat.zero_le _)(hcl:I4 H l.strict 8 (A4 args)=m:=by rfl)
  (OP:H.take m=H0:=by rfl) (hle:L3 m H.length=true:=by rfl) (nY:(⟨l.UU,l.UT,m,C8 H l.strict m⟩:G9)=l2:=by rfl) (hx:rq T n rl x= .func f first caps:=by rfl)
  (ha:first++xs.map (rq T n rl)++caps=args:=by rfl) (fR:A.prom f=false:=by rfl) (hm:A.mode f=0:=by rfl) (hD:H.drop m=HD:=by rfl) (hA:H1++HD=H2:=by first|(simp only [List.cons_append,List.nil_append]<;>rfl)|rfl)
  (h2:Ry A l b false j4 ops T H2 (n+1) (v::rl) (.below m::n6) Q):Ry A l b false j4 (⟨.aO x xs,none,none,u⟩::ops) T H n rl n6 Q:=fun hn=>by
 obtain ⟨M,hc⟩:=hc;subst OP hD hA;refine Rx.stepT (N1:=M) (rs:=[]) rfl (fun k hk=> ?_) (h2.to hn);have h3:C7 (M4 A k l b) rl.reverse.length f args ⟨T,H,rl.reverse++ .any::c9 ops.length .any,n6⟩=some (put ⟨T,H1++H.drop m,rl.reverse++ .any::c9 ops.length .any,.below m::n6⟩ rl.reverse.length v) :=
  wM fR hm hcl (o7 hle) DL nY (hc k hk) Td
 simp only [y6,y4,D6,q9.E2,if_true,E6,Y9 hn,hx,mV hn,ha,h3,q8,F3,put,F6]
end S
end
section
variable {A:Prog} {l:G9} {b:Nat}
def LC (j4:List n8)(na k:Nat)(e:ju):Prop :=
 na ∉ e.reads/\(k<tc j4->∀ rs,na ∉ rs->J6 e.EB rs=false)/\e.Dj<=na/\(∀ i,j4[k]? =some i->i.op.z8=true->e.id=na)/\(∀ i,j4[k]? =some i->i.op.TW=false->e.reads=[])
def Rz (A:Prog)(l:G9)(b:Nat)(j4 ops:List n8)(T:List b6)(H:o6)(n:Nat)(rl:List b6)(n6:List Touch)(na:Nat)(Q:List b6->o6->List b6->Prop):Prop :=
 rl.length=n->∃ r N,Q r.T r.H r.L/\∀ k,N<=k->∃ lg:List ju,Q8 (M4 A k l b) j4 ops n na ⟨T,H,rl.reverse++c9 ops.length .any,n6⟩=some (r,lg)/\lg.length=ops.length/\∀ j e,lg[j]? =some e->LC j4 na (n+j) e
variable {j4 ops:List n8} {T:List b6} {H:o6} {n:Nat} {rl:List b6} {n6:List Touch} {na:Nat} {Q:List b6->o6->List b6->Prop}
theorem Rn.aM8 {T:List b6}{H:o6}{s:Nat}(DK:Z1 ops=[.dead])(vM:slotsOf ops=[.slot s])(hu:∀ i,i ∈ ops->∀ e,e ∈ i.cg->e<ops.length)(h:Rz A l b ops ops T (H++[.dead]) 0 [] [.slot s] H.length Q):Rn A l b ops true T H Q:=by
 obtain ⟨r,N,hq,h⟩:=h rfl;refine ⟨r,N,hq,fun n hn=> ?_⟩;obtain ⟨lg,e1,e2,e3⟩:=h n hn;simp only [List.reverse_nil,List.nil_append,Nat.zero_add] at e1 e3;have WQ:uv ops lg=true:=by
  simp only [uv,List.all_eq_true];rintro ⟨i,le⟩ Ac e he;obtain ⟨j,hj,hji⟩:=List.getElem_of_mem Ac;simp only [List.length_zip] at hj;have To:j<ops.length:=by omega
  have hj2:j<lg.length:=by omega
  simp only [List.getElem_zip,Prod.mk.injEq] at hji;obtain ⟨rfl,rfl⟩:=hji;have hi:ops[j] ∈ ops:=List.getElem_mem To;have hlt:=hu _ hi e he;have he2:e<lg.length:=by omega
  rw [s9 he2];have c1:=e3 j _ (s9 hj2);have c2:=e3 e _ (s9 he2);cases hr:ops[j].op.TW with
  |true =>
   have hb:=wI hi hr he;have h5:=c2.2.1 hb _ c1.1;have ha:ops[j].op.z8=false:=by
    cases ho:ops[j].op<;>rw [ho] at hr<;>first|rfl|(cases hr)
   simp [h5,ha]
  |false =>
   have h5:=c1.2.2.2.2 _ (s9 To) hr;cases ha:ops[j].op.z8 with
   |false=>simp [h5,J6]
   |true =>
    have h7:=c1.2.2.2.1 _ (s9 To) ha;have h6:=c2.2.2.1;simp [h5,J6];omega
 simp only [P6,if_true,DK,vM,e1,WQ]
theorem Rz.nil (h:Q T H rl.reverse):Rz A l b j4 [] T H n rl n6 na Q:=fun _=>⟨⟨T,H,rl.reverse,n6⟩,0,h,fun _ _=>⟨[],by simp [Q8],rfl,fun j e h=>by simp at h⟩⟩
theorem Rz.step {i:n8}{T' :List b6}{H' :o6}{v:b6}{ec :List Touch}{rs:List Nat}{N1:Nat}(hk:∀ L,F4 ⟨T,H,L,n6⟩ i.op=false)(hi:j4[n]? =some i)
  (h:rl.length=n->∀ k,N1<=k->y6 (M4 A k l b) j4 (if i.op.z8 then some na else none) n i ⟨T,H,rl.reverse++ .any::c9 ops.length .any,n6⟩=some (⟨T',H',rl.reverse++v::c9 ops.length .any,ec⟩,rs))
  (hr:na ∉ rs) (ht:n<tc j4->∀ rs,na ∉ rs->J6 (kO (if i.op.z8 then some na else none)++ec.take (ec.length - n6.length)) rs=false) (OZ:∀ k,M3 (M4 A k l b) ⟨T,H,rl.reverse++ .any::c9 ops.length .any,n6⟩ i.op<=na)
  (hn2:i.op.z8=true->∀ j,j ∈ ops->j.op.z8=false) (h2:∀ na',(i.op.z8=false->na' =na)->Rz A l b j4 ops T' H' (n+1) (v::rl) ec na Q/\(i.op.z8=true->∀ k r lg,Q8 (M4 A k l b) j4 ops (n+1) na ⟨T',H',(v::rl).reverse++c9 ops.length .any,ec⟩=some (r,lg)->Q8 (M4 A k l b) j4 ops (n+1) (na+1) ⟨T',H',(v::rl).reverse++c9 ops.length .any,ec⟩=some (r,lg))) :
  Rz A l b j4 (i::ops) T H n rl n6 na Q:=fun hn=>by
 obtain ⟨h2,h2a⟩:=h2 na (fun _=>rfl);obtain ⟨r,N,hq,h2⟩:=h2 (by simp [hn]);refine ⟨r,max N N1,hq,fun k hkk=> ?_⟩;obtain ⟨lg,e1,e2,e3⟩:=h2 k (by omega);have h4:=h hn k (by omega);have e1' :Q8 (M4 A k l b) j4 ops (n+1) (if i.op.z8 then na+1 else na) ⟨T',H',rl.reverse++v::c9 ops.length .any,ec⟩=some (r,lg):=by
  cases ha:i.op.z8 with
  |false=>simpa using e1
  |true=>simpa using h2a ha k r lg e1
 refine ⟨cP (M4 A k l b) i (if i.op.z8 then some na else none) ⟨T,H,rl.reverse++ .any::c9 ops.length .any,n6⟩ ⟨T',H',rl.reverse++v::c9 ops.length .any,ec⟩ rs::lg,?_,by simp [e2],?_⟩
 ·simp only [Q8,List.length_cons,List.replicate_succ,iQ,hk,Bool.false_and,b7,if_false,h4,e1']
 ·intro j e he
  cases j with
  |zero =>
   simp only [List.getElem?_cons_zero,Option.some.injEq] at he;subst he;refine ⟨hr,fun hb=>ht (by omega),OZ k,fun i' hi' ha=> ?_,fun i' hi' hr' => ?_⟩
   ·rw [Nat.add_zero,hi] at hi'
    cases hi';simp [cP,ha]
   ·rw [Nat.add_zero,hi] at hi'
    cases hi';exact yH h4 hr'
  |succ j =>
   simp only [List.getElem?_cons_succ] at he;have:=e3 j e he
   rwa [H9,Nat.add_comm 1 j] at this
theorem yj {E:Env}:∀ (ops:List n8) (k na na' :Nat) (st:E5),(∀ j,j ∈ ops->j.op.z8=false)->Q8 E j4 ops k na st=Q8 E j4 ops k na' st
 |[],_,_,_,_,_=>rfl
 |i::ops,k,na,na',st,h=>by
  have hi:=h i (List.mem_cons_self);simp only [Q8,hi,b7,if_false];cases iQ E j4 none k i st with
  |none=>rfl
  |some x=>simp only [yj ops (k+1) na na' x.1 (fun j hj=>h j (List.mem_cons_of_mem _ hj))]
end
section
variable {A:Prog} {l:G9} {b:Nat}
variable {j4 ops:List n8} {T:List b6} {H:o6} {n:Nat} {rl:List b6} {n6:List Touch} {na:Nat} {Q:List b6->o6->List b6->Prop}
theorem Rz.simple {i:n8}{v:b6}{rs:List Nat}{N1:Nat}(ha:i.op.z8=false)(hk:∀ L,F4 ⟨T,H,L,n6⟩ i.op=false)(hi:j4[n]? =some i)
  (h:rl.length=n->∀ k,N1<=k->y6 (M4 A k l b) j4 none n i ⟨T,H,rl.reverse++ .any::c9 ops.length .any,n6⟩=some (⟨T,H,rl.reverse++v::c9 ops.length .any,n6⟩,rs))
  (hr:na ∉ rs) (hs:∀ k,M3 (M4 A k l b) ⟨T,H,rl.reverse++ .any::c9 ops.length .any,n6⟩ i.op<=na) (h2:Rz A l b j4 ops T H (n+1) (v::rl) n6 na Q):Rz A l b j4 (i::ops) T H n rl n6 na Q :=
 Rz.step (N1:=N1) hk hi (fun hn k hk=>by rw [ha];exact h hn k hk) hr (fun _ rs _=>by rw [ha];simp [kO,J6]) hs (fun h=>by rw [ha] at h;cases h) (fun _ _=>⟨h2,fun h=>by rw [ha] at h;cases h⟩)
namespace S
theorem zn (h:Q T H rl.reverse):Rz A l b j4 [] T H n rl n6 na Q:=Rz.nil h
theorem zp {op:q9}{u:List Nat}{rs:List Nat}(v:b6)(hp:m6 (rq T n rl) H op=some (v,rs))(h2:Rz A l b j4 ops T H (n+1) (v::rl) n6 na Q)(hr:na ∉ rs:=by simp)(hE:op.E2=false:=by rfl)(ha:op.z8=false:=by rfl)(hk:∀ L,F4 ⟨T,H,L,n6⟩ op=false:=by intro;rfl)(hi:j4[n]? =some ⟨op,none,none,u⟩:=by rfl)
  (hs:∀ k,M3 (M4 A k l b) ⟨T,H,rl.reverse++ .any::c9 ops.length .any,n6⟩ op<=na:=by intro;exact Nat.zero_le _):Rz A l b j4 (⟨op,none,none,u⟩::ops) T H n rl n6 na Q:=by
 refine Rz.simple (N1:=0) (rs:=rs) ha hk hi (fun hn k _=> ?_) hr hs h2;have OT:∀ x,op≠ .O3 x:=by
  rintro x rfl;simp [m6] at hp
 have h4:m6 (y3.F5 T (rl.reverse++ .any::c9 ops.length .any)) H op=some (v,rs):=by
  rw [show y3.F5 T (rl.reverse++ .any::c9 ops.length .any)=rq T n rl from funext fun x=>Y9 hn _ x];exact hp
 have Sw:∀ (a:b6) (r:List b6),(rl.reverse++a::r).set n v=rl.reverse++v::r:=fun a r=>by rw [<- hn,<- List.length_reverse];exact F6 _ _ _ _
 have h3:D6 (M4 A k l b) j4 none n op ⟨T,H,rl.reverse++ .any::c9 ops.length .any,n6⟩=some (⟨T,H,rl.reverse++v::c9 ops.length .any,n6⟩,rs):=by
  cases op<;>first
   |exact absurd rfl (OT _)
   |(simp only [D6,hE,b7,if_false,h4,put,Sw];done)
   |(simp [q9.E2] at hE;done)
 simp only [y6,y4,h3,q8,F3]
theorem zm {x:q7}{u:List Nat}{v:b6}(h2:Rz A l b j4 ops T H (n+1) (v::rl) n6 na Q)(hx:Oq T n rl x v:=by exact ⟨rfl,rfl⟩)(hi:j4[n]? =some ⟨.O3 x,none,none,u⟩:=by rfl):Rz A l b j4 (⟨.O3 x,none,none,u⟩::ops) T H n rl n6 na Q:=by
 refine Rz.simple (N1:=0) (rs:=[]) rfl (fun _=>rfl) hi (fun hn k _=> ?_) (by simp) (fun k=>Nat.zero_le _) h2;have Sw:∀ (a:b6) (r:List b6),(rl.reverse++a::r).set n v=rl.reverse++v::r:=fun a r=>by rw [<- hn,<- List.length_reverse];exact F6 _ _ _ _
 simp only [y6,y4,D6,q9.E2,b7,if_false,(hx.op hn).D7,put,Sw,q8,F3]
theorem zc {f:FuncId}{xs:List q7}{u:List Nat}{v:b6}{args:List b6}{m:Nat}{H0 H1:o6}{l2:G9}(hc:Pm A f args H0 l2 v H1)(Td:H1.length=m)(h2:Rz A l b j4 ops T H (n+1) (v::rl) n6 na Q)(hmn:m<=na:=by decide)(DL:Y6 ((H.take m).drop l.strict)<=m:=by exact Nat.zero_le _)(hcl:I4 H l.strict 8 (A4 args)=m:=by rfl)
  (OP:H.take m=H0:=by rfl) (hle:L3 m H.length=true:=by rfl) (nY:(⟨0,m,m,C8 H l.strict m⟩:G9)=l2:=by rfl)
  (ha:xs.map (rq T n rl)=args:=by rfl) (fR:A.prom f=false:=by rfl) (hm:A.mode f=1:=by rfl) (hi:j4[n]? =some ⟨.call f xs,none,none,u⟩:=by rfl) (hn0:rl.length=n:=by rfl):Rz A l b j4 (⟨.call f xs,none,none,u⟩::ops) T H n rl n6 na Q:=by
 obtain ⟨M,hc⟩:=hc;subst OP;have WU :∀ k,(M4 A k l b).prom f=false:=fun _=>fR
 refine Rz.simple (N1:=M) (rs:=[]) rfl (fun _=>rfl) hi (fun hn k hk=> ?_) (by simp) (fun k=> ?_) h2
 ·have Sw:∀ (a:b6) (r:List b6),(rl.reverse++a::r).set n v=rl.reverse++v::r:=fun a r=>by rw [<- hn,<- List.length_reverse];exact F6 _ _ _ _
  have h3:C7 (M4 A k l b) n f args ⟨T,H,rl.reverse++ .any::c9 ops.length .any,n6⟩=some (put ⟨T,H,rl.reverse++ .any::c9 ops.length .any,n6⟩ n v) :=
   qA fR hm hcl (o7 hle) DL nY (hc k hk) Td
  simp only [y6,y4,D6,q9.E2,if_true,E6,mV hn,ha,h3,q8,F3,put,Sw]
 ·have aG7 :I4 H (M4 A k l b).lim.strict 8 (A4 args)=m:=hcl
  simp only [M3,WU,b7,if_false,mV hn0,ha,aG7];exact hmn
theorem za {zero:List b6}{u:List Nat}{s:Nat}{T2:List b6}{H2:o6}(hs:T[s]?.isSome=true:=by rfl)(htc:n6.any (Touch.R9 s)=true:=by rfl)(hT:T.set s (.ptr na 0)=T2:=by simp only [List.set_cons_zero,List.set_cons_succ]<;>rfl)(hH:H.set na (.cells zero)=H2:=by simp only [List.set_cons_zero,List.set_cons_succ]<;>rfl)
  (hi:j4[n]? =some ⟨.alloc zero,some s,none,u⟩:=by rfl) (hno:ops.all (fun j=> !j.op.z8)=true:=by rfl) (h2:Rz A l b j4 ops T2 H2 (n+1) (.ptr na 0::rl) n6 na Q):Rz A l b j4 (⟨.alloc zero,some s,none,u⟩::ops) T H n rl n6 na Q:=by
 subst hT hH;have hs:s<T.length:=by
  rcases u9 s T.length with h|h
  ·exact h
  ·rw [A8 h] at hs;cases hs
 have ah1 :∀ j,j ∈ ops->j.op.z8=false:=fun j hj=>by simpa using List.all_eq_true.1 hno j hj
 refine Rz.step (N1:=0) (rs:=[]) (fun _=>rfl) hi (fun hn k _=> ?_) (by simp) (fun _ rs hrs=> ?_) (fun k=>Nat.zero_le _) (fun _=>ah1) (fun _ _=>⟨h2,fun _ k r lg h=>by rw [yj ops _ (na+1) na _ ah1];exact h⟩)
 ·have Sw:∀ (a v:b6) (r:List b6),(rl.reverse++a::r).set n v=rl.reverse++v::r:=fun a v r=>by rw [<- hn,<- List.length_reverse];exact F6 _ _ _ _
  have h3:∀ r:List b6,(rl.reverse++ .ptr na 0::r)[n]? =some (.ptr na 0):=fun r=>by rw [<- hn,<- List.length_reverse];simp
  simp only [q9.z8,if_true,y6,y4,D6,q9.E2,E6,J7,newId,Option.getD_some,put,Sw,q8,W5,hs,htc,y3.D7,h3,decide_true,Bool.and_self];simp [y3.F5,b6.G4,h3]
 ·simp only [q9.z8,if_true,kO,Nat.sub_self,List.take_zero,List.append_nil,J6,List.any_cons,List.any_nil,Bool.or_false]
  simp only [Touch.K4];rw [List.any_eq_false];intro x hx;simp;rintro rfl;exact hrs hx
theorem zs {m:Nat}{x y:q7}{u:List Nat}{v:b6}{cs old:List b6}{H2:o6}(hd:L3 (tc j4) n=true:=by rfl)(hy:rq T n rl y= .ptr na 0:=by rfl)(hx:Oq T n rl x v:=by exact ⟨rfl,rfl⟩)(hc:v.cells? =some cs:=by rfl)(hm:cs.length=m:=by rfl)(hl:l.may na=true:=by rfl)(hb:A4 cs=0:=by rfl)
  (ho:H[na]? =some (.cells old):=by rfl) (hq:old.length=m:=by rfl) (hH:H.set na (.cells cs)=H2:=by simp only [List.set_cons_zero,List.set_cons_succ]<;>rfl) (hi:j4[n]? =some ⟨.store m y x,none,none,u⟩:=by rfl)
  (h2:Rz A l b j4 ops T H2 (n+1) (.any::rl) (.obj na::n6) na Q):Rz A l b j4 (⟨.store m y x,none,none,u⟩::ops) T H n rl n6 na Q:=by
 have hw:wr H na 0 cs=some H2:=by
  simp [wr,ho,hm,hq,splice,<- hH];rw [k9 (by omega)];simp
 refine Rz.step (N1:=0) (rs:=[]) (fun _=>rfl) hi (fun hn k _=> ?_) (by simp) (fun h=> ?_) (fun k=>Nat.zero_le _) (fun h=>by cases h) (fun _ _=>⟨h2,fun h=>by cases h⟩)
 ·have hl' :(M4 A k l b).lim.may na=true:=hl
  have hb' :A4 cs<=na+1:=by omega
  have Sw:∀ (a v:b6) (r:List b6),(rl.reverse++a::r).set n v=rl.reverse++v::r:=fun a v r=>by rw [<- hn,<- List.length_reverse];exact F6 _ _ _ _
  simp only [q9.z8,b7,if_false,y6,y4,D6,q9.E2,if_true,E6,Y9 hn,hy,Q0,(hx.op hn).D7,hc,hm,hl',hb',true_or,and_self,hw,put,Sw,q8,F3]
 ·have:=o7 hd
  omega
end S
end
section
variable {A:Prog} {l:G9} {b:Nat}
variable {dr:Bool} {j4 ops:List n8} {T:List b6} {H:o6} {n:Nat} {rl:List b6} {n6:List Touch} {Q:List b6->o6->List b6->Prop}
namespace S
theorem o12 {x y:q7}{u:List Nat}{z1 z2:b6}{c d:Data}(h2:Ry A l b dr j4 ops T H (n+1) (.own 1 2 [c,d]::rl) n6 Q)(hx:rq T n rl x= .d c:=by rfl)(hy:rq T n rl y= .d d:=by rfl):Ry A l b dr j4 (⟨.p8 1 2 [z1,z2] [(0,1,x),(1,1,y)] false,none,none,u⟩::ops) T H n rl n6 Q :=
 Ry.pure (rs:=[]) rfl (by simp [m6,bU,hx,hy,b6.cells?,splice,N9,b6.data?,b6.one]) h2
theorem lq2 {α β:Type}{e1:α->List Data}{e2:β->List Data}{xs:List α}{ys:List β}{x:q7}{u:List Nat}{id z1 z2:Nat}(h2:Ry A l b dr j4 ops T H (n+1) (.agg [.d (z6 e1 xs),.d (z6 e2 ys)]::rl) n6 Q)(hx:rq T n rl x= .ptr id 0:=by rfl)(ho:H[id]? =some (.cells [B3 z1 e1 xs,B3 z2 e2 ys]):=by rfl) :
  Ry A l b dr j4 (⟨.load (some 2) x,none,none,u⟩::ops) T H n rl n6 Q :=
 Ry.pure (rs:=[id]) rfl (by simp [m6,hx,rd,ho,B3,z6,b6.G4]) h2
end S
end
section
variable {A:Prog} {l:G9} {b:Nat}
variable {j4 ops:List n8} {T:List b6} {H:o6} {n:Nat} {rl:List b6} {n6:List Touch} {na:Nat} {Q:List b6->o6->List b6->Prop}
namespace S
theorem zix {α:Type} [Inhabited α] {enc:α->List Data}{xs:List α}{sz:Nat}{e:Int}{x y:q7}{k:IntKind}{u:List Nat}(h0:0<=e/\e<xs.length)(h2:Rz A l b j4 ops T H (n+1) (.Q5 (enc (nth xs e.toNat)++(xs.drop (e.toNat+1)).flatMap enc)::rl) n6 na Q)(hx:rq T n rl x= .d (z6 enc xs):=by rfl)(hy:rq T n rl y= .d (.int k e):=by rfl)(hs:∀ a,(enc a).length=sz:=by intro;rfl)
  (hi:j4[n]? =some ⟨.C4 sz x y,none,none,u⟩:=by rfl):Rz A l b j4 (⟨.C4 sz x y,none,none,u⟩::ops) T H n rl n6 na Q:=by
 refine zp (rs:=[]) _ ?_ h2 (hi:=hi);have hl:e.toNat<xs.length:=by omega
 have h3:=kG hs xs e.toNat hl;rw [<- K0 hl] at h3;simp only [m6,hx,hy,z6,h0,and_self,if_true,h3]
theorem zle {cs rest:List Data}{x:q7}{m:Nat}{u:List Nat}(h2:Rz A l b j4 ops T H (n+1) (.agg (cs.map .d)::rl) n6 na Q)(hx:rq T n rl x= .Q5 (cs++rest):=by rfl)(hm:cs.length=m:=by rfl)(hi:j4[n]? =some ⟨.load (some m) x,none,none,u⟩:=by rfl):Rz A l b j4 (⟨.load (some m) x,none,none,u⟩::ops) T H n rl n6 na Q:=by
 refine zp (rs:=[]) _ ?_ h2 (hi:=hi);subst hm;simp [m6,hx]
theorem soD {dr:Bool}{m id:Nat}{x y:q7}{u:List Nat}{v:b6}{cs old:List b6}{H2:o6}(hd:L3 (tc j4) n=true:=by rfl)(hy:rq T n rl y= .ptr id 0:=by rfl)(hx:Oq T n rl x v:=by exact ⟨rfl,rfl⟩)(hc:v.cells? =some cs:=by rfl)(hm:cs.length=m:=by rfl)(hl:l.may id=true:=by rfl)(hb:A4 cs=0:=by rfl)
  (ho:H[id]? =some (.cells old):=by rfl) (hq:old.length=m:=by rfl) (hH:H.set id (.cells cs)=H2:=by simp only [List.set_cons_zero,List.set_cons_succ]<;>rfl)
  (h2:Ry A l b dr j4 ops T H2 (n+1) (.any::rl) (.obj id::n6) Q):Ry A l b dr j4 (⟨.store m y x,none,none,u⟩::ops) T H n rl n6 Q :=
 Jb hd hy hx hc hm hl (by omega) (by simp [wr,ho,hm,hq,splice,<- hH];rw [k9 (by omega)];simp) h2
end S
end
section
variable {A:Prog} {l:G9} {b:Nat}
variable {dr:Bool} {j4 ops:List n8} {T:List b6} {H:o6} {n:Nat} {rl:List b6} {n6:List Touch} {Q:List b6->o6->List b6->Prop}
namespace S
theorem mk {u:List Nat}{id:Nat}{H2:o6}(hi:H.length=id:=by simp only [List.length_cons,List.length_nil,Nat.reduceAdd]<;>rfl)(hH:H++[.map []]=H2:=by simp only [List.cons_append,List.nil_append]<;>rfl)
  (h2:Ry A l b false j4 ops T H2 (n+1) (.map id::rl) n6 Q):Ry A l b false j4 (⟨.makeMap,none,none,u⟩::ops) T H n rl n6 Q:=fun hn=>by
 subst hi hH;refine Rx.stepT (N1:=0) (rs:=[]) rfl (fun n _=> ?_) (h2.to hn);simp only [y6,y4,D6,q9.E2,if_true,E6,J7,newId,Option.getD_none,put,F6,q8,F3]
theorem Wy {sz len:Nat}{zero:List b6}{parts:List (Nat×Nat×q7)}{u:List Nat}{id:Nat}{H2:o6}(cs:List b6)(hr:bU zero (parts.map fun p=>(p.1,p.2.1,rq T n rl p.2.2))=some cs)(h0:0<sz/\cs.length=len * sz)(hi:H.length=id:=by simp only [List.length_cons,List.length_nil,Nat.reduceAdd]<;>rfl)(hH:H++[.cells cs]=H2:=by simp only [List.cons_append,List.nil_append]<;>rfl)
  (h2:Ry A l b false j4 ops T H2 (n+1) (.D4 id sz 0 len::rl) n6 Q):Ry A l b false j4 (⟨.p8 sz len zero parts true,none,none,u⟩::ops) T H n rl n6 Q:=fun hn=>by
 subst hi hH;refine Rx.stepT (N1:=0) (rs:=[]) rfl (fun k _=> ?_) (h2.to hn);have hr' :bU zero (parts.map fun p=>(p.1,p.2.1,y3.F5 T (rl.reverse++ .any::c9 ops.length .any) p.2.2))=some cs:=by
  rw [show y3.F5 T (rl.reverse++ .any::c9 ops.length .any)=rq T n rl from funext fun x=>Y9 hn _ x];exact hr
 simp only [y6,y4,D6,q9.E2,if_true,E6,hr',h0,and_self,J7,newId,Option.getD_none,put,F6,q8,F3]
theorem lrT {x:q7}{u:List Nat}{id sz lo len s:Nat}{T2:List b6}(hx:rq T n rl x= .D4 id sz lo len:=by rfl)(hs:T[s]?.isSome=true:=by rfl)(hT:T.set s (.d (.int .i64 (len:Int)))=T2:=by simp only [List.set_cons_zero,List.set_cons_succ]<;>rfl)
  (h2:Ry A l b dr j4 ops T2 H (n+1) (.d (.int .i64 (len:Int))::rl) (.slot s::n6) Q):Ry A l b dr j4 (⟨.len x,some s,none,u⟩::ops) T H n rl n6 Q :=
 Ry.ye (v:= .d (.int .i64 (len:Int))) (rs:=[]) rfl (by simp only [m6,hx,i64]) rfl rfl hs (by rw [hT];exact h2)
theorem ixs {x y:q7}{u:List Nat}{id sz lo len i:Nat}{k:IntKind}(hi:i<len)(h2:Ry A l b dr j4 ops T H (n+1) (.ptr id (lo+i * sz)::rl) n6 Q)(hx:rq T n rl x= .D4 id sz lo len:=by rfl)(hy:rq T n rl y= .d (.int k ((i:Nat):Int)):=by rfl):Ry A l b dr j4 (⟨.C4 sz x y,none,none,u⟩::ops) T H n rl n6 Q :=
 Ry.pure (rs:=[]) rfl (by
  have h1:(i:Int)<len:=by omega
  simp [m6,hx,hy,h1]) h2
theorem lqV {x:q7}{u:List Nat}{id o m:Nat}{vs:List b6}(hr:rd H id o m=some vs)(hv:vs.map b6.G4=vs)(h2:Ry A l b dr j4 ops T H (n+1) (.agg vs::rl) n6 Q)(hx:rq T n rl x= .ptr id o:=by rfl):Ry A l b dr j4 (⟨.load (some m) x,none,none,u⟩::ops) T H n rl n6 Q :=
 Ry.pure (rs:=[id]) rfl (by simp only [m6,hx,hr,hv]) h2
theorem soB {m id:Nat}{x y:q7}{u:List Nat}{v:b6}{cs old:List b6}{H2:o6}(hb:A4 cs<=id+1)(hy:rq T n rl y= .ptr id 0:=by rfl)(hx:Oq T n rl x v:=by exact ⟨rfl,rfl⟩)(hc:v.cells? =some cs:=by rfl)(hm:cs.length=m:=by rfl)(hl:l.may id=true:=by rfl)
  (ho:H[id]? =some (.cells old):=by rfl) (hq:old.length=m:=by rfl) (hH:H.set id (.cells cs)=H2:=by simp only [List.set_cons_zero,List.set_cons_succ]<;>rfl)
  (h2:Ry A l b false j4 ops T H2 (n+1) (.any::rl) (.obj id::n6) Q):Ry A l b false j4 (⟨.store m y x,none,none,u⟩::ops) T H n rl n6 Q :=
 tS hy hx hc hm hl hb (by simp [wr,ho,hm,hq,splice,<- hH];rw [k9 (by omega)];simp) h2
end S
theorem wW {mask:List Bool}{strict m:Nat}{T:List b6}{H:o6}(h1:A4 (V0 mask T)<=m)(h2:Y6 ((H.take m).drop strict)<=m):clean mask strict m ⟨T,H⟩=⟨V0 mask T,H.take m⟩:=by
 simp [clean,h1,h2]
end
section
variable {A:Prog} {l:G9} {b:Nat}
variable {j4 ops:List n8} {T:List b6} {H:o6} {n:Nat} {rl:List b6} {n6:List Touch} {Q:List b6->o6->List b6->Prop}
namespace S
theorem cp {f:FuncId}{xs:List q7}{u:List Nat}{v:b6}{args:List b6}{H1:o6}(hc:Pm A f args H l v H1)(hle:H.length<=H1.length)(h2:Ry A l b false j4 ops T H1 (n+1) (v::rl) (.below H1.length::n6) Q)(ha:xs.map (rq T n rl)=args:=by rfl)(fR:A.prom f=true:=by rfl) :
  Ry A l b false j4 (⟨.call f xs,none,none,u⟩::ops) T H n rl n6 Q:=fun hn=>by
 obtain ⟨M,hc⟩:=hc;refine Rx.stepT (N1:=M) (rs:=[]) rfl (fun k hk=> ?_) (h2.to hn);have WU :(M4 A k l b).prom f=true:=fR;have uk :(M4 A k l b).cf f args H (M4 A k l b).lim=some (v,H1):=hc k hk;have h3:C7 (M4 A k l b) rl.reverse.length f args ⟨T,H,rl.reverse++ .any::c9 ops.length .any,n6⟩=some (put ⟨T,H1,rl.reverse++ .any::c9 ops.length .any,.below H1.length::n6⟩ rl.reverse.length v):=by
  simp only [C7,WU,if_true,uk,hle]
 simp only [y6,y4,D6,q9.E2,if_true,E6,mV hn,ha,h3,q8,F3,put,F6]
end S
end
theorem AO (id:Nat):∀ l:List b6,G5 id l=l.map (b6.kill id)
 |[]=>rfl
 |v::l=>by simp [G5,AO id l]
theorem MV {id m:Nat}(rl:List b6):G5 id (rl.reverse++ .any::c9 m .any)=(G5 id rl).reverse++ .any::c9 m .any:=by
 simp [AO,b6.kill]
theorem Pm.gS {A:Prog}{f:FuncId}{args:List b6}{H H1:o6}{l:G9}{v:b6}{p:List b6->o6->G9->Option (b6×o6)}(hp:A.gS f=some p)(h:p args H l=some (v,H1)):Pm A f args H l v H1 :=
 ⟨1,fun n hn=>by
  obtain ⟨n,rfl⟩:∃ j,n=j+1:=⟨n - 1,by omega⟩;simp only [call,hp,h]⟩
section
variable {A:Prog} {l:G9} {b:Nat}
variable {dr:Bool} {j4 ops:List n8} {T:List b6} {H:o6} {n:Nat} {rl:List b6} {n6:List Touch} {Q:List b6->o6->List b6->Prop}
theorem Ry.ad2 {j s sz bytes id off:Nat}{y:q7}{u u' :List Nat}{d' :Option Nat}{g' :Option (Nat×Bool)}{n' len m:Nat}{cs' cells new:List Data}{old:List b6}
  (hj:lk n rl j=some (.d (.slice n' cs'))) (ha:j4[j]? =some ⟨.load none (.slot s),d',g',u'⟩) (hk:T[s]? =some (.ptr id off)) (hts:n6.any (Touch.R9 s)=false) (ht:n6.any (Touch.aP id off)=false) (hl:l.may id=true) (ho:H[id]? =some (.cells old)) (hc:old[off]? =some (.own sz len cells))
  (hy:rq T n rl y= .d (.slice m new)) (hn' :new.length=m * sz) (hr:roomFor (len+m) bytes=true) (h0:0<sz)
  (h2:Ry A l b dr j4 ops T (H.set id (.cells (old.set off (.d (.slice len cells))))) (n+1) (.own sz (len+m) (cells++new)::rl) (.cell id off::n6) Q):Ry A l b dr j4 (⟨.append sz bytes false (.loc j) y,none,none,u⟩::ops) T H n rl n6 Q:=fun hn=>by
 have hjl:rl.reverse[j]? =some (.d (.slice n' cs')):=by rw [fL hn];exact hj
 have hL:∀ r:List b6,(rl.reverse++ .any::r)[j]? =some (.d (.slice n' cs')):=fun r=>pY hjl _
 have xz:y3.F5 T (rl.reverse++ .any::c9 ops.length .any) (.loc j)= .d (.slice n' cs'):=by simp [y3.F5,hL,b6.G4]
 refine Rx.step (N1:=0) (rs:=[]) (by simp only [F4,xz]) rfl (fun q _=> ?_) (Aw id off n6) (h2.to hn);have hl' :(M4 A q l b).lim.may id=true:=hl;have hs:J5 H sz (.d (.slice m new))=some (m,new.map .d):=by simp only [J5,hn',if_true]
 simp only [y6,y4,D6,q9.E2,if_true,E6,xz,L0,Y9 hn,hy,hs,gA,b7,if_false,Q1,hL,ha,V2,Z8,hk,hts,ht,hl',Bool.not_true,Bool.or_self,ho,hc,hr,h0,and_self,put,F6,q8,F3]
theorem S.ax0 {α:Type}{enc:α->List Data}{xs:List α}{a:α}{j s bytes id off:Nat}{y:q7}{u u' :List Nat}{d' :Option Nat}{g' :Option (Nat×Bool)}{n' :Nat}{cs' :List Data}{c:Data}{old new:List b6}{H2:o6}
  (hr:roomFor (xs.length+1) bytes=true) (he:enc a=[c]) (hj:lk n rl j=some (.d (.slice n' cs')):=by rfl) (ha:j4[j]? =some ⟨.load none (.slot s),d',g',u'⟩:=by rfl) (hk:T[s]? =some (.ptr id off):=by rfl) (hts:n6.any (Touch.R9 s)=false:=by rfl) (ht:n6.any (Touch.aP id off)=false:=by rfl) (hl:l.may id=true:=by rfl) (ho:H[id]? =some (.cells old):=by rfl) (hc:old[off]? =some (B3 1 enc xs):=by rfl)
  (hy:rq T n rl y= .d (.slice 1 [c]):=by rfl) (hN:old.set off (.d (z6 enc xs))=new:=by rfl) (hH:H.set id (.cells new)=H2:=by simp only [List.set_cons_zero,List.set_cons_succ]<;>rfl)
  (h2:Ry A l b dr j4 ops T H2 (n+1) (B3 1 enc (xs++[a])::rl) (.cell id off::n6) Q):Ry A l b dr j4 (⟨.append 1 bytes false (.loc j) y,none,none,u⟩::ops) T H n rl n6 Q :=
 Ry.ad2 hj ha hk hts ht hl ho hc hy rfl hr (by decide) (by
  have e1:B3 1 enc (xs++[a])= .own 1 (xs.length+1) (xs.flatMap enc++[c]):=by simp [B3,he]
  rw [e1] at h2;subst hH hN;exact h2)
theorem S.XF {s:Nat}{w v:b6}{u:List Nat}(hw:w.G4=v)(h2:Ry A l b dr j4 ops T H (n+1) (v::rl) n6 Q)(hx:T[s]? =some w:=by rfl):Ry A l b dr j4 (⟨.O3 (.slot s),none,none,u⟩::ops) T H n rl n6 Q:=fun hn=>by
 subst hw;refine Rx.step (N1:=0) (rs:=[]) rfl rfl (fun q _=> ?_) (fun rs=>by simp [J6]) (h2.to hn);have h3:y3.F5 T (rl.reverse++ .any::c9 ops.length .any) (.slot s)=w.G4:=by simp [y3.F5,hx]
 simp only [y6,y4,D6,q9.E2,b7,if_false,y3.D7,h3,put,F6,q8,F3]
end
section
variable {A:Prog} {l:G9} {b:Nat}
variable {j4 ops:List n8} {T:List b6} {H:o6} {n:Nat} {rl:List b6} {n6:List Touch} {Q:List b6->o6->List b6->Prop}
namespace S
theorem mn {dr:Bool}{s:Nat}{T2:List b6}{u:List Nat}(hs:T[s]?.isSome=true:=by rfl)(hT:T.set s (.d (.slice 0 []))=T2:=by simp only [List.set_cons_zero,List.set_cons_succ]<;>rfl)(h2:Ry A l b dr j4 ops T2 H (n+1) (.I8::rl) (.slot s::n6) Q) :
  Ry A l b dr j4 (⟨.O3 (.const .I8),some s,none,u⟩::ops) T H n rl n6 Q:=fun hn=>by
 subst hT;have hs' :s<T.length:=by
  rcases u9 s T.length with h|h
  ·exact h
  ·rw [A8 h] at hs;cases hs
 refine Rx.step (N1:=0) (rs:=[]) rfl rfl (fun n _=> ?_) (gD s n6) (h2.to hn);have h5:∀ r:List b6,(rl.reverse++ .I8::r)[rl.reverse.length]? =some .I8:=fun r=>by simp
 have h6:∀ r:List b6,y3.F5 T (rl.reverse++ .I8::r) (.loc rl.reverse.length)= .d (.slice 0 []):=fun r=>by simp [y3.F5,b6.G4]
 simp only [y6,y4,D6,q9.E2,b7,if_false,y3.D7,put,F6,q8,F3,hs',if_true,h5,h6]
theorem zsb {na:Nat}{x y:q7}{c d:Int}{u:List Nat}(h0: -9223372036854775808<=c - d/\c - d<9223372036854775808)(h2:Rz A l b j4 ops T H (n+1) (.d (.int .i64 (c - d))::rl) n6 na Q)(hx:rq T n rl x= .d (.int .i64 c):=by rfl)(hy:rq T n rl y= .d (.int .i64 d):=by rfl)
  (hi:j4[n]? =some ⟨.bin .sub x y,none,none,u⟩:=by rfl):Rz A l b j4 (⟨.bin .sub x y,none,none,u⟩::ops) T H n rl n6 na Q :=
 zp (rs:=[]) _ (by simp only [m6,hx,hy,Ck (Or.inr ⟨rfl,rfl⟩) h0.1 h0.2]) h2 (hi:=hi)
theorem apo {x y:q7}{u:List Nat}{sz bytes id len m k2:Nat}{old cs T2 rl2:List b6}{H2:o6}(hr:roomFor (len+m) bytes=true)(hc:J5 H sz (rq T n rl y)=some (m,cs))(WT:len * sz=old.length)(hone:cs.all b6.one=true)(hbc:A4 cs=0)
  (hx:rq T n rl x= .D4 id sz 0 len:=by rfl) (hid:L3 l.base id=true:=by rfl) (Tg:L3 b id=true:=by rfl) (hl:l.may id=true:=by rfl) (ho:H[id]? =some (.cells old):=by rfl) (hsz:L3 1 sz=true:=by rfl)
  (hT:G5 id T=T2:=by rfl) (hL:G5 id rl=rl2:=by rfl) (hH:(H.take l.base++(H.drop l.base).map (y7.kill id)).set id (.cells (G5 id old++cs))=H2:=by rfl)
  (hk2:len+m=k2:=by rfl) (h2:Ry A l b false j4 ops T2 H2 (n+1) (.D4 id sz 0 k2::rl2) (.obj id::n6) Q):Ry A l b false j4 (⟨.append sz bytes true x y,none,none,u⟩::ops) T H n rl n6 Q:=fun hn=>by
 subst hT hH hL hk2;have hid:=o7 hid;have Tg:=o7 Tg;have hsz:0<sz:=o7 hsz;have hn2:(G5 id rl).length=n:=by rw [N5];exact hn
 refine Rx.stepT (N1:=0) (rs:=[]) (by simp [N5]) (fun k _=> ?_) (h2.to hn2);have hl' :(M4 A k l b).lim.may id=true:=hl;have he:(M4 A k l b).lim.base<=id/\(M4 A k l b).entry<=id/\(M4 A k l b).lim.may id=true:=⟨hid,Tg,hl'⟩;have hk:A4 cs<=id:=by omega
 have h5:S2 (M4 A k l b) rl.reverse.length sz bytes ⟨T,H,rl.reverse++ .any::c9 ops.length .any,n6⟩ id 0 len (rq T n rl y)=some (put ⟨G5 id T,(H.take l.base++(H.drop l.base).map (y7.kill id)).set id (.cells (G5 id old++cs)),(G5 id rl).reverse++ .any::c9 ops.length .any,.obj id::n6⟩ rl.reverse.length (.D4 id sz 0 (len+m))):=by
  simp only [S2,he,and_self,if_true,ho,hc,WT,hr,hk,hone,hsz,MV];rfl
 have hln:rl.reverse.length=(G5 id rl).reverse.length:=by simp [N5]
 simp only [y6,y4,D6,q9.E2,if_true,E6,Y9 hn,hx,h5,q8,F3,put];rw [hln,F6]
end S
end
end Go.y3
namespace Go.y3.S
theorem gx {Γ Δ:Prop}(k:Δ)(h:PLift Δ->Γ:=by intro K;(first|refine Ex.seq ?_|refine Ex.region (Rn.text ?_)|refine Ex.region (Rn.draw ?_)|refine Ex.block ?_|refine nl ?_|refine Ex.skip ?_|refine Ex.exit ?_|refine Ex.ret ?_|refine wa ?_|refine sk ?_|refine st ?_|refine mv ?_|refine mt (h2:= ?_)|refine mo ?_|refine lp ?_|refine lpo ?_|refine fp ?_|refine ld ?_|refine lf ?_|refine ln ?_|refine li ?_|refine lo ?_|refine gi ?_|refine go ?_|refine ei ?_|refine ni ?_|refine es ?_|refine ns ?_|refine ad ?_|refine sb ?_|refine ng ?_|refine lt ?_|refine le ?_|refine lq ?_|refine lq3 ?_|refine lq2 ?_|refine o12 ?_|refine et ?_|refine ix (h2:= ?_)|refine pt ?_|refine pk ?_|refine mw (h2:= ?_)|refine ow (h2:= ?_)|refine bx (h2:= ?_)|refine bxn (h2:= ?_)|refine nk ?_|refine nki ?_|refine ac (h2:= ?_)|refine so (h2:= ?_)|refine sp1 (h2:= ?_)|refine o1 ?_|refine o1z ?_|refine ap1 (h2:= ?_)|refine e0 ?_|refine apN (h2:= ?_)|refine al1 (h2:= ?_)|refine alN (h2:= ?_)|refine alE (h2:= ?_)|refine xs (h2:= ?_)|refine xsN (h2:= ?_)|refine ixN (h2:= ?_)|refine ixZ (h2:= ?_)|refine ls ?_|refine lnT (h2:= ?_)|refine lsT (h2:= ?_)|refine ldT (h2:= ?_)|refine lpT (h2:= ?_)|refine qs ?_|refine qb ?_|refine mm ?_|refine ip ?_|refine ipN ?_|refine ipM ?_|refine aL4 ?_|refine df ?_|refine mf ?_|refine Cj ?_|refine svh (h2:= ?_)|refine svl (h2:= ?_)|refine svb (h2:= ?_)|fail);exact K.down):Γ:=h ⟨k⟩
theorem gr {Γ Δ:Prop}(k:Δ)(h:PLift Δ->Γ:=by intro K;(repeat' (first|refine gx ?_|fail));exact K.down):Γ:=h ⟨k⟩
theorem cc {p:Prop}(h:p:=by first|(simp [*,b8];done)|(simp_all [b8];done)|(simp_all [b8,p5,p4,j9,B8];done)|(simp_all [b8,p5,p4,j9,B8]<;>omega)):p:=h
section
variable {A:Prog} {l:G9} {b:Nat}
theorem tB {ops:List n8}{draw:Bool}{c:q7}{d e:o8}{T:List b6}{H:o6}{Q:E4->St->Prop}{Δ:Prop}(t:Bool)(k:Δ)(h2:t=true->Ex A l b d ⟨T,H⟩ Q)(h3:t=false->Ex A l b e ⟨T,H⟩ Q)
  (h:PLift Δ->Rn A l b ops draw T H fun T' H' L=>T' =T/\H' =H/\∃ t',F5 T' L c= .d (.bool t')/\t' =t:=by intro K;first|exact Rn.text K.down|exact Rn.draw K.down):Ex A l b (.test ops draw c d e) ⟨T,H⟩ Q:=Ex.Rj t (h ⟨k⟩) h2 h3
theorem tb {ops:List n8}{draw:Bool}{c:q7}{d e:o8}{T:List b6}{H:o6}{Q:E4->St->Prop}(t:Bool)(h2:t=true->Ex A l b d ⟨T,H⟩ Q)(h3:t=false->Ex A l b e ⟨T,H⟩ Q)
  (h:Rn A l b ops draw T H fun T' H' L=>T' =T/\H' =H/\∃ t',F5 T' L c= .d (.bool t')/\t' =t:=by (first|refine Rn.text ?_|refine Rn.draw ?_|fail);(repeat' (first|refine gx ?_|refine fk (h1:=fun hw=> ?_) (h2:=fun hw=> ?_)|refine L7 (h1:=fun hw=> ?_) (h2:=fun hw=> ?_)|refine ⟨rfl,rfl,_,rfl,?_⟩|refine ⟨rfl,rfl⟩|fail));all_goals exact cc) :
  Ex A l b (.test ops draw c d e) ⟨T,H⟩ Q:=Ex.Rj t h h2 h3
end
end Go.y3.S
namespace Go.y3
def lU (op:Int):Int :=
 if o9 op 1||o9 op 2 then 0 else if o9 op 3||o9 op 9||o9 op 13||o9 op 16 then 1 else if o9 op 18 then 3 else if W8 1 op&&W8 op 18 then 2 else -1
def fO (k n:Int)(s:D8):Bool :=
 if o9 k 0 then o9 n 0&&J2 s [] else if o9 k 1 then W8 (-4294967296) n&&W8 n 4294967296&&J2 s [] else if o9 k 2 then o9 n 0&&W8 s.length 32 else false
def zeroV (t:aE):Bool:=o9 t.kind 0&&o9 t.int 0&&J2 t.text []
def dn (t:aE):Bool :=
 if o9 t.op 1 then fO t.kind t.int t.text&& !o9 t.kind 0&&o9 t.col 0 else if o9 t.op 2 then zeroV t&&W8 0 t.col else zeroV t&&o9 t.col 0
def xR (t:aE):Bool:= !C9 (lU t.op) 0&&dn t
theorem nP (op:Int):lU op<=3:=by
 unfold lU
 repeat' split
 all_goals omega
inductive aI where
 |node (t:aE) (l:List aI)
mutual
def aI.flat:aI->List aE
 | .node t l=>t::L8 l
def L8:List aI->List aE
 |[]=>[]
 |a::l=>a.flat++L8 l
end
mutual
def aI.dep:aI->Nat
 | .node _ l=>kC l+1
def kC:List aI->Nat
 |[]=>0
 |a::l=>max a.dep (kC l)
end
mutual
def aI.wf:aI->Prop
 | .node t l=>xR t=true/\(lU t.op).toNat=l.length/\Uz l
def Uz:List aI->Prop
 |[]=>True
 |a::l=>a.wf/\Uz l
end
def cO (f:List aE->Option (aI×List aE)):Nat->List aE->Option (List aI×List aE)
 |0,r=>some ([],r)
 |k+1,r=>match f r with
  |none=>none
  |some (a,r')=>match cO f k r' with
   |none=>none
   |some (l,r2)=>some (a::l,r2)
def M1:Nat->List aE->Option (aI×List aE)
 |0,_=>none
 |_+1,[]=>none
 |d+1,t::r=>if xR t then match cO (M1 d) (lU t.op).toNat r with
   |none=>none
   |some (l,r')=>some (.node t l,r')
  else none
theorem xD {f:List aE->Option (aI×List aE)}{d:Nat}(hf:∀ r a r',f r=some (a,r')->r=a.flat++r' /\a.wf/\a.dep<=d):∀ (k:Nat) (r:List aE) (l:List aI) (r' :List aE),cO f k r=some (l,r')->r=L8 l++r' /\Uz l/\kC l<=d/\l.length=k
 |0,r,l,r',h=>by
  simp only [cO,Option.some.injEq,Prod.mk.injEq] at h;obtain ⟨rfl,rfl⟩:=h;simp [L8,Uz,kC]
 |k+1,r,l,r',h=>by
  simp only [cO] at h;split at h
  ·cases h
  ·rename_i a r1 h1
   split at h
   ·cases h
   ·rename_i l2 r2 h2
    simp only [Option.some.injEq,Prod.mk.injEq] at h;obtain ⟨rfl,rfl⟩:=h;obtain ⟨e1,e2,e3⟩:=hf _ _ _ h1;obtain ⟨g1,g2,g3,g4⟩:=xD hf k _ _ _ h2;refine ⟨?_,⟨e2,g2⟩,?_,by simp [g4]⟩
    ·rw [e1,g1];simp [L8]
    ·simp only [kC];omega
theorem S5:∀ (d:Nat) (r:List aE) (a:aI) (r' :List aE),M1 d r=some (a,r')->r=a.flat++r' /\a.wf/\a.dep<=d
 |0,r,a,r',h=>by simp [M1] at h
 |d+1,[],a,r',h=>by simp [M1] at h
 |d+1,t::r,a,r',h=>by
  simp only [M1] at h;split at h
  ·rename_i ht
   split at h
   ·cases h
   ·rename_i l r1 h1
    simp only [Option.some.injEq,Prod.mk.injEq] at h;obtain ⟨rfl,rfl⟩:=h;obtain ⟨g1,g2,g3,g4⟩:=xD (S5 d) _ _ _ _ h1;refine ⟨?_,⟨ht,g4.symm,g2⟩,?_⟩
    ·rw [g1];simp [aI.flat]
    ·simp only [aI.dep];omega
  ·cases h
mutual
theorem W2:∀ (a:aI) (d:Nat) (r:List aE),a.wf->a.dep<=d->M1 d (a.flat++r)=some (a,r)
 | .node t l,0,r,_,h=>by simp [aI.dep] at h
 | .node t l,d+1,r,hw,h=>by
  simp only [aI.dep] at h;obtain ⟨h1,h2,h3⟩:=hw;have h4:=oJ l d r h3 (by omega);simp only [aI.flat,List.cons_append,M1,h1,if_true,h2,h4]
theorem oJ:∀ (l:List aI) (d:Nat) (r:List aE),Uz l->kC l<=d->cO (M1 d) l.length (L8 l++r)=some (l,r)
 |[],d,r,_,_=>by simp [L8,cO]
 |a::l,d,r,hw,h=>by
  simp only [kC] at h;have h1:=W2 a d (L8 l++r) hw.1 (by omega);have h2:=oJ l d r hw.2 (by omega);simp only [L8,List.append_assoc,List.length_cons,cO,h1,h2]
end
mutual
theorem mh:∀ a:aI,a.dep<=a.flat.length
 | .node t l=>by
  have:=AD l;simp only [aI.dep,aI.flat,List.length_cons];omega
theorem AD:∀ l:List aI,kC l<=(L8 l).length
 |[]=>by simp [kC]
 |a::l=>by
  have h1:=mh a;have h2:=AD l;simp only [kC,L8,List.length_append];omega
end
theorem gK (a:aI):0<a.flat.length:=by
 cases a;simp [aI.flat]
theorem tq:∀ l:List aI,l.length<=(L8 l).length
 |[]=>by simp
 |a::l=>by
  have:=gK a;have:=tq l;simp only [L8,List.length_append,List.length_cons];omega
theorem CW {d d' :Nat}{r:List aE}(h:r.length<=d)(h' :r.length<=d'):M1 d r=M1 d' r:=by
 cases h1:M1 d r with
 |some p =>
  obtain ⟨a,r'⟩:=p;obtain ⟨e,w,_⟩:=S5 d r a r' h1;have hd:=mh a;have hl:a.flat.length<=r.length:=by rw [e];simp
  rw [e,W2 a d' r' w (by omega)]
 |none =>
  cases h2:M1 d' r with
  |none=>rfl
  |some p =>
   obtain ⟨a,r'⟩:=p;obtain ⟨e,w,_⟩:=S5 d' r a r' h2;have hd:=mh a;have hl:a.flat.length<=r.length:=by rw [e];simp
   rw [e,W2 a d r' w (by omega)] at h1;cases h1
def fN (op:Int)(t:List Int):Int :=
 if o9 op 3||o9 op 13 then (if o9 (nth t 0) 1 then 1 else 0)
 else if o9 op 8 then (if o9 (nth t 0) 2&&o9 (nth t 1) 2 then 2 else 0)
 else if o9 op 9 then (if o9 (nth t 0) 2 then 1 else 0)
 else if o9 op 10 then (if o9 (nth t 0) 2&&o9 (nth t 1) 1 then 2 else 0)
 else if o9 op 11||o9 op 12 then (if o9 (nth t 0) (nth t 1) then 1 else 0)
 else if o9 op 16 then 1
 else if o9 op 17 then (if o9 (nth t 0) (nth t 1) then nth t 0 else 0)
 else if o9 op 18 then (if o9 (nth t 0) 1&&o9 (nth t 1) (nth t 2) then nth t 1 else 0)
 else (if o9 (nth t 0) 1&&o9 (nth t 1) 1 then 1 else 0)
def Al (ty:List Int)(t:aE)(ts:List Int):Int×Int :=
 if o9 t.op 1 then (t.kind,0) else if o9 t.op 2 then (if W8 ty.length t.col then (0,3) else (nth ty t.col.toNat,0))
 else if o9 (fN t.op ts) 0 then (0,5) else (fN t.op ts,0)
mutual
def aI.typ (ty:List Int):aI->Int×Int
 | .node t l=>if o9 (gm ty l).2 0 then Al ty t (gm ty l).1 else (0,(gm ty l).2)
def gm (ty:List Int):List aI->List Int×Int
 |[]=>([],0)
 |a::l=>if o9 (a.typ ty).2 0 then ((a.typ ty).1::(gm ty l).1,(gm ty l).2) else ([],(a.typ ty).2)
end
def aU (ty:List Int):Bool:=ty.all fun t=>o9 t 1||o9 t 2
def eO (e:List aE):Option aI:=if W8 1 e.length&&W8 e.length 64 then match M1 16 e with
  |some (a,[])=>some a
  |_=>none
 else none
def F8 (e:List aE)(ty:List Int):Int×Int:=match eO e with
 |none=>(0,1)
 |some a=>if aU ty then a.typ ty else (0,1)
theorem vS {α:Type} [Inhabited α] (i:Nat):nth ([]:List α) i=default:=by simp [nth]
def Dd (ty:List Int)(t:aE)(a b c:Int):Int×Bool :=
 if o9 t.op 1 then (t.kind,true) else if o9 t.op 2 then (nth ty t.col.toNat,true)
 else if o9 t.op 3||o9 t.op 13 then (1,o9 a 1)
 else if o9 t.op 8 then (2,o9 a 2&&o9 b 2)
 else if o9 t.op 9 then (1,o9 a 2)
 else if o9 t.op 10 then (2,o9 a 2&&o9 b 1)
 else if o9 t.op 11||o9 t.op 12 then (1,o9 a b)
 else if o9 t.op 16 then (1,true)
 else if o9 t.op 17 then (a,o9 a b)
 else if o9 t.op 18 then (b,o9 a 1&&o9 b c)
 else (1,o9 a 1&&o9 b 1)
def good (x:Int):Prop:=x=1\/x=2
theorem EZ {l:List Int}(h:∀ x,x ∈ l->good x){i:Nat}(hn:nth l i≠0):good (nth l i):=by
 rcases u9 i l.length with hi|hi
 ·exact h _ (ay hi)
 ·exfalso;apply hn;simp [nth,hi]
theorem Ie {ty:List Int}(h:aU ty=true):∀ x,x ∈ ty->good x:=by
 intro x hx;have:=List.all_eq_true.1 h x hx;simpa [j9,good] using this
theorem Gd {op:Int}{ts:List Int}(h:∀ x,x ∈ ts->good x)(hn:fN op ts≠0):good (fN op ts):=by
 unfold fN at hn ⊢;split
 ·rename_i h1;rw [if_pos h1] at hn;split at hn<;>simp_all [good]
 rename_i h1;rw [if_neg h1] at hn;split
 ·rename_i h1;rw [if_pos h1] at hn;split at hn<;>simp_all [good]
 rename_i h1;rw [if_neg h1] at hn;split
 ·rename_i h1;rw [if_pos h1] at hn;split at hn<;>simp_all [good]
 rename_i h1;rw [if_neg h1] at hn;split
 ·rename_i h1;rw [if_pos h1] at hn;split at hn<;>simp_all [good]
 rename_i h1;rw [if_neg h1] at hn;split
 ·rename_i h1;rw [if_pos h1] at hn;split at hn<;>simp_all [good]
 rename_i h1;rw [if_neg h1] at hn;split
 ·exact Or.inl rfl
 rename_i h1;rw [if_neg h1] at hn;split
 ·rename_i h1;rw [if_pos h1] at hn
  split at hn
  ·rename_i h2;rw [if_pos h2];exact EZ h hn
  ·exact absurd rfl hn
 rename_i h1;rw [if_neg h1] at hn;split
 ·rename_i h1;rw [if_pos h1] at hn
  split at hn
  ·rename_i h2;rw [if_pos h2];exact EZ h hn
  ·exact absurd rfl hn
 rename_i h1;rw [if_neg h1] at hn;split at hn<;>simp_all [good]
mutual
theorem Gc {ty:List Int}(eg:aU ty=true):∀ a:aI,a.wf->o9 (a.typ ty).2 0=true->good (a.typ ty).1
 | .node t l,hw,h=>by
  obtain ⟨hok,har,Xc⟩:=hw;simp only [aI.typ] at h ⊢;split
  ·rename_i h1
   rw [if_pos h1] at h;have hl:=tU eg l Xc;simp only [Al] at h ⊢;split
   ·rename_i h2
    simp only [xR,dn,h2,if_true,Bool.and_eq_true,Bool.not_eq_true'] at hok;have h3:=hok.2.1.1;have h4:=hok.2.1.2;unfold fO at h3;simp only [h4,b7,if_false] at h3;unfold good;split at h3
    ·rename_i h5;exact Or.inl (X2 h5)
    ·split at h3
     ·rename_i h5;exact Or.inr (X2 h5)
     ·cases h3
   ·rename_i h2
    rw [if_neg h2] at h;split
    ·rename_i h3
     rw [if_pos h3] at h;split
     ·rename_i h4
      rw [if_pos h4] at h;simp [j9] at h
     ·rename_i h4
      have h5:=AR (Bool.not_eq_true _ ▸ h4);have h6:0<=t.col:=by
       simp only [xR,dn,h2,h3,if_true,b7,if_false,Bool.and_eq_true] at hok;exact qV hok.2.2
      exact Ie eg _ (ay (by omega))
    ·rename_i h3
     rw [if_neg h3] at h;split
     ·rename_i h4
      rw [if_pos h4] at h;simp [j9] at h
     ·rename_i h4
      exact Gd hl (by simpa [j9] using h4)
  ·rename_i h1
   rw [if_neg h1] at h;exact absurd h h1
theorem tU {ty:List Int}(eg:aU ty=true):∀ l:List aI,Uz l->∀ x,x ∈ (gm ty l).1->good x
 |[],_,x,h=>by simp [gm] at h
 |a::l,hw,x,h=>by
  simp only [gm] at h;split at h
  ·rename_i h1
   rcases C6.1 h with rfl|h
   ·exact Gc eg a hw.1 h1
   ·exact tU eg l hw.2 x h
  ·cases h
end
theorem Uw {ty:List Int}{t:aE}{ts:List Int}(hts:∀ x,x ∈ ts->good x)(hc:o9 t.op 2=true->W8 ty.length t.col=false)
  (h17:o9 t.op 17=true->0<ts.length) (h18:o9 t.op 18=true->1<ts.length) :
  Al ty t ts=if (Dd ty t (nth ts 0) (nth ts 1) (nth ts 2)).2 then ((Dd ty t (nth ts 0) (nth ts 1) (nth ts 2)).1,0) else (0,5):=by
 unfold Al Dd;cases d1:o9 t.op 1 with
 |true=>simp only [if_true]
 |false =>
 simp only [b7,if_false];cases d2:o9 t.op 2 with
 |true=>simp only [if_true,hc d2,b7,if_false]
 |false =>
 simp only [b7,if_false];have z1:o9 1 0=false:=by simp [j9]
 have z2:o9 2 0=false:=by simp [j9]
 have z0:o9 0 0=true:=by simp [j9]
 have VV:∀ (b:Bool) (x:Int),(b=true->o9 x 0=false)->(if o9 (if b=true then x else 0) 0=true then ((0:Int),(5:Int)) else (if b=true then x else 0,0))=if b=true then (x,0) else (0,5):=by
  intro b x h;cases b with
  |true=>simp [h rfl]
  |false=>simp [z0]
 have gz:∀ {i:Nat},i<ts.length->o9 (nth ts i) 0=false:=fun {i} hi=>by
  have:=hts _ (ay hi);unfold good at this;simp [j9];omega
 unfold fN;cases c1:(o9 t.op 3||o9 t.op 13) with
 |true=>simp only [if_true];exact VV _ _ fun _=>z1
 |false =>
 simp only [b7,if_false];cases c2:o9 t.op 8 with
 |true=>simp only [if_true];exact VV _ _ fun _=>z2
 |false =>
 simp only [b7,if_false];cases c3:o9 t.op 9 with
 |true=>simp only [if_true];exact VV _ _ fun _=>z1
 |false =>
 simp only [b7,if_false];cases c4:o9 t.op 10 with
 |true=>simp only [if_true];exact VV _ _ fun _=>z2
 |false =>
 simp only [b7,if_false];cases c5:(o9 t.op 11||o9 t.op 12) with
 |true=>simp only [if_true];exact VV _ _ fun _=>z1
 |false =>
 simp only [b7,if_false];cases c6:o9 t.op 16 with
 |true=>simp [z1]
 |false =>
 simp only [b7,if_false];cases c7:o9 t.op 17 with
 |true=>simp only [if_true];exact VV _ _ fun _=>gz (h17 c7)
 |false =>
 simp only [b7,if_false];cases c8:o9 t.op 18 with
 |true=>simp only [if_true];exact VV _ _ fun _=>gz (h18 c8)
 |false =>
 simp only [b7,if_false];exact VV _ _ fun _=>z1
end Go.y3


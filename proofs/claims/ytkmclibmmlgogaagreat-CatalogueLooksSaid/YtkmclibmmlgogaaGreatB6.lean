/- Texts P1 A42 A43 A44 A45 A46 A47 A48 A49 A50 A51 A52 A53 A54 A55 A56 A57 A58 A59 A60 A61 E1 E2 (made short by a program) -/
import Derived.Test.YtkmclibmmlgogaaGreatB5
set_option linter.unusedVariables false
set_option linter.unusedSimpArgs false
open Bool renaming false_eq_true → b7, or_eq_false_iff → L6
open List renaming drop_of_length_le → m6, getElem?_append_left → p7, getElem?_append_right → q8, getElem?_eq_getElem → o8, getElem?_eq_none → q9, map_cons → H8, mem_cons → x9, replicate → c9, take_of_length_le → q7
open Nat renaming add_assoc → I8, ble → J9, le_of_ble_eq_true → m8, le_refl → k9, lt_or_ge → p9
namespace Go.z7
def fA (x:Int):List Int->List Int
 |[]=>[x]
 |y::l=>if x<=y then x::y::l else y::fA x l
def O6:List Int->List Int
 |[]=>[]
 |x::l=>fA x (O6 l)
def gZ :List b6->Option (List Int)
 |[]=>some []
 | .d (.int .i64 n)::r=>match gZ r with
  |some xs=>some (n::xs)
  |none=>none
 |_=>none
def wX:List b6->o6->H7->Option (b6×o6)
 |[.J6,.d (.int .i64 n)],H,_=>if 0<=n/\n<=1000000 then some (.own 1 0 [],H) else none
 |_,_,_=>none
def wY:List b6->o6->H7->Option (b6×o6)
 |[.E3 id 1 lo len],H,l=>if l.may id&&J9 len 1000000 then match rd H id lo len with
   |some vs=>match gZ vs with
    |some xs=>match wr H id lo ((O6 xs).map fun n=> .d (.int .i64 n)) with
     |some H1=>some (.tuple [],H1)
     |none=>none
    |none=>none
   |none=>none
  else none
 |[.d (.slice 0 _)],H,_=>some (.tuple [],H)
 |_,_,_=>none
def O2:List Int->List Int
 |[]=>[]
 |[x]=>[x]
 |x::y::l=>if x=y then O2 (y::l) else x::O2 (y::l)
def gy:List b6->o6->H7->Option (b6×o6)
 |[.E3 id 1 lo len],H,l=>if l.may id&&J9 len 1000000 then match rd H id lo len with
   |some vs=>match gZ vs with
    |some xs=>match wr H id lo ((O2 xs++c9 (xs.length - (O2 xs).length) 0).map fun n=> .d (.int .i64 n)) with
     |some H1=>some (.E3 id 1 lo (O2 xs).length,H1)
     |none=>none
    |none=>none
   |none=>none
  else none
 |_,_,_=>none
section
variable {A:Prog} {l:H7} {b:Nat}
variable {dr:Bool} {j4 ops:List n9} {T:List b6} {H:o6} {n:Nat} {rl:List b6} {n7:List Touch} {Q:List b6->o6->List b6->Prop}
theorem Ex.OU {ops:List n9}{draw:Bool}{c:u5}{d e:p6}{T:List b6}{H:o6}{Q:E4->St->Prop}(t:Bool)
  (h:Rn A l b ops draw T H fun T' H' L=>T' =T/\H' =H/\∃ t',F8 T' L c= .d (.bool t')/\t' =t)
  (h2:t=true->Ex A l b d ⟨T,H⟩ Q) (h3:t=false->Ex A l b e ⟨T,H⟩ Q):Ex A l b (.test ops draw c d e) ⟨T,H⟩ Q:=by
 obtain ⟨r,N,⟨e1,e2,t',e3,rfl⟩,h⟩:=h;subst e1;subst e2;exact Ex.test ⟨r,N,⟨t',e3,h2,h3⟩,h⟩
theorem Ex.nT {c:p6}{T T2:List b6}{H:o6}{Q:E4->St->Prop}(h:Ex A l b c ⟨T2,H⟩ Q)(hT:T=T2:=by simp only [S5]<;>rfl):Ex A l b c ⟨T,H⟩ Q:=hT ▸ h
theorem Pf.run {f:FuncId}{af:q6}{args:List b6}{v:b6}(T:List b6)(hp:A.gB f=none)(hf:A.fn f=some af)(hn:args.length=af.nparams)
  (hT:args++c9 (af.names.length - args.length) .any=T) (h:Ex A cU 0 af.body ⟨T,[]⟩ fun x s=>∃ w,ki af 0 (some (x,s))=some (w,[])/\w=v):Pf A f args v :=
 Pf.Zv T hp hf hn hT (h.mono fun _ _ ⟨_,h1,h2⟩=>h2 ▸ h1)
theorem X5 {α:Type}:∀ {l:List α} {j:Nat} {v:α},l[j]? =some v->l.set j v=l
 |[],_,_,_=>rfl
 |a::l,0,v,h=>by simp at h;simp [h]
 |a::l,j+1,v,h=>by simp at h;simp [X5 h]
theorem Rx.OD {pre:List b6}{op:y6}{j:Nat}{want:Bool}{u:List Nat}(h:pre[j]? =some (.tuple []))(hk:E7 ⟨T,H,pre++ .any::c9 ops.length .any,n7⟩ op=false)(ha:op.A0=false)
  (h2:Rx A l b dr j4 ops T H (pre++[.tuple []]) n7 Q):Rx A l b dr j4 (⟨op,none,some (j,want),u⟩::ops) T H pre n7 Q:=by
 refine Rx.step (N1:=0) (rs:=[]) hk ha (fun n _=> ?_) (fun rs=>by simp [J8]) h2;simp only [y9,y5,oZ h,put,F5,u7,G4]
instance:Inhabited aG:=⟨⟨0,0,0,[],0⟩⟩
instance:Inhabited Y6:=⟨⟨[],0,[],[],[],0,0⟩⟩
instance:Inhabited fu:=⟨⟨[],[],0,0⟩⟩
instance:Inhabited KL:=⟨⟨[],[]⟩⟩
instance:Inhabited CN:=⟨⟨[],0,[]⟩⟩
instance:Inhabited Vw:=⟨⟨[],0,[],[],[],[],[],false,[]⟩⟩
instance:Inhabited iW:=⟨⟨[],[],0⟩⟩
instance:Inhabited iK:=⟨⟨[],[],0,0,0,0⟩⟩
instance:Inhabited kP:=⟨⟨[],[],0,0⟩⟩
instance:Inhabited jV:=⟨⟨[],[],0⟩⟩
instance:Inhabited nq:=⟨⟨[],[]⟩⟩
instance:Inhabited nj:=⟨⟨[],[],0⟩⟩
@[irreducible] def nth {α:Type} [Inhabited α] (l:List α) (i:Nat):α:=l[i]?.getD default
theorem K0 {α:Type} [Inhabited α] {l:List α}{i:Nat}(h:i<l.length):nth l i=l[i]:=by simp [nth,h]
theorem T9 {α:Type} [Inhabited α] (a:α)(l:List α):nth (a::l) 0=a:=by simp [nth]
theorem mA {α:Type} [Inhabited α] (a:α)(l:List α)(i:Nat):nth (a::l) (i+1)=nth l i:=by simp [nth]
theorem ah {α:Type} [Inhabited α] {l:List α}{i:Nat}(h:i<l.length):nth l i ∈ l:=by rw [K0 h];exact List.getElem_mem h
theorem A8 {α:Type} [Inhabited α] {l:List α}{i:Nat}(h:i<l.length):l.drop i=nth l i::l.drop (i+1):=by rw [K0 h];exact List.drop_eq_getElem_cons h
theorem F6 {α:Type} [Inhabited α] {l:List α}{i:Nat}(h:i<l.length):l.take (i+1)=l.take i++[nth l i]:=by rw [K0 h,List.take_append_getElem]
theorem iU {α:Type} [Inhabited α] {l:List α}{i j:Nat}(h:j<i)(hi:i<=l.length):(l.take i).drop j=nth l j::(l.take i).drop (j+1):=by
 rw [A8 (by simp;omega),K0 (by simp;omega),K0 (by omega)];simp
@[irreducible] def C7 (a b:Int):Bool:=decide (a<b)
@[irreducible] def W6 (a b:Int):Bool:=decide (a<=b)
@[irreducible] def o9 (a b:Int):Bool:=a==b
@[irreducible] def J4 (a b:List UInt8):Bool:=a==b
theorem p8 (a b:Int):C7 a b=decide (a<b):=by unfold C7;rfl
theorem p5 (a b:Int):W6 a b=decide (a<=b):=by unfold W6;rfl
theorem j9 (a b:Int):o9 a b=(a==b):=by unfold o9;rfl
theorem B7 (a b:List UInt8):J4 a b=(a==b):=by unfold J4;rfl
theorem A4 {a b:Int}(h:C7 a b=true):a<b:=by simpa [p8] using h
theorem z8 {a b:Int}(h:C7 a b=false):b<=a:=by simpa [p8] using h
theorem qD {a b:Int}(h:W6 a b=true):a<=b:=by simpa [p5] using h
theorem zS {a b:Int}(h:W6 a b=false):b<a:=by simpa [p5] using h
theorem X2 {a b:Int}(h:o9 a b=true):a=b:=by simpa [j9] using h
theorem qp {a b:Int}(h:o9 a b=false):a≠b:=by simpa [j9] using h
theorem ad4 {a b:List UInt8}(h:J4 a b=true):a=b:=by simpa [B7] using h
theorem TZ {a b:List UInt8}(h:J4 a b=false):a≠b:=by simpa [B7] using h
def n8 (n a b:Int):Bool:=W6 a n&&W6 n b
def Ry (A:Prog)(l:H7)(b:Nat)(dr:Bool)(j4 ops:List n9)(T:List b6)(H:o6)(n:Nat)(rl:List b6)(n7:List Touch)(Q:List b6->o6->List b6->Prop):Prop :=
 rl.length=n->Rx A l b dr j4 ops T H rl.reverse n7 Q
def lk (n:Nat)(rl:List b6)(j:Nat):Option b6:=match J9 (j+1) n with
 |true=>rl[n - (j+1)]?
 |false=>none
theorem fB (hn:rl.length=n)(j:Nat):rl.reverse[j]? =lk n rl j:=by
 subst hn;unfold lk;split
 ·rename_i h
  have h1:j+1<=rl.length:=m8 h;rw [List.getElem?_reverse (by omega)]
  congr 1
  omega
 ·rename_i h
  have h1:¬ j+1<=rl.length:=fun h2=>by rw [Nat.ble_eq_true_of_le h2] at h;cases h
  rw [q9 (by simp;omega)]
def Tq (T:List b6)(n:Nat)(rl:List b6):u5->Option b6
 | .slot s=>T[s]?
 | .loc j=>lk n rl j
 | .const v=>some v
def Oq (T:List b6)(n:Nat)(rl:List b6)(x:u5)(v:b6):Prop:=Tq T n rl x=some v/\v.G9=v
theorem Oq.op {x:u5}{v:b6}(h:Oq T n rl x v)(hn:rl.length=n):Op T rl.reverse x v:=by
 obtain ⟨h1,h2⟩:=h;refine ⟨?_,h2⟩;cases x with
 |slot s=>exact h1
 |loc j=>simp only [Vr,fB hn];exact h1
 |const u=>exact h1
def rq (T:List b6)(n:Nat)(rl:List b6):u5->b6
 | .const v=>v.Me
 |x=>((Tq T n rl x).getD .any).G9
theorem Oq.rq {x:u5}{v:b6}(h:Oq T n rl x v):z7.rq T n rl x=v:=by
 obtain ⟨h1,h2⟩:=h;cases x with
 |const u=>simp only [Tq,Option.some.injEq] at h1;subst h1;simp [z7.rq,MB h2]
 |_=>simp [z7.rq,h1,h2]
theorem Y5 (hn:rl.length=n)(m:Nat)(x:u5):z7.F8 T (rl.reverse++ .any::c9 m .any) x=rq T n rl x:=by
 cases x with
 |slot s=>simp [z7.F8,rq,Tq]
 |const v=>simp [z7.F8,rq,Tq]
 |loc j =>
  simp only [z7.F8,rq,Tq,<- fB hn,List.getD_eq_getElem?_getD]
  rcases p9 j rl.reverse.length with h|h
  ·rw [p7 h]
  ·rw [q8 h,q9 h]
   congr 1
   cases hk:j - rl.reverse.length with
   |zero=>rfl
   |succ k =>
    simp only [List.getElem?_cons_succ,List.getElem?_replicate];split<;>rfl
theorem Ry.to {v:b6}(h:Ry A l b dr j4 ops T H (n+1) (v::rl) n7 Q)(hn:rl.length=n):Rx A l b dr j4 ops T H (rl.reverse++[v]) n7 Q:=by
 have:=h (by simp [hn]);simpa using this
theorem Rn.text {T:List b6}{H:o6}(h:Ry A l b false ops ops T H 0 [] [] Q):Rn A l b ops false T H Q:=Rn.Rv (h rfl)
theorem Rn.draw {T:List b6}{H:o6}(h:Ry A l b true ops ops T H 0 [] [] Q)(hp:oO ops=true:=by rfl):Rn A l b ops true T H Q:=Rn.Ru hp (h rfl)
theorem Ry.pure {op:y6}{u:List Nat}{v:b6}{rs:List Nat}(hE:op.E2=false)(hp:m7 (rq T n rl) H op=some (v,rs))
  (h2:Ry A l b dr j4 ops T H (n+1) (v::rl) n7 Q):Ry A l b dr j4 (⟨op,none,none,u⟩::ops) T H n rl n7 Q:=fun hn=>by
 refine Rx.pure (rs:=rs) hE (fun m=> ?_) (h2.to hn);rw [show z7.F8 T (rl.reverse++ .any::c9 m .any)=rq T n rl from funext fun x=>Y5 hn m x];exact hp
theorem Ry.xg {op:y6}{u:List Nat}{v:b6}{rs:List Nat}{s:Nat}(hE:op.E2=false)(hp:m7 (rq T n rl) H op=some (v,rs))(hv:v.G9=v)(hm:op.A0=false)(hs:T[s]?.isSome=true)
  (h2:Ry A l b dr j4 ops (T.set s v) H (n+1) (v::rl) (.slot s::n7) Q):Ry A l b dr j4 (⟨op,some s,none,u⟩::ops) T H n rl n7 Q:=fun hn=>by
 have hs:s<T.length:=by
  rcases p9 s T.length with h|h
  ·exact h
  ·rw [q9 h] at hs;cases hs
 have YX:∀ x,op≠ .N8 x:=by
  rintro x rfl;simp [m7] at hp
 refine Rx.step (N1:=0) (rs:=rs) ?_ hm (fun m _=> ?_) (fZ s n7) (h2.to hn)
 ·cases op<;>first|rfl|(simp [y6.E2] at hE)
 ·have h3:D7 (K4 A m l b) j4 none rl.reverse.length op ⟨T,H,rl.reverse++ .any::c9 ops.length .any,n7⟩=some (⟨T,H,rl.reverse++v::c9 ops.length .any,n7⟩,rs):=by
   have h4:m7 (z7.F8 T (rl.reverse++ .any::c9 ops.length .any)) H op=some (v,rs):=by
    rw [show z7.F8 T (rl.reverse++ .any::c9 ops.length .any)=rq T n rl from funext fun x=>Y5 hn _ x];exact hp
   cases op<;>first
    |exact absurd rfl (YX _)
    |(simp only [D7,hE,b7,if_false,h4,put,F5];done)
    |(simp [y6.E2] at hE;done)
  have h5:z7.D8 ⟨T,H,rl.reverse++v::c9 ops.length .any,n7⟩ (.loc rl.reverse.length)=(v,⟨T,H,rl.reverse++v::c9 ops.length .any,n7⟩):=by
   simp only [z7.D8,q8 (k9 _),Nat.sub_self,List.getElem?_cons_zero];split
   ·rename_i heq
    cases heq;simp [b6.G9] at hv
   ·simp [z7.F8,hv]
  simp only [y9,y5,h3,u7,G4,hs,if_true,h5]
theorem Ry.fork {j:Nat}{w:Bool}(h:lk n rl j=some (.d (.bool w)))(hj:J9 (j+1) n=true)(h1:w=true->Ry A l b dr j4 ops T H n (rl.set (n - (j+1)) (.d (.bool true))) n7 Q)
  (h2:w=false->Ry A l b dr j4 ops T H n (rl.set (n - (j+1)) (.d (.bool false))) n7 Q):Ry A l b dr j4 ops T H n rl n7 Q:=by
 simp only [lk,hj] at h;cases w with
 |true=>have:=h1 rfl;rwa [X5 h] at this
 |false=>have:=h2 rfl;rwa [X5 h] at this
theorem Aq {α:Type}{enc:α->List Data}{sz:Nat}(hs:∀ a,(enc a).length=sz):∀ (l:List α) (i:Nat),(l.flatMap enc).take (i * sz)=(l.take i).flatMap enc
 |[],i=>by simp
 |a::l,0=>by simp
 |a::l,i+1=>by
  have h1:=Aq hs l i;simp only [List.flatMap_cons,List.take_succ_cons];rw [List.take_append,hs a,Nat.succ_mul,Nat.add_sub_cancel,h1];rw [q7 (by rw [hs a];omega)]
theorem gm {α:Type}{enc:α->List Data}{sz:Nat}(hs:∀ a,(enc a).length=sz):∀ (l:List α),(l.flatMap enc).length=l.length * sz
 |[]=>by simp
 |a::l=>by simp [hs a,gm hs l,Nat.succ_mul,Nat.add_comm]
theorem sF {α:Type}{enc:α->List Data}{sz:Nat}(hs:∀ a,(enc a).length=sz):∀ (l:List α) (i:Nat),(l.flatMap enc).drop (i * sz)=(l.drop i).flatMap enc
 |[],i=>by simp
 |a::l,0=>by simp
 |a::l,i+1=>by
  have h1:=sF hs l i;simp only [List.flatMap_cons,List.drop_succ_cons];rw [List.drop_append,hs a,Nat.succ_mul,Nat.add_sub_cancel,h1];rw [List.drop_eq_nil_of_le (by rw [hs a];omega)];rfl
theorem xz {α:Type}{enc:α->List Data}{sz:Nat}(hs:∀ a,(enc a).length=sz)(l:List α)(lo hi:Nat)(h1:lo<=hi)(h2:hi<=l.length) :
  Data.slice ((hi:Int) - lo).toNat (((l.flatMap enc).take (hi * sz)).drop (lo * sz))=A5 enc ((l.take hi).drop lo):=by
 rw [Aq hs,sF hs,A5]
 congr 1
 simp;omega
def B4 {α:Type}(sz:Nat)(enc:α->List Data)(xs:List α):b6:= .own sz xs.length (xs.flatMap enc)
theorem Ce {j:Nat}(hn:rl.length=n)(hb:J9 (j+1) n=true)(v:b6):rl.reverse.set j v=(rl.set (n - (j+1)) v).reverse:=by
 have hb' :j+1<=rl.length:=by rw [hn];exact m8 hb
 apply List.ext_getElem?;intro i
 rcases p9 i rl.length with hi|hi
 ·have e1:(rl.set (n - (j+1)) v).reverse[i]? =(rl.set (n - (j+1)) v)[(rl.set (n - (j+1)) v).length - 1 - i]? :=List.getElem?_reverse (by simp;omega)
  have e2:rl.reverse[i]? =rl[rl.length - 1 - i]? :=List.getElem?_reverse (by omega);rw [List.getElem?_set,e2,e1,List.getElem?_set];simp only [List.length_reverse,List.length_set];subst hn
  by_cases hji:j=i
  ·subst hji
   rw [if_pos rfl,if_pos (by omega),if_pos (by omega),if_pos (by omega)]
  ·rw [if_neg hji,if_neg (by omega)]
 ·rw [q9 (by simp;omega),q9 (by simp;omega)]
theorem Rx.Qv {pre:List b6}{j sz bytes:Nat}{y:u5}{u:List Nat}{len m:Nat}{cells new:List Data}{vy:b6}{cs:List b6}
  (hj:pre[j]? =some (.own sz len cells)) (hy:∀ m,z7.F8 T (pre++ .any::c9 m .any) y=vy) (hc:J7 H sz vy=some (m,cs)) (hd:M9 cs=some new) (hr:roomFor (len+m) bytes=true) (h0:0<sz)
  (h2:Rx A l b dr j4 ops T H (pre.set j (.d (.slice len cells))++[.own sz (len+m) (cells++new)]) n7 Q):Rx A l b dr j4 (⟨.append sz bytes false (.loc j) y,none,none,u⟩::ops) T H pre n7 Q:=by
 have hjl:j<pre.length:=by
  rcases p9 j pre.length with hj' |hj'
  ·exact hj'
  ·rw [q9 hj'] at hj;cases hj
 have hL:∀ r:List b6,(pre++ .any::r)[j]? =some (.own sz len cells):=fun r=>by rw [p7 hjl,hj]
 have wz:z7.F8 T (pre++ .any::c9 ops.length .any) (.loc j)= .d (.slice len cells):=by simp [z7.F8,hL,b6.G9]
 have hl:(pre.set j (.d (.slice len cells))).length=pre.length:=by simp
 have h3:∀ (a:b6) (r:List b6),(pre++a::r).set j (.d (.slice len cells))=pre.set j (.d (.slice len cells))++a::r:=fun a r=>List.set_append_left _ _ hjl
 have h4:∀ (a v:b6) (r:List b6),(pre.set j (.d (.slice len cells))++a::r).set pre.length v=pre.set j (.d (.slice len cells))++v::r:=fun a v r=>by rw [<- hl];exact F5 _ _ _ _
 refine Rx.stepG (N1:=0) (rs:=[]) hl (by simp only [E7,wz]) rfl (fun n _=> ?_) (fun rs=>by simp [J8]) h2;simp only [y9,y5,D7,y6.E2,if_true,E9,wz,K5,hy,hc,hd,b7,if_false,P6,hL,hr,h0,and_self,put,h3,h4,u7,G4]
theorem fV:∀ l:List Data,M9 (l.map .d)=some l
 |[]=>rfl
 |a::l=>by simp [M9,b6.data?,fV l]
theorem Ry.Yj {j s sz bytes:Nat}{y:u5}{u u' :List Nat}{d' :Option Nat}{g' :Option (Nat×Bool)}{n' len m:Nat}{cs' cells new:List Data}
  (hj:lk n rl j=some (.d (.slice n' cs'))) (ha:j4[j]? =some ⟨.N8 (.slot s),d',g',u'⟩) (ht:n7.any (Touch.R1 s)=false) (hT:T[s]? =some (.own sz len cells))
  (hy:rq T n rl y= .d (.slice m new)) (hl:new.length=m * sz) (hr:roomFor (len+m) bytes=true) (h0:0<sz)
  (h2:Ry A l b dr j4 ops (T.set s (.d (.slice len cells))) H (n+1) (.own sz (len+m) (cells++new)::rl) (.slot s::n7) Q):Ry A l b dr j4 (⟨.append sz bytes false (.loc j) y,none,none,u⟩::ops) T H n rl n7 Q:=fun hn =>
 Rx.append (vy:= .d (.slice m new)) (by rw [fB hn];exact hj) ha ht hT (fun k=>by rw [Y5 hn];exact hy) (by simp only [J7,hl,if_true]) (fV new) hr h0 (h2.to hn)
theorem Ry.Uw {j sz bytes:Nat}{y:u5}{u:List Nat}{len m:Nat}{cells new:List Data}(hj:lk n rl j=some (.own sz len cells))(hb:J9 (j+1) n=true)
  (hy:rq T n rl y= .d (.slice m new)) (hl:new.length=m * sz) (hr:roomFor (len+m) bytes=true) (h0:0<sz)
  (h2:Ry A l b dr j4 ops T H (n+1) (.own sz (len+m) (cells++new)::rl.set (n - (j+1)) (.d (.slice len cells))) n7 Q):Ry A l b dr j4 (⟨.append sz bytes false (.loc j) y,none,none,u⟩::ops) T H n rl n7 Q:=fun hn=>by
 refine Rx.Qv (vy:= .d (.slice m new)) (by rw [fB hn];exact hj) (fun k=>by rw [Y5 hn];exact hy) (by simp only [J7,hl,if_true]) (fV new) hr h0 ?_;have h3:=h2.to (by simp [hn]);rw [Ce hn hb];exact h3
namespace S
theorem nl (h:Q T H rl.reverse):Ry A l b dr j4 [] T H n rl n7 Q:=fun _=>Rx.nil h
theorem mv {x:u5}{v:b6}{u:List Nat}(h2:Ry A l b dr j4 ops T H (n+1) (v::rl) n7 Q)(hx:Oq T n rl x (v):=by exact ⟨rfl,rfl⟩) :
  Ry A l b dr j4 (⟨.N8 x,none,none,u⟩::ops) T H n rl n7 Q:=fun hn=>Rx.N8 (hx.op hn) (h2.to hn)
theorem mt {x:u5}{v:b6}{s:Nat}{T2:List b6}{u:List Nat}(hx:Oq T n rl x (v):=by exact ⟨rfl,rfl⟩)(hs:T[s]?.isSome=true:=by rfl)(hT:T.set s v=T2:=by simp only [List.set_cons_zero,List.set_cons_succ]<;>rfl)(h2:Ry A l b dr j4 ops T2 H (n+1) (v::rl) (.slot s::n7) Q) :
  Ry A l b dr j4 (⟨.N8 x,some s,none,u⟩::ops) T H n rl n7 Q:=fun hn=>Rx.Zo (hx.op hn) hs (by rw [hT];exact h2.to hn)
theorem mo {s z n0:Nat}{cs:List Data}{u:List Nat}(h2:Ry A l b dr j4 ops T H (n+1) (.d (.slice n0 cs)::rl) n7 Q)(hx:T[s]? =some (.own z n0 cs):=by rfl) :
  Ry A l b dr j4 (⟨.N8 (.slot s),none,none,u⟩::ops) T H n rl n7 Q:=fun hn=>Rx.Vj hx (h2.to hn)
theorem mw {j s z n0:Nat}{cs:List Data}{u:List Nat}{T2:List b6}(hj:lk n rl j=some (.own z n0 cs):=by rfl)(hb:J9 (j+1) n=true:=by rfl)(hs:T[s]?.isSome=true:=by rfl)(hT:T.set s (.own z n0 cs)=T2:=by simp only [List.set_cons_zero,List.set_cons_succ]<;>rfl)
  (h2:Ry A l b dr j4 ops T2 H (n+1) (.d (.slice n0 cs)::rl.set (n - (j+1)) (.d (.slice n0 cs))) (.slot s::n7) Q):Ry A l b dr j4 (⟨.N8 (.loc j),some s,none,u⟩::ops) T H n rl n7 Q:=fun hn=>by
 refine Rx.Nr (by rw [fB hn];exact hj) hs ?_;have h3:=h2.to (by simp [hn]);rw [hT,Ce hn hb];exact h3
theorem ow {s z n0:Nat}{cs:List Data}{T2:List b6}{u:List Nat}(hs:T[s]?.isSome=true:=by rfl)(hT:T.set s (.own z n0 cs)=T2:=by simp only [List.set_cons_zero,List.set_cons_succ]<;>rfl)(h2:Ry A l b dr j4 ops T2 H (n+1) (.d (.slice n0 cs)::rl) (.slot s::n7) Q) :
  Ry A l b dr j4 (⟨.N8 (.const (.own z n0 cs)),some s,none,u⟩::ops) T H n rl n7 Q:=fun hn=>Rx.Zw hs (by rw [hT];exact h2.to hn)
theorem ad {x y:u5}{c d:Int}{u:List Nat}(h2:Ry A l b dr j4 ops T H (n+1) (.d (.int .i64 (c+d))::rl) n7 Q)(hx:rq T n rl x= .d (.int .i64 c):=by rfl)(hy:rq T n rl y= .d (.int .i64 d):=by rfl)(h0: -9223372036854775808<=c+d/\c+d<9223372036854775808:=by first|omega|(simp only [n8,Bool.and_eq_true,p8,p5,j9,beq_eq_false_iff_ne,beq_iff_eq,decide_eq_true_eq,decide_eq_false_iff_not,Bool.not_eq_true',Bool.not_eq_false'] at *;omega)) :
  Ry A l b dr j4 (⟨.bin .add x y,none,none,u⟩::ops) T H n rl n7 Q:=Ry.pure (rs:=[]) rfl (by simp only [m7,hx,hy,Bl (Or.inl ⟨rfl,rfl⟩) h0.1 h0.2]) h2
theorem sb {x y:u5}{c d:Int}{u:List Nat}(h2:Ry A l b dr j4 ops T H (n+1) (.d (.int .i64 (c - d))::rl) n7 Q)(hx:rq T n rl x= .d (.int .i64 c):=by rfl)(hy:rq T n rl y= .d (.int .i64 d):=by rfl)(h0: -9223372036854775808<=c - d/\c - d<9223372036854775808:=by first|omega|(simp only [n8,Bool.and_eq_true,p8,p5,j9,beq_eq_false_iff_ne,beq_iff_eq,decide_eq_true_eq,decide_eq_false_iff_not,Bool.not_eq_true',Bool.not_eq_false'] at *;omega)) :
  Ry A l b dr j4 (⟨.bin .sub x y,none,none,u⟩::ops) T H n rl n7 Q:=Ry.pure (rs:=[]) rfl (by simp only [m7,hx,hy,Bl (Or.inr ⟨rfl,rfl⟩) h0.1 h0.2]) h2
theorem li {x y:u5}{k:IntKind}{c d:Int}{u:List Nat}(h2:Ry A l b dr j4 ops T H (n+1) (.d (.bool (C7 c d))::rl) n7 Q)(hx:rq T n rl x= .d (.int k c):=by rfl)(hy:rq T n rl y= .d (.int k d):=by rfl) :
  Ry A l b dr j4 (⟨.bin .lss x y,none,none,u⟩::ops) T H n rl n7 Q:=Ry.pure (rs:=[]) rfl (by simp [m7,hx,hy,L7,W2,aO,p8,p5,j9,bne]) h2
theorem lo {x y:u5}{k:IntKind}{c d:Int}{u:List Nat}(h2:Ry A l b dr j4 ops T H (n+1) (.d (.bool (W6 c d))::rl) n7 Q)(hx:rq T n rl x= .d (.int k c):=by rfl)(hy:rq T n rl y= .d (.int k d):=by rfl) :
  Ry A l b dr j4 (⟨.bin .leq x y,none,none,u⟩::ops) T H n rl n7 Q:=Ry.pure (rs:=[]) rfl (by simp [m7,hx,hy,L7,W2,aO,p8,p5,j9,bne]) h2
theorem gi {x y:u5}{k:IntKind}{c d:Int}{u:List Nat}(h2:Ry A l b dr j4 ops T H (n+1) (.d (.bool (C7 d c))::rl) n7 Q)(hx:rq T n rl x= .d (.int k c):=by rfl)(hy:rq T n rl y= .d (.int k d):=by rfl) :
  Ry A l b dr j4 (⟨.bin .gtr x y,none,none,u⟩::ops) T H n rl n7 Q:=Ry.pure (rs:=[]) rfl (by simp [m7,hx,hy,L7,W2,aO,p8,p5,j9,bne]) h2
theorem go {x y:u5}{k:IntKind}{c d:Int}{u:List Nat}(h2:Ry A l b dr j4 ops T H (n+1) (.d (.bool (W6 d c))::rl) n7 Q)(hx:rq T n rl x= .d (.int k c):=by rfl)(hy:rq T n rl y= .d (.int k d):=by rfl) :
  Ry A l b dr j4 (⟨.bin .geq x y,none,none,u⟩::ops) T H n rl n7 Q:=Ry.pure (rs:=[]) rfl (by simp [m7,hx,hy,L7,W2,aO,p8,p5,j9,bne]) h2
theorem ei {x y:u5}{k:IntKind}{c d:Int}{u:List Nat}(h2:Ry A l b dr j4 ops T H (n+1) (.d (.bool (o9 c d))::rl) n7 Q)(hx:rq T n rl x= .d (.int k c):=by rfl)(hy:rq T n rl y= .d (.int k d):=by rfl) :
  Ry A l b dr j4 (⟨.bin .eql x y,none,none,u⟩::ops) T H n rl n7 Q:=Ry.pure (rs:=[]) rfl (by simp [m7,hx,hy,L7,W2,aO,p8,p5,j9,bne]) h2
theorem ni {x y:u5}{k:IntKind}{c d:Int}{u:List Nat}(h2:Ry A l b dr j4 ops T H (n+1) (.d (.bool (!o9 c d))::rl) n7 Q)(hx:rq T n rl x= .d (.int k c):=by rfl)(hy:rq T n rl y= .d (.int k d):=by rfl) :
  Ry A l b dr j4 (⟨.bin .neq x y,none,none,u⟩::ops) T H n rl n7 Q:=Ry.pure (rs:=[]) rfl (by simp [m7,hx,hy,L7,W2,aO,p8,p5,j9,bne]) h2
theorem es {x y:u5}{c d:List UInt8}{u:List Nat}(h2:Ry A l b dr j4 ops T H (n+1) (.d (.bool (J4 c d))::rl) n7 Q)(hx:rq T n rl x= .d (.str c):=by rfl)(hy:rq T n rl y= .d (.str d):=by rfl) :
  Ry A l b dr j4 (⟨.bin .eql x y,none,none,u⟩::ops) T H n rl n7 Q:=Ry.pure (rs:=[]) rfl (by simp [m7,hx,hy,L7,sx,B7]) h2
theorem ns {x y:u5}{c d:List UInt8}{u:List Nat}(h2:Ry A l b dr j4 ops T H (n+1) (.d (.bool (!J4 c d))::rl) n7 Q)(hx:rq T n rl x= .d (.str c):=by rfl)(hy:rq T n rl y= .d (.str d):=by rfl) :
  Ry A l b dr j4 (⟨.bin .neq x y,none,none,u⟩::ops) T H n rl n7 Q:=Ry.pure (rs:=[]) rfl (by simp [m7,hx,hy,L7,sx,B7]) h2
theorem ng {x:u5}{t:Bool}{u:List Nat}(h2:Ry A l b dr j4 ops T H (n+1) (.d (.bool (!t))::rl) n7 Q)(hx:rq T n rl x= .d (.bool t):=by rfl) :
  Ry A l b dr j4 (⟨.un .not x,none,none,u⟩::ops) T H n rl n7 Q:=Ry.pure (rs:=[]) rfl (by simp only [m7,hx,xZ]) h2
theorem ln {α:Type}{enc:α->List Data}{xs:List α}{x:u5}{u:List Nat}(h2:Ry A l b dr j4 ops T H (n+1) (.d (.int .i64 (xs.length:Int))::rl) n7 Q)(hx:rq T n rl x= .d (A5 enc xs):=by rfl) :
  Ry A l b dr j4 (⟨.len x,none,none,u⟩::ops) T H n rl n7 Q:=Ry.pure (rs:=[]) rfl (by simp only [m7,hx,A5,i64]) h2
theorem ls {x:u5}{m:Nat}{cs:List Data}{u:List Nat}(h2:Ry A l b dr j4 ops T H (n+1) (.d (.int .i64 (m:Int))::rl) n7 Q)(hx:rq T n rl x= .d (.slice m cs):=by rfl) :
  Ry A l b dr j4 (⟨.len x,none,none,u⟩::ops) T H n rl n7 Q:=Ry.pure (rs:=[]) rfl (by simp only [m7,hx,i64]) h2
theorem lnT {α:Type}{enc:α->List Data}{xs:List α}{x:u5}{s:Nat}{T2:List b6}{u:List Nat}(hx:rq T n rl x= .d (A5 enc xs):=by rfl)(hs:T[s]?.isSome=true:=by rfl)(hT:T.set s (.d (.int .i64 (xs.length:Int)))=T2:=by simp only [List.set_cons_zero,List.set_cons_succ]<;>rfl)(h2:Ry A l b dr j4 ops T2 H (n+1) (.d (.int .i64 (xs.length:Int))::rl) (.slot s::n7) Q) :
  Ry A l b dr j4 (⟨.len x,some s,none,u⟩::ops) T H n rl n7 Q:=Ry.xg (v:= .d (.int .i64 (xs.length:Int))) (rs:=[]) rfl (by simp only [m7,hx,A5,i64]) rfl rfl hs (by rw [hT];exact h2)
theorem lsT {m:Nat}{cs:List Data}{x:u5}{s:Nat}{T2:List b6}{u:List Nat}(hx:rq T n rl x= .d (.slice m cs):=by rfl)(hs:T[s]?.isSome=true:=by rfl)(hT:T.set s (.d (.int .i64 (m:Int)))=T2:=by simp only [List.set_cons_zero,List.set_cons_succ]<;>rfl)(h2:Ry A l b dr j4 ops T2 H (n+1) (.d (.int .i64 (m:Int))::rl) (.slot s::n7) Q) :
  Ry A l b dr j4 (⟨.len x,some s,none,u⟩::ops) T H n rl n7 Q:=Ry.xg (v:= .d (.int .i64 (m:Int))) (rs:=[]) rfl (by simp only [m7,hx,i64]) rfl rfl hs (by rw [hT];exact h2)
theorem ldT {c:Data}{cs:List Data}{x:u5}{s:Nat}{T2:List b6}{u:List Nat}(hx:rq T n rl x= .Q9 (c::cs):=by rfl)(hs:T[s]?.isSome=true:=by rfl)(hT:T.set s (.d c)=T2:=by simp only [List.set_cons_zero,List.set_cons_succ]<;>rfl)(h2:Ry A l b dr j4 ops T2 H (n+1) (.d c::rl) (.slot s::n7) Q) :
  Ry A l b dr j4 (⟨.load none x,some s,none,u⟩::ops) T H n rl n7 Q:=Ry.xg (v:= .d c) (rs:=[]) rfl (by simp only [m7,hx]) rfl rfl hs (by rw [hT];exact h2)
theorem lpT {v:b6}{id o:Nat}{x:u5}{s:Nat}{T2:List b6}{u:List Nat}(hx:rq T n rl x= .ptr id o:=by rfl)(hr:rd H id o 1=some [v]:=by rfl)(hv:v.G9=v:=by rfl)(hs:T[s]?.isSome=true:=by rfl)(hT:T.set s v=T2:=by simp only [List.set_cons_zero,List.set_cons_succ]<;>rfl)(h2:Ry A l b dr j4 ops T2 H (n+1) (v::rl) (.slot s::n7) Q) :
  Ry A l b dr j4 (⟨.load none x,some s,none,u⟩::ops) T H n rl n7 Q:=Ry.xg (v:=v) (rs:=[id]) rfl (by simp only [m7,hx,hr,hv]) hv rfl hs (by rw [hT];exact h2)
theorem lt {x:u5}{s:List UInt8}{u:List Nat}(h2:Ry A l b dr j4 ops T H (n+1) (.d (.int .i64 (s.length:Int))::rl) n7 Q)(hx:rq T n rl x= .d (.str s):=by rfl) :
  Ry A l b dr j4 (⟨.U7 x,none,none,u⟩::ops) T H n rl n7 Q:=Ry.pure (rs:=[]) rfl (by simp only [m7,hx,i64]) h2
theorem ix {α:Type} [Inhabited α] {enc:α->List Data}{xs:List α}{sz i:Nat}{x y:u5}{k:IntKind}{u:List Nat}(hx:rq T n rl x= .d (A5 enc xs):=by rfl)(hy:rq T n rl y= .d (.int k ((i:Nat):Int)):=by rfl)(hs:∀ a,(enc a).length=sz:=by intro;rfl)(hi:i<xs.length:=by first|omega|(simp only [n8,Bool.and_eq_true,p8,p5,j9,beq_eq_false_iff_ne,beq_iff_eq,decide_eq_true_eq,decide_eq_false_iff_not,Bool.not_eq_true',Bool.not_eq_false'] at *;omega))(h2:Ry A l b dr j4 ops T H (n+1) (.Q9 (enc (nth xs i)++(xs.drop (i+1)).flatMap enc)::rl) n7 Q) :
  Ry A l b dr j4 (⟨.C3 sz x y,none,none,u⟩::ops) T H n rl n7 Q:=Ry.pure (rs:=[]) rfl (by
  have h1:(i:Int)<xs.length:=by omega
  have h3:=MG hs xs i hi;rw [<- K0 hi] at h3;simp only [m7,hx,hy,A5,Int.natCast_nonneg,h1,and_self,if_true,h3]) h2
theorem ixN {α:Type} [Inhabited α] {enc:α->List Data}{xs:List α}{sz i:Nat}{x y:u5}{k:IntKind}{u:List Nat}(hx:rq T n rl x= .d (A5 enc xs):=by rfl)(hy:rq T n rl y= .d (.int k (OfNat.ofNat i)):=by rfl)(hs:∀ a,(enc a).length=sz:=by intro;rfl)(hi:i<xs.length:=by first|omega|(simp only [n8,Bool.and_eq_true,p8,p5,j9,beq_eq_false_iff_ne,beq_iff_eq,decide_eq_true_eq,decide_eq_false_iff_not,Bool.not_eq_true',Bool.not_eq_false'] at *;omega))(h2:Ry A l b dr j4 ops T H (n+1) (.Q9 (enc (nth xs i)++(xs.drop (i+1)).flatMap enc)::rl) n7 Q) :
  Ry A l b dr j4 (⟨.C3 sz x y,none,none,u⟩::ops) T H n rl n7 Q:=ix hx hy hs hi h2
theorem Vd {α:Type} [Inhabited α] {enc:α->List Data}{xs:List α}{sz:Nat}{e:Int}{x y:u5}{k:IntKind}{u:List Nat}(i:Nat)(he:e=i:=by first|omega|(simp only [n8,Bool.and_eq_true,p8,p5,j9,beq_eq_false_iff_ne,beq_iff_eq,decide_eq_true_eq,decide_eq_false_iff_not,Bool.not_eq_true',Bool.not_eq_false'] at *;omega))(hx:rq T n rl x= .d (A5 enc xs):=by rfl)(hy:rq T n rl y= .d (.int k e):=by rfl)(hs:∀ a,(enc a).length=sz:=by intro;rfl)(hi:i<xs.length:=by first|omega|(simp only [n8,Bool.and_eq_true,p8,p5,j9,beq_eq_false_iff_ne,beq_iff_eq,decide_eq_true_eq,decide_eq_false_iff_not,Bool.not_eq_true',Bool.not_eq_false'] at *;omega))(h2:Ry A l b dr j4 ops T H (n+1) (.Q9 (enc (nth xs i)++(xs.drop (i+1)).flatMap enc)::rl) n7 Q) :
  Ry A l b dr j4 (⟨.C3 sz x y,none,none,u⟩::ops) T H n rl n7 Q:=ix hx (he ▸ hy) hs hi h2
theorem ixZ {α:Type} [Inhabited α] {enc:α->List Data}{xs:List α}{sz:Nat}{e:Int}{x y:u5}{k:IntKind}{u:List Nat}(hx:rq T n rl x= .d (A5 enc xs):=by rfl)(hy:rq T n rl y= .d (.int k e):=by rfl)(hs:∀ a,(enc a).length=sz:=by intro;rfl)(hi:0<=e/\e<xs.length:=by first|omega|(simp only [n8,Bool.and_eq_true,p8,p5,j9,beq_eq_false_iff_ne,beq_iff_eq,decide_eq_true_eq,decide_eq_false_iff_not,Bool.not_eq_true',Bool.not_eq_false'] at *;omega))(h2:Ry A l b dr j4 ops T H (n+1) (.Q9 (enc (nth xs e.toNat)++(xs.drop (e.toNat+1)).flatMap enc)::rl) n7 Q) :
  Ry A l b dr j4 (⟨.C3 sz x y,none,none,u⟩::ops) T H n rl n7 Q:=ix hx (by rw [hy,Int.toNat_of_nonneg hi.1]) hs (by omega) h2
theorem ld {x:u5}{c:Data}{cs:List Data}{u:List Nat}(h2:Ry A l b dr j4 ops T H (n+1) (.d c::rl) n7 Q)(hx:rq T n rl x= .Q9 (c::cs):=by rfl) :
  Ry A l b dr j4 (⟨.load none x,none,none,u⟩::ops) T H n rl n7 Q:=Ry.pure (rs:=[]) rfl (by simp only [m7,hx]) h2
theorem le {x:u5}{cs rest:List Data}{m:Nat}{u:List Nat}(h2:Ry A l b dr j4 ops T H (n+1) (.agg (cs.map .d)::rl) n7 Q)(hx:rq T n rl x= .Q9 (cs++rest):=by rfl)(hm:cs.length=m:=by rfl) :
  Ry A l b dr j4 (⟨.load (some m) x,none,none,u⟩::ops) T H n rl n7 Q:=Ry.pure (rs:=[]) rfl (by subst hm;simp [m7,hx]) h2
theorem lf {x:u5}{k:Nat}{cs:List Data}{u:List Nat}(h2:Ry A l b dr j4 ops T H (n+1) (.Q9 (cs.drop k)::rl) n7 Q)(hx:rq T n rl x= .Q9 cs:=by rfl) :
  Ry A l b dr j4 (⟨.off k x,none,none,u⟩::ops) T H n rl n7 Q:=Ry.pure (rs:=[]) rfl (by simp only [m7,hx]) h2
theorem fp {x:u5}{k id o:Nat}{u:List Nat}(h2:Ry A l b dr j4 ops T H (n+1) (.ptr id (o+k)::rl) n7 Q)(hx:rq T n rl x= .ptr id o:=by rfl) :
  Ry A l b dr j4 (⟨.off k x,none,none,u⟩::ops) T H n rl n7 Q:=Ry.pure (rs:=[]) rfl (by simp only [m7,hx]) h2
theorem lp {x:u5}{id o:Nat}{v:b6}{u:List Nat}(h2:Ry A l b dr j4 ops T H (n+1) (v::rl) n7 Q)(hx:rq T n rl x= .ptr id o:=by rfl)(hr:rd H id o 1=some [v]:=by rfl)(hv:v.G9=v:=by rfl) :
  Ry A l b dr j4 (⟨.load none x,none,none,u⟩::ops) T H n rl n7 Q:=Ry.pure (rs:=[id]) rfl (by simp only [m7,hx,hr,hv]) h2
theorem lpo {x:u5}{id o z m:Nat}{cs:List Data}{u:List Nat}(h2:Ry A l b dr j4 ops T H (n+1) (.d (.slice m cs)::rl) n7 Q)(hx:rq T n rl x= .ptr id o:=by rfl)(hr:rd H id o 1=some [.own z m cs]:=by rfl) :
  Ry A l b dr j4 (⟨.load none x,none,none,u⟩::ops) T H n rl n7 Q:=Ry.pure (rs:=[id]) rfl (by simp only [m7,hx,hr,b6.G9]) h2
theorem lq {x:u5}{m id:Nat}{cs:List b6}{u:List Nat}(h2:Ry A l b dr j4 ops T H (n+1) (.agg cs::rl) n7 Q)(hx:rq T n rl x= .ptr id 0:=by rfl)(hr:H[id]? =some (.cells cs):=by rfl)(hm:cs.length=m:=by rfl)(hv:cs.map b6.G9=cs:=by rfl) :
  Ry A l b dr j4 (⟨.load (some m) x,none,none,u⟩::ops) T H n rl n7 Q:=Ry.pure (rs:=[id]) rfl (by subst hm;simp [m7,hx,rd,hr,hv]) h2
theorem et {x:u5}{i:Nat}{vs:List b6}{v:b6}{u:List Nat}(h2:Ry A l b dr j4 ops T H (n+1) (v::rl) n7 Q)(hx:rq T n rl x= .tuple vs:=by rfl)(hv:vs[i]? =some v:=by rfl) :
  Ry A l b dr j4 (⟨.extract x i,none,none,u⟩::ops) T H n rl n7 Q:=Ry.pure (rs:=[]) rfl (by simp only [m7,hx,hv]) h2
theorem wa {op:y6}{dst:Option Nat}{j:Nat}{want:Bool}{u:List Nat}(h2:Ry A l b dr j4 (⟨op,dst,none,u⟩::ops) T H n rl n7 Q)(h:lk n rl j=some (.d (.bool want)):=by rfl) :
  Ry A l b dr j4 (⟨op,dst,some (j,want),u⟩::ops) T H n rl n7 Q:=fun hn=>Rx.wanted (by rw [fB hn];exact h) (by simp) (h2 hn)
theorem sk {op:y6}{j:Nat}{want:Bool}{u:List Nat}(h2:Ry A l b dr j4 ops T H (n+1) (.tuple []::rl) n7 Q)(h:lk n rl j=some (.d (.bool (!want))):=by rfl)(hk:∀ L,E7 ⟨T,H,L,n7⟩ op=false:=by intro;rfl)(ha:op.A0=false:=by rfl) :
  Ry A l b dr j4 (⟨op,none,some (j,want),u⟩::ops) T H n rl n7 Q:=fun hn=>Rx.Sm (by rw [fB hn];exact h) (by cases want<;>rfl) (hk _) ha (h2.to hn)
theorem st {op:y6}{j:Nat}{want:Bool}{u:List Nat}(h2:Ry A l b dr j4 ops T H (n+1) (.tuple []::rl) n7 Q)(h:lk n rl j=some (.tuple []):=by rfl)(hk:∀ L,E7 ⟨T,H,L,n7⟩ op=false:=by intro;rfl)(ha:op.A0=false:=by rfl) :
  Ry A l b dr j4 (⟨op,none,some (j,want),u⟩::ops) T H n rl n7 Q:=fun hn=>Rx.OD (by rw [fB hn];exact h) (hk _) ha (h2.to hn)
theorem fk {op:y6}{dst:Option Nat}{j:Nat}{want w:Bool}{r1 r2:List b6}{u:List Nat}(h:lk n rl j=some (.d (.bool w)):=by rfl)(hj:J9 (j+1) n=true:=by rfl)(ht:rl.set (n - (j+1)) (.d (.bool true))=r1:=by simp only [Nat.reduceAdd,Nat.reduceSub,List.set_cons_zero,List.set_cons_succ]<;>rfl)(hf:rl.set (n - (j+1)) (.d (.bool false))=r2:=by simp only [Nat.reduceAdd,Nat.reduceSub,List.set_cons_zero,List.set_cons_succ]<;>rfl)(h1:w=true->Ry A l b dr j4 (⟨op,dst,some (j,want),u⟩::ops) T H n r1 n7 Q)(h2:w=false->Ry A l b dr j4 (⟨op,dst,some (j,want),u⟩::ops) T H n r2 n7 Q) :
  Ry A l b dr j4 (⟨op,dst,some (j,want),u⟩::ops) T H n rl n7 Q:=Ry.fork h hj (fun e=>by rw [ht];exact h1 e) (fun e=>by rw [hf];exact h2 e)
theorem L3 {j:Nat}{x y:u5}{w:Bool}{r1 r2:List b6}{u:List Nat}(h:lk n rl j=some (.d (.bool w)):=by rfl)(hj:J9 (j+1) n=true:=by rfl)(ht:rl.set (n - (j+1)) (.d (.bool true))=r1:=by simp only [Nat.reduceAdd,Nat.reduceSub,List.set_cons_zero,List.set_cons_succ]<;>rfl)(hf:rl.set (n - (j+1)) (.d (.bool false))=r2:=by simp only [Nat.reduceAdd,Nat.reduceSub,List.set_cons_zero,List.set_cons_succ]<;>rfl)(h1:w=true->Ry A l b dr j4 (⟨.pick (.loc j) x y,none,none,u⟩::ops) T H n r1 n7 Q)(h2:w=false->Ry A l b dr j4 (⟨.pick (.loc j) x y,none,none,u⟩::ops) T H n r2 n7 Q) :
  Ry A l b dr j4 (⟨.pick (.loc j) x y,none,none,u⟩::ops) T H n rl n7 Q:=Ry.fork h hj (fun e=>by rw [ht];exact h1 e) (fun e=>by rw [hf];exact h2 e)
theorem pt {c x y:u5}{v:b6}{u:List Nat}(h2:Ry A l b dr j4 ops T H (n+1) (v::rl) n7 Q)(hc:rq T n rl c= .d (.bool true):=by rfl)(hx:Oq T n rl x (v):=by exact ⟨rfl,rfl⟩) :
  Ry A l b dr j4 (⟨.pick c x y,none,none,u⟩::ops) T H n rl n7 Q:=Ry.pure (rs:=[]) rfl (by simp [m7,hc,hx.rq]) h2
theorem pk {c x y:u5}{v:b6}{u:List Nat}(h2:Ry A l b dr j4 ops T H (n+1) (v::rl) n7 Q)(hc:rq T n rl c= .d (.bool false):=by rfl)(hy:Oq T n rl y (v):=by exact ⟨rfl,rfl⟩) :
  Ry A l b dr j4 (⟨.pick c x y,none,none,u⟩::ops) T H n rl n7 Q:=Ry.pure (rs:=[]) rfl (by simp [m7,hc,hy.rq]) h2
theorem bx {x:u5}{u:List Nat}{v:b6}{cs:List b6}{s id:Nat}{T2:List b6}{H2:o6}(hx:Oq T n rl x v:=by exact ⟨rfl,rfl⟩)(hc:v.cells? =some cs:=by rfl)(hs:T[s]?.isSome=true:=by rfl)
  (hi:H.length=id:=by simp only [List.length_cons,List.length_nil,Nat.reduceAdd]<;>rfl) (hT:T.set s (.ptr id 0)=T2:=by simp only [List.set_cons_zero,List.set_cons_succ]<;>rfl) (hH:H++[.cells cs]=H2:=by simp only [List.cons_append,List.nil_append]<;>rfl)
  (h2:Ry A l b false j4 ops T2 H2 (n+1) (.ptr id 0::rl) (.slot s::n7) Q):Ry A l b false j4 (⟨.box x,some s,none,u⟩::ops) T H n rl n7 Q:=fun hn=>by
 subst hi;exact Rx.Yl (hx.op hn) hc hs (by rw [hT,hH];exact h2.to hn)
theorem ac {zero:List b6}{u:List Nat}{s id:Nat}{T2:List b6}{H2:o6}(hs:T[s]?.isSome=true:=by rfl)
  (hi:H.length=id:=by simp only [List.length_cons,List.length_nil,Nat.reduceAdd]<;>rfl) (hT:T.set s (.ptr id 0)=T2:=by simp only [List.set_cons_zero,List.set_cons_succ]<;>rfl) (hH:H++[.cells zero]=H2:=by simp only [List.cons_append,List.nil_append]<;>rfl)
  (h2:Ry A l b false j4 ops T2 H2 (n+1) (.ptr id 0::rl) (.slot s::n7) Q):Ry A l b false j4 (⟨.alloc zero,some s,none,u⟩::ops) T H n rl n7 Q:=fun hn=>by
 subst hi;have hs:s<T.length:=by
  rcases p9 s T.length with h|h
  ·exact h
  ·rw [q9 h] at hs;cases hs
 have h2:=h2.to hn;rw [<- hT,<- hH] at h2;refine Rx.stepT (N1:=0) (rs:=[]) rfl (fun n _=> ?_) h2;have h3:∀ r:List b6,(rl.reverse++ .ptr H.length 0::r)[rl.reverse.length]? =some (.ptr H.length 0):=fun r=>by simp
 simp only [y9,y5,D7,y6.E2,if_true,E9,J5,newId,Option.getD_none,put,F5,u7,G4,hs,z7.D8,h3];simp [z7.F8,b6.G9]
theorem tj {m id off:Nat}{x y:u5}{u:List Nat}{v:b6}{cs:List b6}{H2:o6}(hy:rq T n rl y= .ptr id off)(hx:Oq T n rl x v)(hc:v.cells? =some cs)(hm:cs.length=m)(hl:l.may id=true)(hb:A9 cs<=id+1)
  (hw:wr H id off cs=some H2) (h2:Ry A l b false j4 ops T H2 (n+1) (.any::rl) (.obj id::n7) Q):Ry A l b false j4 (⟨.store m y x,none,none,u⟩::ops) T H n rl n7 Q:=fun hn=>by
 refine Rx.stepT (N1:=0) (rs:=[]) rfl (fun k _=> ?_) (h2.to hn);have hl' :(K4 A k l b).lim.may id=true:=hl;simp only [y9,y5,D7,y6.E2,if_true,E9,Y5 hn,hy,Q0,(hx.op hn).D8,hc,hm,hl',hb,true_or,and_self,hw,put,F5,u7,G4]
theorem so {m id:Nat}{x y:u5}{u:List Nat}{v:b6}{cs old:List b6}{H2:o6}(hy:rq T n rl y= .ptr id 0:=by rfl)(hx:Oq T n rl x v:=by exact ⟨rfl,rfl⟩)(hc:v.cells? =some cs:=by rfl)(hm:cs.length=m:=by rfl)(hl:l.may id=true:=by rfl)(hb:A9 cs=0:=by rfl)
  (ho:H[id]? =some (.cells old):=by rfl) (hq:old.length=m:=by rfl) (hH:H.set id (.cells cs)=H2:=by simp only [List.set_cons_zero,List.set_cons_succ]<;>rfl)
  (h2:Ry A l b false j4 ops T H2 (n+1) (.any::rl) (.obj id::n7) Q):Ry A l b false j4 (⟨.store m y x,none,none,u⟩::ops) T H n rl n7 Q :=
 tj hy hx hc hm hl (by omega) (by simp [wr,ho,hm,hq,splice,<- hH];rw [m6 (by omega)];simp) h2
theorem HO {m id off:Nat}{x y:u5}{u:List Nat}{v:b6}{cs:List b6}{H2:o6}(hd:J9 (sB j4) n=true)(hy:rq T n rl y= .ptr id off)(hx:Oq T n rl x v)(hc:v.cells? =some cs)(hm:cs.length=m)(hl:l.may id=true)(hb:A9 cs<=id+1)
  (hw:wr H id off cs=some H2) (h2:Ry A l b dr j4 ops T H2 (n+1) (.any::rl) (.obj id::n7) Q):Ry A l b dr j4 (⟨.store m y x,none,none,u⟩::ops) T H n rl n7 Q:=fun hn=>by
 refine Rx.EI (N1:=0) (rs:=[]) rfl rfl rfl (fun k _=> ?_) (fun h=> ?_) (h2.to hn)
 ·have hl' :(K4 A k l b).lim.may id=true:=hl
  simp only [y9,y5,D7,y6.E2,if_true,E9,Y5 hn,hy,Q0,(hx.op hn).D8,hc,hm,hl',hb,true_or,and_self,hw,put,F5,u7,G4]
 ·have:=m8 hd
  simp [hn] at h;omega
theorem so1 {id off:Nat}{x y:u5}{u:List Nat}{v:b6}{old new:List b6}{H2:o6}(hy:rq T n rl y= .ptr id off:=by rfl)(hx:Oq T n rl x v:=by exact ⟨rfl,rfl⟩)(hc:v.cells? =some [v]:=by rfl)(hl:l.may id=true:=by rfl)(hb:v.N7<=id+1:=by decide)
  (ho:H[id]? =some (.cells old):=by rfl) (hq:off<old.length:=by decide) (hN:old.set off v=new:=by first|(simp only [List.set_cons_zero,List.set_cons_succ];done)|rfl) (hH:H.set id (.cells new)=H2:=by simp only [List.set_cons_zero,List.set_cons_succ]<;>rfl)
  (h2:Ry A l b false j4 ops T H2 (n+1) (.any::rl) (.obj id::n7) Q):Ry A l b false j4 (⟨.store 1 y x,none,none,u⟩::ops) T H n rl n7 Q :=
 tj hy hx hc rfl hl (by simpa [A9] using hb) (by
  have h1:splice old off [v]=old.set off v:=by
   simp only [splice,List.length_singleton];rw [List.set_eq_take_append_cons_drop,if_pos hq];simp
  simp only [wr,ho,List.length_singleton,h1,hN,hH];rw [if_pos (by omega)]) h2
theorem o1 {x:u5}{z c:Data}{u:List Nat}(h2:Ry A l b dr j4 ops T H (n+1) (.own 1 1 [c]::rl) n7 Q)(hx:rq T n rl x= .d c:=by rfl) :
  Ry A l b dr j4 (⟨.A1 1 1 [.d z] [(0,1,x)] false,none,none,u⟩::ops) T H n rl n7 Q:=Ry.pure (rs:=[]) rfl (by simp [m7,bH,hx,b6.cells?,splice,M9,b6.data?,b6.one]) h2
theorem ap1 {α:Type}{enc:α->List Data}{xs:List α}{j s bytes n' :Nat}{y:u5}{u' :List Nat}{d' :Option Nat}{g' :Option (Nat×Bool)}{cs' :List Data}{T2:List b6}{a:α}{c:Data}{u:List Nat}(hj:lk n rl j=some (.d (.slice n' cs')):=by rfl)(ha:j4[j]? =some ⟨.N8 (.slot s),d',g',u'⟩:=by rfl)(ht:n7.any (Touch.R1 s)=false:=by rfl)(hT:T[s]? =some (B4 1 enc xs):=by rfl)(hy:rq T n rl y= .d (.slice 1 [c]):=by rfl)(he:enc a=[c]:=by rfl)(hr:roomFor (xs.length+1) bytes=true:=by simp only [roomFor,decide_eq_true_eq,List.length_append,List.length_cons,List.length_nil,List.length_take,List.length_drop,List.length_map] at * <;>omega)(hS:T.set s (.d (A5 enc xs))=T2:=by simp only [List.set_cons_zero,List.set_cons_succ]<;>rfl)(h2:Ry A l b dr j4 ops T2 H (n+1) (B4 1 enc (xs++[a])::rl) (.slot s::n7) Q) :
  Ry A l b dr j4 (⟨.append 1 bytes false (.loc j) y,none,none,u⟩::ops) T H n rl n7 Q:=Ry.Yj hj ha ht hT hy rfl hr (by decide) (by
  have e1:B4 1 enc (xs++[a])= .own 1 (xs.length+1) (xs.flatMap enc++[c]):=by simp [B4,he]
  rw [e1] at h2;rw [show (b6.d (.slice xs.length (xs.flatMap enc)))= .d (A5 enc xs) from rfl,hS];exact h2)
theorem apN {α:Type}{enc:α->List Data}{xs:List α}{j s sz bytes n' :Nat}{y:u5}{u' :List Nat}{d' :Option Nat}{g' :Option (Nat×Bool)}{cs' :List Data}{T2:List b6}{ys:List α}{u:List Nat}(hj:lk n rl j=some (.d (.slice n' cs')):=by rfl)(ha:j4[j]? =some ⟨.N8 (.slot s),d',g',u'⟩:=by rfl)(ht:n7.any (Touch.R1 s)=false:=by rfl)(hT:T[s]? =some (B4 sz enc xs):=by rfl)(hy:rq T n rl y= .d (A5 enc ys):=by rfl)(hs:∀ a,(enc a).length=sz:=by intro;rfl)(h0:0<sz:=by decide)(hr:roomFor (xs.length+ys.length) bytes=true:=by simp only [roomFor,decide_eq_true_eq,List.length_append,List.length_cons,List.length_nil,List.length_take,List.length_drop,List.length_map] at * <;>omega)(hS:T.set s (.d (A5 enc xs))=T2:=by simp only [List.set_cons_zero,List.set_cons_succ]<;>rfl)(h2:Ry A l b dr j4 ops T2 H (n+1) (B4 sz enc (xs++ys)::rl) (.slot s::n7) Q) :
  Ry A l b dr j4 (⟨.append sz bytes false (.loc j) y,none,none,u⟩::ops) T H n rl n7 Q:=Ry.Yj hj ha ht hT hy (gm hs ys) hr h0 (by
  have e1:B4 sz enc (xs++ys)= .own sz (xs.length+ys.length) (xs.flatMap enc++ys.flatMap enc):=by simp [B4]
  rw [e1] at h2;rw [show (b6.d (.slice xs.length (xs.flatMap enc)))= .d (A5 enc xs) from rfl,hS];exact h2)
theorem al1 {α:Type}{enc:α->List Data}{xs:List α}{j bytes:Nat}{y:u5}{r2:List b6}{a:α}{c:Data}{u:List Nat}(hj:lk n rl j=some (B4 1 enc xs):=by rfl)(hb:J9 (j+1) n=true:=by rfl)(hy:rq T n rl y= .d (.slice 1 [c]):=by rfl)(he:enc a=[c]:=by rfl)(hr:roomFor (xs.length+1) bytes=true:=by simp only [roomFor,decide_eq_true_eq,List.length_append,List.length_cons,List.length_nil,List.length_take,List.length_drop,List.length_map] at * <;>omega)(hS:rl.set (n - (j+1)) (.d (A5 enc xs))=r2:=by simp only [Nat.reduceAdd,Nat.reduceSub,List.set_cons_zero,List.set_cons_succ]<;>rfl)(h2:Ry A l b dr j4 ops T H (n+1) (B4 1 enc (xs++[a])::r2) n7 Q) :
  Ry A l b dr j4 (⟨.append 1 bytes false (.loc j) y,none,none,u⟩::ops) T H n rl n7 Q:=Ry.Uw hj hb hy rfl hr (by decide) (by
  have e1:B4 1 enc (xs++[a])= .own 1 (xs.length+1) (xs.flatMap enc++[c]):=by simp [B4,he]
  rw [e1] at h2;rw [show (b6.d (.slice xs.length (xs.flatMap enc)))= .d (A5 enc xs) from rfl,hS];exact h2)
theorem alN {α:Type}{enc:α->List Data}{xs:List α}{j sz bytes:Nat}{y:u5}{r2:List b6}{ys:List α}{u:List Nat}(hj:lk n rl j=some (B4 sz enc xs):=by rfl)(hb:J9 (j+1) n=true:=by rfl)(hy:rq T n rl y= .d (A5 enc ys):=by rfl)(hs:∀ a,(enc a).length=sz:=by intro;rfl)(h0:0<sz:=by decide)(hr:roomFor (xs.length+ys.length) bytes=true:=by simp only [roomFor,decide_eq_true_eq,List.length_append,List.length_cons,List.length_nil,List.length_take,List.length_drop,List.length_map] at * <;>omega)(hS:rl.set (n - (j+1)) (.d (A5 enc xs))=r2:=by simp only [Nat.reduceAdd,Nat.reduceSub,List.set_cons_zero,List.set_cons_succ]<;>rfl)(h2:Ry A l b dr j4 ops T H (n+1) (B4 sz enc (xs++ys)::r2) n7 Q) :
  Ry A l b dr j4 (⟨.append sz bytes false (.loc j) y,none,none,u⟩::ops) T H n rl n7 Q:=Ry.Uw hj hb hy (gm hs ys) hr h0 (by
  have e1:B4 sz enc (xs++ys)= .own sz (xs.length+ys.length) (xs.flatMap enc++ys.flatMap enc):=by simp [B4]
  rw [e1] at h2;rw [show (b6.d (.slice xs.length (xs.flatMap enc)))= .d (A5 enc xs) from rfl,hS];exact h2)
theorem e0 {u:List Nat}(h2:Ry A l b dr j4 ops T H (n+1) (.own 1 0 []::rl) n7 Q) :
  Ry A l b dr j4 (⟨.A1 1 0 [] [] false,none,none,u⟩::ops) T H n rl n7 Q:=Ry.pure (rs:=[]) rfl (by simp [m7,bH,M9]) h2
theorem cl {f:FuncId}{xs:List u5}{u:List Nat}{v:b6}{args:List b6}(hc:Pf A f args v)(h2:Ry A l b dr j4 ops T H (n+1) (v::rl) n7 Q)(ha:xs.map (rq T n rl)=args:=by rfl)(dM:A.prom f=false:=by rfl)(hm:A.mode f=1:=by rfl)
  (hb:A9 args=0:=by rfl):Ry A l b dr j4 (⟨.call f xs,none,none,u⟩::ops) T H n rl n7 Q:=fun hn =>
 Rx.call dM hm (fun m=>by rw [show z7.F8 T (rl.reverse++ .any::c9 m .any)=rq T n rl from funext fun x=>Y5 hn m x];exact ha) hb hc (h2.to hn)
theorem Bk {zero:List b6}{parts:List (Nat×Nat×u5)}{cs:List b6}{u:List Nat}(h2:Ry A l b dr j4 ops T H (n+1) (.agg cs::rl) n7 Q)(hr:bH zero (parts.map fun p=>(p.1,p.2.1,rq T n rl p.2.2))=some cs:=by rfl) :
  Ry A l b dr j4 (⟨.build zero parts,none,none,u⟩::ops) T H n rl n7 Q:=Ry.pure (rs:=[]) rfl (by simp only [m7,hr]) h2
theorem xs {s:List UInt8}{i:Nat}{x y:u5}{k:IntKind}{u:List Nat}(hx:rq T n rl x= .d (.str s):=by rfl)(hy:rq T n rl y= .d (.int k ((i:Nat):Int)):=by rfl)(hi:i<s.length:=by first|omega|(simp only [n8,Bool.and_eq_true,p8,p5,j9,beq_eq_false_iff_ne,beq_iff_eq,decide_eq_true_eq,decide_eq_false_iff_not,Bool.not_eq_true',Bool.not_eq_false'] at *;omega))(h2:Ry A l b dr j4 ops T H (n+1) (.d (.int .u8 ((nth s i).toNat:Int))::rl) n7 Q) :
  Ry A l b dr j4 (⟨.B8 x y,none,none,u⟩::ops) T H n rl n7 Q:=Ry.pure (rs:=[]) rfl (by simp [m7,hx,hy,o8 hi,K0 hi]) h2
theorem xsN {s:List UInt8}{i:Nat}{x y:u5}{k:IntKind}{u:List Nat}(hx:rq T n rl x= .d (.str s):=by rfl)(hy:rq T n rl y= .d (.int k (OfNat.ofNat i)):=by rfl)(hi:i<s.length:=by first|omega|(simp only [n8,Bool.and_eq_true,p8,p5,j9,beq_eq_false_iff_ne,beq_iff_eq,decide_eq_true_eq,decide_eq_false_iff_not,Bool.not_eq_true',Bool.not_eq_false'] at *;omega))(h2:Ry A l b dr j4 ops T H (n+1) (.d (.int .u8 ((nth s i).toNat:Int))::rl) n7 Q) :
  Ry A l b dr j4 (⟨.B8 x y,none,none,u⟩::ops) T H n rl n7 Q:=xs hx hy hi h2
theorem qs {neg t:Bool}{ks:List CK}{x y:u5}{va vb:List b6}{u:List Nat}(h2:Ry A l b dr j4 ops T H (n+1) (.d (.bool (neg != t))::rl) n7 Q)(hx:rq T n rl x= .agg va:=by rfl)(hy:rq T n rl y= .agg vb:=by rfl)(hr:nx ks va vb=some t:=by rfl) :
  Ry A l b dr j4 (⟨.Mf neg ks x y,none,none,u⟩::ops) T H n rl n7 Q:=Ry.pure (rs:=[]) rfl (by simp only [m7,hx,hy,hr]) h2
theorem qb {neg s t:Bool}{x y:u5}{u:List Nat}(h2:Ry A l b dr j4 ops T H (n+1) (.d (.bool (neg != (s==t)))::rl) n7 Q)(hx:rq T n rl x= .d (.bool s):=by rfl)(hy:rq T n rl y= .d (.bool t):=by rfl) :
  Ry A l b dr j4 (⟨.o9 neg x y,none,none,u⟩::ops) T H n rl n7 Q:=Ry.pure (rs:=[]) rfl (by simp only [m7,hx,hy]) h2
theorem mm {isMax:Bool}{xs:List u5}{c d:Data}{r:List b6}{u:List Nat}(h2:Ry A l b dr j4 ops T H (n+1) (.d d::rl) n7 Q)(ha:xs.map (rq T n rl)= .d c::r:=by rfl)(hr:dw isMax c r=some d:=by rfl) :
  Ry A l b dr j4 (⟨.fC isMax xs,none,none,u⟩::ops) T H n rl n7 Q:=Ry.pure (rs:=[]) rfl (by simp only [m7,ha,hr]) h2
theorem ip {m sz i:Nat}{x y:u5}{k:IntKind}{cs:List Data}{u:List Nat}(h2:Ry A l b dr j4 ops T H (n+1) (.Q9 (cs.drop (i * sz))::rl) n7 Q)(hx:rq T n rl x= .Q9 cs:=by rfl)(hy:rq T n rl y= .d (.int k ((i:Nat):Int)):=by rfl)(hi:i<m:=by omega) :
  Ry A l b dr j4 (⟨.fN m sz x y,none,none,u⟩::ops) T H n rl n7 Q:=Ry.pure (rs:=[]) rfl (by
  have h1:(i:Int)<m:=by omega
  simp [m7,hx,hy,h1]) h2
theorem ipN {m sz i:Nat}{x y:u5}{k:IntKind}{cs:List Data}{u:List Nat}(h2:Ry A l b dr j4 ops T H (n+1) (.Q9 (cs.drop (i * sz))::rl) n7 Q)(hx:rq T n rl x= .Q9 cs:=by rfl)(hy:rq T n rl y= .d (.int k (OfNat.ofNat i)):=by rfl)(hi:i<m:=by omega) :
  Ry A l b dr j4 (⟨.fN m sz x y,none,none,u⟩::ops) T H n rl n7 Q:=ip h2 hx hy hi
theorem svh {α:Type} [Inhabited α] {enc:α->List Data}{xs:List α}{sz i:Nat}{x y:u5}{k:IntKind}{u:List Nat}(hx:rq T n rl x= .d (A5 enc xs):=by rfl)(hy:rq T n rl y= .d (.int k ((i:Nat):Int)):=by rfl)(hs:∀ a,(enc a).length=sz:=by intro;rfl)(hi:i<=xs.length:=by first|omega|(simp only [n8,Bool.and_eq_true,p8,p5,j9,beq_eq_false_iff_ne,beq_iff_eq,decide_eq_true_eq,decide_eq_false_iff_not,Bool.not_eq_true',Bool.not_eq_false'] at *;omega))(h2:Ry A l b dr j4 ops T H (n+1) (.d (A5 enc (xs.take i))::rl) n7 Q) :
  Ry A l b dr j4 (⟨.aT sz x none (some y),none,none,u⟩::ops) T H n rl n7 Q:=Ry.pure (rs:=[]) rfl (by
  have h1:=xz hs xs 0 i (Nat.zero_le _) hi;have h3:(xs.flatMap enc).length=xs.length * sz:=gm hs xs;simp at h1;have hx' :=hx;simp only [A5] at hx' h1;have h4:(i:Int)<=xs.length:=by omega
  simp [m7,hx',hy,S1,A5,h3,h1,h4]) h2
theorem svl {α:Type} [Inhabited α] {enc:α->List Data}{xs:List α}{sz i:Nat}{x y:u5}{k:IntKind}{u:List Nat}(hx:rq T n rl x= .d (A5 enc xs):=by rfl)(hy:rq T n rl y= .d (.int k ((i:Nat):Int)):=by rfl)(hs:∀ a,(enc a).length=sz:=by intro;rfl)(hi:i<=xs.length:=by first|omega|(simp only [n8,Bool.and_eq_true,p8,p5,j9,beq_eq_false_iff_ne,beq_iff_eq,decide_eq_true_eq,decide_eq_false_iff_not,Bool.not_eq_true',Bool.not_eq_false'] at *;omega))(h2:Ry A l b dr j4 ops T H (n+1) (.d (A5 enc (xs.drop i))::rl) n7 Q) :
  Ry A l b dr j4 (⟨.aT sz x (some y) none,none,none,u⟩::ops) T H n rl n7 Q:=Ry.pure (rs:=[]) rfl (by
  have h3:(xs.flatMap enc).length=xs.length * sz:=gm hs xs;have h5:((xs.flatMap enc).take (xs.length * sz)).drop (i * sz)=(xs.drop i).flatMap enc:=by rw [q7 (by omega),sF hs]
  have hx' :=hx;simp only [A5] at hx';have h4:(i:Int)<=xs.length:=by omega
  have h6:((xs.length:Int) - i).toNat=xs.length - i:=by omega
  simp [m7,hx',hy,S1,A5,h3,h5,h4,h6]) h2
theorem svb {α:Type} [Inhabited α] {enc:α->List Data}{xs:List α}{sz i j:Nat}{x y z:u5}{k k' :IntKind}{u:List Nat}(hx:rq T n rl x= .d (A5 enc xs):=by rfl)(hy:rq T n rl y= .d (.int k ((i:Nat):Int)):=by rfl)(hz:rq T n rl z=(.d (.int k' ((j:Nat):Int))):=by rfl)(hs:∀ a,(enc a).length=sz:=by intro;rfl)(hij:i<=j/\j<=xs.length:=by first|omega|(simp only [n8,Bool.and_eq_true,p8,p5,j9,beq_eq_false_iff_ne,beq_iff_eq,decide_eq_true_eq,decide_eq_false_iff_not,Bool.not_eq_true',Bool.not_eq_false'] at *;omega))(h2:Ry A l b dr j4 ops T H (n+1) (.d (A5 enc ((xs.take j).drop i))::rl) n7 Q) :
  Ry A l b dr j4 (⟨.aT sz x (some y) (some z),none,none,u⟩::ops) T H n rl n7 Q:=Ry.pure (rs:=[]) rfl (by
  have h1:=xz hs xs i j hij.1 hij.2;have h3:(xs.flatMap enc).length=xs.length * sz:=gm hs xs;have hx' :=hx;simp only [A5] at hx' h1;have h4:(j:Int)<=xs.length:=by omega
  have h5:(i:Int)<=j:=by omega
  simp only [m7,hx',hy,hz,S1,A5,h3,h4,h5,Int.natCast_nonneg,and_self,if_true,Int.toNat_natCast,h1]) h2
end S
end
section
variable {A:Prog} {l:H7} {b:Nat}
variable {dr:Bool} {j4 ops:List n9} {T:List b6} {H:o6} {n:Nat} {rl:List b6} {n7:List Touch} {Q:List b6->o6->List b6->Prop}
namespace S
theorem bxn {x:u5}{u:List Nat}{v:b6}{cs:List b6}{id:Nat}{H2:o6}(hx:Oq T n rl x v:=by exact ⟨rfl,rfl⟩)(hc:v.cells? =some cs:=by rfl)
  (hi:H.length=id:=by simp only [List.length_cons,List.length_nil,Nat.reduceAdd]<;>rfl) (hH:H++[.cells cs]=H2:=by simp only [List.cons_append,List.nil_append]<;>rfl)
  (h2:Ry A l b false j4 ops T H2 (n+1) (.ptr id 0::rl) n7 Q):Ry A l b false j4 (⟨.box x,none,none,u⟩::ops) T H n rl n7 Q:=fun hn=>by
 subst hi;have h2:=h2.to hn;rw [<- hH] at h2;refine Rx.stepT (N1:=0) (rs:=[]) rfl (fun n _=> ?_) h2;simp only [y9,y5,D7,y6.E2,if_true,E9,(hx.op hn).F8,hc,J5,newId,Option.getD_none,put,F5,u7,G4]
theorem nk {x:u5}{u:List Nat}{id o:Nat}(h2:Ry A l b dr j4 ops T H (n+1) (.ptr id o::rl) n7 Q)(hx:rq T n rl x= .ptr id o:=by rfl):Ry A l b dr j4 (⟨.Z5 x,none,none,u⟩::ops) T H n rl n7 Q :=
 Ry.pure (rs:=[]) rfl (by simp only [m7,hx]) h2
theorem nki {x:u5}{u:List Nat}{cs:List Data}(h2:Ry A l b dr j4 ops T H (n+1) (.Q9 cs::rl) n7 Q)(hx:rq T n rl x= .Q9 cs:=by rfl):Ry A l b dr j4 (⟨.Z5 x,none,none,u⟩::ops) T H n rl n7 Q :=
 Ry.pure (rs:=[]) rfl (by simp only [m7,hx]) h2
theorem mu {x y:u5}{u:List Nat}{c d:Int}(h2:Ry A l b dr j4 ops T H (n+1) (.d (.int .i64 (c * d))::rl) n7 Q)(h0: -9223372036854775808<=c * d/\c * d<9223372036854775808)(hx:rq T n rl x= .d (.int .i64 c):=by rfl)(hy:rq T n rl y= .d (.int .i64 d):=by rfl) :
  Ry A l b dr j4 (⟨.bin .mul x y,none,none,u⟩::ops) T H n rl n7 Q :=
 Ry.pure (rs:=[]) rfl (by simp [m7,hx,hy,L7,W2,aO,wrap_small h0.1 h0.2]) h2
theorem ipM {m sz i:Nat}{x y:u5}{u:List Nat}{k:IntKind}{cs:List Data}(h2:Ry A l b dr j4 ops T H (n+1) (.Q9 (cs.drop (i * sz))::rl) n7 Q)(hx:rq T n rl x= .Q9 cs:=by rfl)(hy:rq T n rl y= .d (.int k (OfNat.ofNat i)):=by rfl)
  (hi:i<m:=by decide):Ry A l b dr j4 (⟨.fN m sz x y,none,none,u⟩::ops) T H n rl n7 Q:=ip h2 hx hy hi
end S
theorem Ex.fG {mask:List Bool}{body:p6}{R:E4->St->Prop}(Inv:Nat->List b6->o6->Prop)
  (hb:∀ k T' H',Inv k T' H' ->Ex A l b body ⟨T',H'⟩ (sJ R fun s=>∃ k',k' <k/\∃ T2 H2,clean mask l.strict H.length s=⟨T2,H2⟩/\Inv k' T2 H2)) {k:Nat} (h:Inv k (S5 mask T) H):Ex A l b (.loop mask body) ⟨T,H⟩ R:=by
 refine Ex.loop (fun k s=>∃ T2 H2,clean mask l.strict H.length s=⟨T2,H2⟩/\Inv k T2 H2) (fun k s ⟨T2,H2,e,hs⟩=> ?_) (k:=k) ⟨S5 mask T,H,zx rfl,h⟩;rw [e];exact hb k T2 H2 hs
end
section
variable {A:Prog} {l:H7} {b:Nat}
variable {dr:Bool} {j4 ops:List n9} {T:List b6} {H:o6} {n:Nat} {rl:List b6} {n7:List Touch} {Q:List b6->o6->List b6->Prop}
theorem Ex.I4 {c:u5}{d e:p6}{t:Bool}{Q:E4->St->Prop}(h2:Ex A l b d ⟨T,H⟩ Q)(h1:F8 T [] c= .d (.bool t):=by rfl)(ht:t=true:=by assumption):Ex A l b (.cond c d e) ⟨T,H⟩ Q :=
 Ex.cond h1 (fun _=>h2) (fun h=>by rw [ht] at h;cases h)
namespace S
theorem lq3 {x:u5}{u:List Nat}{id o:Nat}{v1 v2 v3:Data}(h2:Ry A l b dr j4 ops T H (n+1) (.agg [.d v1,.d v2,.d v3]::rl) n7 Q)(hx:rq T n rl x= .ptr id o:=by rfl)(hr:rd H id o 3=some [.d v1,.d v2,.d v3]:=by rfl) :
  Ry A l b dr j4 (⟨.load (some 3) x,none,none,u⟩::ops) T H n rl n7 Q :=
 Ry.pure (rs:=[id]) rfl (by simp only [m7,hx,hr,H8,List.map_nil,b6.G9]) h2
theorem o1z {x:u5}{u:List Nat}{z:b6}{c:Data}(h2:Ry A l b dr j4 ops T H (n+1) (.own 1 1 [c]::rl) n7 Q)(hx:rq T n rl x= .d c:=by rfl):Ry A l b dr j4 (⟨.A1 1 1 [z] [(0,1,x)] false,none,none,u⟩::ops) T H n rl n7 Q :=
 Ry.pure (rs:=[]) rfl (by simp [m7,bH,hx,b6.cells?,splice,M9,b6.data?,b6.one]) h2
theorem clT {f:FuncId}{xs:List u5}{u:List Nat}{v:b6}{args:List b6}{s:Nat}{T2:List b6}(hc:Pf A f args v)(ha:xs.map (rq T n rl)=args:=by rfl)(dM:A.prom f=false:=by rfl)(hm:A.mode f=1:=by rfl)
  (hb:A9 args=0:=by rfl) (hv:v.G9=v:=by rfl) (hs:T[s]?.isSome=true:=by rfl) (hT:T.set s v=T2:=by simp only [List.set_cons_zero,List.set_cons_succ]<;>rfl)
  (h2:Ry A l b dr j4 ops T2 H (n+1) (v::rl) (.slot s::n7) Q):Ry A l b dr j4 (⟨.call f xs,some s,none,u⟩::ops) T H n rl n7 Q:=fun hn=>by
 obtain ⟨M,hc⟩:=hc;have hs:s<T.length:=by
  rcases p9 s T.length with h|h
  ·exact h
  ·rw [q9 h] at hs;cases hs
 have h2:=h2.to hn;rw [<- hT] at h2;refine Rx.step (N1:=M) (rs:=[]) rfl rfl (fun k hk=> ?_) (fZ s n7) h2;have h3:B9 (K4 A k l b) rl.reverse.length f args ⟨T,H,rl.reverse++ .any::c9 ops.length .any,n7⟩=some (put ⟨T,H,rl.reverse++ .any::c9 ops.length .any,n7⟩ rl.reverse.length v) :=
  iL dM hm hb (hc k hk)
 have WW :xs.map (z7.F8 T (rl.reverse++ .any::c9 ops.length .any))=args:=by
  rw [show z7.F8 T (rl.reverse++ .any::c9 ops.length .any)=rq T n rl from funext fun x=>Y5 hn _ x];exact ha
 have h5:z7.D8 ⟨T,H,rl.reverse++v::c9 ops.length .any,n7⟩ (.loc rl.reverse.length)=(v,⟨T,H,rl.reverse++v::c9 ops.length .any,n7⟩):=by
  simp only [z7.D8,q8 (k9 _),Nat.sub_self,List.getElem?_cons_zero];split
  ·rename_i heq
   cases heq;simp [b6.G9] at hv
  ·simp [z7.F8,hv]
 simp only [y9,y5,D7,y6.E2,if_true,E9,WW,h3,u7,G4,put,F5,hs,h5]
end S
end
section
variable {A:Prog} {l:H7} {b:Nat}
variable {dr:Bool} {j4 ops:List n9} {T:List b6} {H:o6} {n:Nat} {rl:List b6} {n7:List Touch} {Q:List b6->o6->List b6->Prop}
namespace S
theorem df {f:FuncId}{a c:List b6}{u:List Nat}(h2:Ry A l b dr j4 ops T H (n+1) (.any::rl) n7 Q)(hi:A.idle f=true:=by rfl):Ry A l b dr j4 (⟨.defer (.const (.func f a c)),none,none,u⟩::ops) T H n rl n7 Q:=fun hn=>by
 refine Rx.step (N1:=0) (rs:=[]) rfl rfl (fun k _=> ?_) (fun rs=>by simp [J8]) (h2.to hn);have hi' :(K4 A k l b).idle f=true:=hi;simp only [y9,y5,D7,y6.E2,if_true,E9,z7.F8,b6.Me,b6.G9,hi',put,F5,u7,G4]
theorem dfl {f:FuncId}{x:u5}{a c:List b6}{u:List Nat}(h2:Ry A l b dr j4 ops T H (n+1) (.any::rl) n7 Q)(hx:rq T n rl x= .func f a c:=by rfl)(hi:A.idle f=true:=by rfl):Ry A l b dr j4 (⟨.defer x,none,none,u⟩::ops) T H n rl n7 Q:=fun hn=>by
 refine Rx.step (N1:=0) (rs:=[]) rfl rfl (fun k _=> ?_) (fun rs=>by simp [J8]) (h2.to hn);have hi' :(K4 A k l b).idle f=true:=hi;simp only [y9,y5,D7,y6.E2,if_true,E9,Y5 hn,hx,hi',put,F5,u7,G4]
theorem ipp {m sz o id o2:Nat}{x y:u5}{u:List Nat}{k:IntKind}{e:Int}(i:Nat)(he:e=i)(ho:o+i * sz=o2)(hi:i<m)(h2:Ry A l b dr j4 ops T H (n+1) (.ptr id o2::rl) n7 Q)(hx:rq T n rl x= .ptr id o:=by rfl)(hy:rq T n rl y= .d (.int k e):=by rfl) :
  Ry A l b dr j4 (⟨.fN m sz x y,none,none,u⟩::ops) T H n rl n7 Q:=by
 subst he;subst ho;refine Ry.pure (rs:=[]) rfl ?_ h2;have h1:(i:Int)<m:=by omega
 simp [m7,hx,hy,h1]
theorem mf {f:FuncId}{a c:List u5}{u:List Nat}{va vc:List b6}(h2:Ry A l b dr j4 ops T H (n+1) (.func f va vc::rl) n7 Q)(ha:a.map (rq T n rl)=va:=by rfl)(hc:c.map (rq T n rl)=vc:=by rfl):Ry A l b dr j4 (⟨.Y3 f a c,none,none,u⟩::ops) T H n rl n7 Q :=
 Ry.pure (rs:=[]) rfl (by simp only [m7,ha,hc]) h2
end S
end
section
variable {A:Prog} {l:H7} {b:Nat}
variable {dr:Bool} {j4 ops:List n9} {T:List b6} {H:o6} {n:Nat} {rl:List b6} {n7:List Touch} {Q:List b6->o6->List b6->Prop}
namespace S
theorem ay9 {m sz i o id:Nat}{x y:u5}{u:List Nat}{k:IntKind}(h2:Ry A l b dr j4 ops T H (n+1) (.ptr id (o+i * sz)::rl) n7 Q)(hx:rq T n rl x= .ptr id o:=by rfl)(hy:rq T n rl y= .d (.int k (OfNat.ofNat i)):=by rfl)(hi:i<m:=by decide) :
  Ry A l b dr j4 (⟨.fN m sz x y,none,none,u⟩::ops) T H n rl n7 Q:=ipp i rfl rfl hi h2 hx hy
end S
end
section
variable {A:Prog} {l:H7} {b:Nat}
variable {dr:Bool} {j4 ops:List n9} {T:List b6} {H:o6} {n:Nat} {rl:List b6} {n7:List Touch} {Q:List b6->o6->List b6->Prop}
namespace S
theorem sp1 {id off:Nat}{x y:u5}{u:List Nat}{v:b6}{old new:List b6}{H2:o6}(hy:rq T n rl y= .ptr id off:=by rfl)(hx:Oq T n rl x v:=by exact ⟨rfl,rfl⟩)(hc:v.cells? =some [v]:=by rfl)(hl:l.may id=true:=by rfl)(hb:v.N7<=id+1:=by exact Nat.zero_le _)
  (ho:H[id]? =some (.cells old):=by rfl) (hq:off<old.length:=by simp) (hN:old.set off v=new:=by first|(simp only [List.set_cons_zero,List.set_cons_succ];done)|rfl) (hH:H.set id (.cells new)=H2:=by simp only [List.set_cons_zero,List.set_cons_succ]<;>rfl)
  (h2:Ry A l b false j4 ops T H2 (n+1) (.any::rl) (.obj id::n7) Q):Ry A l b false j4 (⟨.store 1 y x,none,none,u⟩::ops) T H n rl n7 Q:=so1 hy hx hc hl hb ho hq hN hH h2
end S
end
section
variable {A:Prog} {l:H7} {b:Nat}
variable {dr:Bool} {j4 ops:List n9} {T:List b6} {H:o6} {n:Nat} {rl:List b6} {n7:List Touch} {Q:List b6->o6->List b6->Prop}
namespace S
theorem alE {α:Type}{enc:α->List Data}{ys:List α}{j sz bytes:Nat}{y:u5}{u:List Nat}{r2:List b6}(hj:lk n rl j=some (.own sz 0 []):=by rfl)(hb:J9 (j+1) n=true:=by rfl)(hy:rq T n rl y= .d (A5 enc ys):=by rfl)
  (hs:∀ a,(enc a).length=sz:=by intro;rfl) (h0:0<sz:=by decide) (hr:roomFor (0+ys.length) bytes=true:=by simp only [roomFor,decide_eq_true_eq,List.length_append,List.length_cons,List.length_nil,List.length_take,List.length_drop,List.length_map] at * <;>omega)
  (hS:rl.set (n - (j+1)) (.d (.slice 0 []))=r2:=by simp only [Nat.reduceAdd,Nat.reduceSub,List.set_cons_zero,List.set_cons_succ]<;>rfl) (h2:Ry A l b dr j4 ops T H (n+1) (B4 sz enc ys::r2) n7 Q) :
  Ry A l b dr j4 (⟨.append sz bytes false (.loc j) y,none,none,u⟩::ops) T H n rl n7 Q :=
 Ry.Uw hj hb hy (gm hs ys) hr h0 (by
  have e1:B4 sz enc ys= .own sz (0+ys.length) ([]++ys.flatMap enc):=by simp [B4]
  rw [e1] at h2;rw [hS];exact h2)
end S
end
section
variable {A:Prog} {l:H7} {b:Nat}
theorem Ex.WD {c:p6}{st:St}{R:E4->St->Prop}{go:St->Prop}(P:St->Prop)(h1:Ex A l b c st (sJ (fun _ _=>False) P))(h2:∀ s,P s->go s):Ex A l b c st (sJ R go):=by
 refine h1.mono fun x s h=> ?_
 cases x with
 |normal=>exact h2 s h
 |exit i=>exact h.elim
 |ret=>exact h.elim
end
section
variable {A:Prog} {l:H7} {b:Nat}
variable {dr:Bool} {j4 ops:List n9} {T:List b6} {H:o6} {n:Nat} {rl:List b6} {n7:List Touch} {Q:List b6->o6->List b6->Prop}
namespace S
theorem mvS {s:Nat}{u:List Nat}{w v:b6}(hv:w.G9=v)(h2:Ry A l b dr j4 ops T H (n+1) (v::rl) n7 Q)(hx:T[s]? =some w:=by rfl):Ry A l b dr j4 (⟨.N8 (.slot s),none,none,u⟩::ops) T H n rl n7 Q:=fun hn=>by
 refine Rx.step (N1:=0) (rs:=[]) rfl rfl (fun k _=> ?_) (fun rs=>by simp [J8]) (h2.to hn);have h1:z7.F8 T (rl.reverse++ .any::c9 ops.length .any) (.slot s)=v:=by simp [z7.F8,hx,hv]
 simp only [y9,y5,D7,y6.E2,b7,if_false,z7.D8,h1,put,F5,u7,G4]
end S
end
def Pm (A:Prog)(f:FuncId)(args:List b6)(H:o6)(l:H7)(v:b6)(H1:o6):Prop:=∃ N,∀ n,N<=n->call A n f args H l=some (v,H1)
def Pq (A:Prog)(f:FuncId)(args:List b6)(H:o6)(l:H7)(Post:b6->o6->Prop):Prop:=∃ v H1,Post v H1/\Pm A f args H l v H1
section
variable {A:Prog} {l:H7} {b:Nat}
theorem Pq.run {f:FuncId}{af:q6}{args:List b6}{H:o6}{Post:b6->o6->Prop}(T:List b6)(hp:A.gB f=none)(hf:A.fn f=some af)(hn:args.length=af.nparams)(hb:H.length=b)
  (hT:args++c9 (af.names.length - args.length) .any=T) (h:Ex A l b af.body ⟨T,H⟩ fun x s=>∃ w H1,ki af b (some (x,s))=some (w,H1)/\Post w H1):Pq A f args H l Post:=by
 subst hT;subst hb;obtain ⟨x,s,N,⟨w,H1,hq,hP⟩,h⟩:=h;refine ⟨w,H1,hP,N+1,fun n hn' => ?_⟩;obtain ⟨n,rfl⟩:∃ j,n=j+1:=⟨n - 1,by omega⟩;rw [Il hp hf,qc hn];have:=h n (by omega);simp only [K4] at this;rw [this,hq]
theorem fT {H:o6}{s k n:Nat}(h:Y2 ((H.take n).drop s)<=n):H9 H s (k+1) n=n:=by
 simp only [H9];split
 ·rfl
 ·rw [if_pos (by omega)]
theorem vG {E:Env}{k m:Nat}{f:FuncId}{args:List b6}{st:F0}{v:b6}{H1:o6}{l2:H7}(dM:E.prom f=false)(hm:E.mode f=0)(hc:H9 st.H E.lim.strict 8 (A9 args)=m)(hle:m<=st.H.length)(BF:Y2 ((st.H.take m).drop E.lim.strict)<=m)
  (lV:(⟨E.lim.SX,E.lim.SW,m,C5 st.H E.lim.strict m⟩:H7)=l2) (h:E.cf f args (st.H.take m) l2=some (v,H1)) (hH:H1.length=m) :
  B9 E k f args st=some (put { st with H:=H1++st.H.drop m,n7:= .below m::st.n7 } k v):=by
 subst lV;simp only [B9,dM,hm,hc,hle,BF,and_self,if_true,b7,if_false,h,hH]
theorem qd {E:Env}{k m:Nat}{f:FuncId}{args:List b6}{st:F0}{v:b6}{H1:o6}{l2:H7}(dM:E.prom f=false)(hm:E.mode f=1)(hc:H9 st.H E.lim.strict 8 (A9 args)=m)(hle:m<=st.H.length)(BF:Y2 ((st.H.take m).drop E.lim.strict)<=m)
  (lV:(⟨0,m,m,C5 st.H E.lim.strict m⟩:H7)=l2) (h:E.cf f args (st.H.take m) l2=some (v,H1)) (hH:H1.length=m) :
  B9 E k f args st=some (put st k v):=by
 subst lV;simp only [B9,dM,hm,hc,hle,BF,and_self,if_true,b7,if_false,h,hH]
variable {dr:Bool} {j4 ops:List n9} {T:List b6} {H:o6} {n:Nat} {rl:List b6} {n7:List Touch} {Q:List b6->o6->List b6->Prop}
theorem mF (hn:rl.length=n)(xs:List u5):xs.map (z7.F8 T (rl.reverse++ .any::c9 ops.length .any))=xs.map (rq T n rl):=by
 rw [show z7.F8 T (rl.reverse++ .any::c9 ops.length .any)=rq T n rl from funext fun x=>Y5 hn _ x]
namespace S
theorem c0 {f:FuncId}{xs:List u5}{u:List Nat}{v:b6}{args:List b6}{m:Nat}{H0 HD H1 H2:o6}{l2:H7}(hc:Pm A f args H0 l2 v H1)(QK:H1.length=m)(BF:Y2 ((H.take m).drop l.strict)<=m:=by exact Nat.zero_le _)(hcl:H9 H l.strict 8 (A9 args)=m:=by rfl)
  (MT:H.take m=H0:=by rfl) (hle:J9 m H.length=true:=by rfl) (lV:(⟨l.SX,l.SW,m,C5 H l.strict m⟩:H7)=l2:=by rfl) (hd:dr=true->J9 (sB j4) n=true:=by intro;rfl)
  (ha:xs.map (rq T n rl)=args:=by rfl) (dM:A.prom f=false:=by rfl) (hm:A.mode f=0:=by rfl) (hD:H.drop m=HD:=by rfl) (hA:H1++HD=H2:=by first|(simp only [List.cons_append,List.nil_append]<;>rfl)|rfl)
  (h2:Ry A l b dr j4 ops T H2 (n+1) (v::rl) (.below m::n7) Q):Ry A l b dr j4 (⟨.call f xs,none,none,u⟩::ops) T H n rl n7 Q:=fun hn=>by
 obtain ⟨M,hc⟩:=hc;subst MT hD hA;have h2:=h2.to hn;have e1:∀ k,M<=k->y9 (K4 A k l b) j4 none rl.reverse.length ⟨.call f xs,none,none,u⟩ ⟨T,H,rl.reverse++ .any::c9 ops.length .any,n7⟩=some (⟨T,H1++H.drop m,rl.reverse++v::c9 ops.length .any,.below m::n7⟩,[]):=fun k hk=>by
  have h3:B9 (K4 A k l b) rl.reverse.length f args ⟨T,H,rl.reverse++ .any::c9 ops.length .any,n7⟩=some (put ⟨T,H1++H.drop m,rl.reverse++ .any::c9 ops.length .any,.below m::n7⟩ rl.reverse.length v) :=
   vG dM hm hcl (m8 hle) BF lV (hc k hk) QK
  simp only [y9,y5,D7,y6.E2,if_true,E9,mF hn,ha,h3,u7,G4,put,F5]
 cases dr with
 |false=>exact Rx.stepT (N1:=M) (rs:=[]) rfl e1 h2
 |true =>
  refine Rx.EI (N1:=M) (rs:=[]) rfl rfl rfl e1 (fun h=> ?_) h2;have:=m8 (hd rfl);simp [hn] at h;omega
theorem c1 {f:FuncId}{xs:List u5}{u:List Nat}{v:b6}{args:List b6}{m:Nat}{H0 H1:o6}{l2:H7}(hc:Pm A f args H0 l2 v H1)(QK:H1.length=m)(h2:Ry A l b dr j4 ops T H (n+1) (v::rl) n7 Q)(BF:Y2 ((H.take m).drop l.strict)<=m:=by exact Nat.zero_le _)(hcl:H9 H l.strict 8 (A9 args)=m:=by rfl)
  (MT:H.take m=H0:=by rfl) (hle:J9 m H.length=true:=by rfl) (lV:(⟨0,m,m,C5 H l.strict m⟩:H7)=l2:=by rfl)
  (ha:xs.map (rq T n rl)=args:=by rfl) (dM:A.prom f=false:=by rfl) (hm:A.mode f=1:=by rfl):Ry A l b dr j4 (⟨.call f xs,none,none,u⟩::ops) T H n rl n7 Q:=fun hn=>by
 obtain ⟨M,hc⟩:=hc;subst MT;refine Rx.step (N1:=M) (rs:=[]) rfl rfl (fun k hk=> ?_) (fun rs=>by simp [J8]) (h2.to hn);have h3:B9 (K4 A k l b) rl.reverse.length f args ⟨T,H,rl.reverse++ .any::c9 ops.length .any,n7⟩=some (put ⟨T,H,rl.reverse++ .any::c9 ops.length .any,n7⟩ rl.reverse.length v) :=
  qd dM hm hcl (m8 hle) BF lV (hc k hk) QK
 simp only [y9,y5,D7,y6.E2,if_true,E9,mF hn,ha,h3,u7,G4,put,F5]
theorem cv {f:FuncId}{x:u5}{xs:List u5}{u:List Nat}{v:b6}{first caps args:List b6}(hc:Pf A f args v)(h2:Ry A l b dr j4 ops T H (n+1) (v::rl) n7 Q)(hx:rq T n rl x= .func f first caps:=by rfl)(ha:first++xs.map (rq T n rl)++caps=args:=by rfl)(dM:A.prom f=false:=by rfl)(hm:A.mode f=1:=by rfl)
  (hb:A9 args=0:=by rfl):Ry A l b dr j4 (⟨.au x xs,none,none,u⟩::ops) T H n rl n7 Q:=fun hn=>by
 obtain ⟨M,hc⟩:=hc;refine Rx.step (N1:=M) (rs:=[]) rfl rfl (fun k hk=> ?_) (fun rs=>by simp [J8]) (h2.to hn);have h3:B9 (K4 A k l b) rl.reverse.length f args ⟨T,H,rl.reverse++ .any::c9 ops.length .any,n7⟩=some (put ⟨T,H,rl.reverse++ .any::c9 ops.length .any,n7⟩ rl.reverse.length v) :=
  iL dM hm hb (hc k hk)
 simp only [y9,y5,D7,y6.E2,if_true,E9,Y5 hn,hx,mF hn,ha,h3,u7,G4,put,F5]
theorem lk1 {kk:CK}{zero:b6}{x y:u5}{u:List Nat}{id:Nat}{key:Data}{es:List (Data×b6)}{r:Option b6}{v:b6}(hr:bf kk key es=some r)(hv:r.getD zero=v)(h2:Ry A l b dr j4 ops T H (n+1) (v::rl) n7 Q)
  (hx:rq T n rl x= .map id:=by rfl) (hy:rq T n rl y= .d key:=by rfl) (ho:H[id]? =some (.map es):=by rfl):Ry A l b dr j4 (⟨.lookup kk zero false x y,none,none,u⟩::ops) T H n rl n7 Q :=
 Ry.pure (rs:=[id]) rfl (by subst hv;simp [m7,hx,hy,ho,hr]) h2
theorem lk2 {kk:CK}{zero:b6}{x y:u5}{u:List Nat}{id:Nat}{key:Data}{es:List (Data×b6)}{r:Option b6}{v:b6}{t:Bool}(hr:bf kk key es=some r)(hv:r.getD zero=v)(ht:r.isSome=t)(h2:Ry A l b dr j4 ops T H (n+1) (.tuple [v,.d (.bool t)]::rl) n7 Q)
  (hx:rq T n rl x= .map id:=by rfl) (hy:rq T n rl y= .d key:=by rfl) (ho:H[id]? =some (.map es):=by rfl):Ry A l b dr j4 (⟨.lookup kk zero true x y,none,none,u⟩::ops) T H n rl n7 Q :=
 Ry.pure (rs:=[id]) rfl (by subst hv ht;simp [m7,hx,hy,ho,hr]) h2
theorem mp {kk:CK}{x y z:u5}{u:List Nat}{id:Nat}{key:Data}{es es' :List (Data×b6)}{v:b6}{H2:o6}(hr:cg kk key v es=some es')(hk:Data.Z0 kk key key=some true)(hx:rq T n rl x= .map id:=by rfl)(hy:rq T n rl y= .d key:=by rfl)(hz:rq T n rl z=v:=by rfl)(hbv:v.N7<=id+1:=by exact Nat.zero_le _)(hl:l.may id=true:=by rfl)
  (ho:H[id]? =some (.map es):=by rfl) (hd:dr=true->J9 (sB j4) n=true:=by intro;rfl) (hH:H.set id (.map es')=H2:=by simp only [List.set_cons_zero,List.set_cons_succ]<;>rfl)
  (h2:Ry A l b dr j4 ops T H2 (n+1) (.any::rl) (.obj id::n7) Q):Ry A l b dr j4 (⟨.dn kk x y z,none,none,u⟩::ops) T H n rl n7 Q:=fun hn=>by
 subst hH;have e1:∀ k,0<=k->y9 (K4 A k l b) j4 none rl.reverse.length ⟨.dn kk x y z,none,none,u⟩ ⟨T,H,rl.reverse++ .any::c9 ops.length .any,n7⟩=some (⟨T,H.set id (.map es'),rl.reverse++ .any::c9 ops.length .any,.obj id::n7⟩,[]):=fun k _=>by
  have hl' :(K4 A k l b).lim.may id=true:=hl;simp only [y9,y5,D7,y6.E2,if_true,E9,Y5 hn,hx,hy,hz,T0,ho,hbv,hl',and_self,hk,hr,put,F5,u7,G4]
 cases dr with
 |false=>exact Rx.stepT (N1:=0) (rs:=[]) rfl e1 (h2.to hn)
 |true =>
  refine Rx.EI (N1:=0) (rs:=[]) rfl rfl rfl e1 (fun h=> ?_) (h2.to hn);have:=m8 (hd rfl);simp [hn] at h;omega
end S
end
def dmap (ds:List (List UInt8)):List (Data×b6):=ds.map fun s=>(.str s,.d (.bool true))
def S6:List (List UInt8)->Nat->List (Data×b6)
 |[],_=>[]
 |s::l,i=>(.str s,.d (.int .i64 (i:Int)))::S6 l (i+1)
theorem sE (s:List UInt8):∀ ds,bf .s (.str s) (dmap ds)=some (if ds.any fun y=>J4 y s then some (.d (.bool true)) else none)
 |[]=>by simp [dmap,bf]
 |d::ds=>by
  have h1:=sE s ds;simp only [dmap,H8,bf,Data.Z0,List.any_cons];have h2:(s==d)=J4 d s:=by
   rw [B7,Bool.eq_iff_iff];simp only [beq_iff_eq];exact eq_comm
  rw [h2]
  by_cases hb:J4 d s=true
  ·simp [hb]
  ·have hb' :J4 d s=false:=by simpa using hb
   simp only [hb',Bool.false_or];simpa [dmap] using h1
theorem vS (s:List UInt8):∀ ds,(ds.any fun y=>J4 y s)=false->cg .s (.str s) (.d (.bool true)) (dmap ds)=some (dmap (ds++[s]))
 |[],_=>by simp [dmap,cg]
 |d::ds,h=>by
  simp only [List.any_cons,L6] at h;have h1:=vS s ds h.2;have h2:(s==d)=false:=by
   have:=TZ h.1;simp;exact fun h=>this h.symm
  simp only [dmap,H8,cg,Data.Z0,h2,List.cons_append] at h1 ⊢;rw [h1]
theorem wM (s:List UInt8):∀ (l:List (List UInt8)) (i:Nat),(l.any fun y=>J4 y s)=false->cg .s (.str s) (.d (.int .i64 ((i+l.length:Nat):Int))) (S6 l i)=some (S6 (l++[s]) i)
 |[],i,_=>by simp [S6,cg]
 |d::l,i,h=>by
  simp only [List.any_cons,L6] at h;have h1:=wM s l (i+1) h.2;have h2:(s==d)=false:=by
   have:=TZ h.1;simp;exact fun h=>this h.symm
  have h3:i+1+l.length=i+(d::l).length:=by simp;omega
  rw [h3] at h1;simp only [S6,cg,Data.Z0,h2,List.cons_append,h1]
theorem dx:∀ (l:List (List UInt8)) (i:Nat),A9 ((S6 l i).map (·.2))=0
 |[],_=>rfl
 |_::l,i=>by simp [S6,A9,b6.N7,dx l (i+1)]
theorem dc:∀ l:List (List UInt8),A9 ((dmap l).map (·.2))=0
 |[]=>rfl
 |_::l=>by
  have:=dc l;simp only [dmap,H8,A9,b6.N7,Nat.zero_max] at this ⊢;exact this
section
variable {A:Prog} {l:H7} {b:Nat}
variable {dr:Bool} {j4 ops:List n9} {T:List b6} {H:o6} {n:Nat} {rl:List b6} {n7:List Touch} {Q:List b6->o6->List b6->Prop}
theorem zv (id off:Nat)(n7:List Touch)(rs:List Nat):J8 ((Touch.cell id off::n7).take ((Touch.cell id off::n7).length - n7.length)) rs=false:=by
 have:(n7.length+1) - n7.length=1:=by omega
 simp [J8,this,Touch.K1]
theorem Ry.Yi {j k sz bytes id off:Nat}{y:u5}{u u' :List Nat}{d' :Option Nat}{g' :Option (Nat×Bool)}{n' len m:Nat}{cs' cells new:List Data}{old:List b6}
  (hj:lk n rl j=some (.d (.slice n' cs'))) (ha:j4[j]? =some ⟨.load none (.loc k),d',g',u'⟩) (hk:lk n rl k=some (.ptr id off)) (ht:n7.any (Touch.aJ id off)=false) (hl:l.may id=true) (ho:H[id]? =some (.cells old)) (hc:old[off]? =some (.own sz len cells))
  (hy:rq T n rl y= .d (.slice m new)) (hn' :new.length=m * sz) (hr:roomFor (len+m) bytes=true) (h0:0<sz)
  (h2:Ry A l b dr j4 ops T (H.set id (.cells (old.set off (.d (.slice len cells))))) (n+1) (.own sz (len+m) (cells++new)::rl) (.cell id off::n7) Q):Ry A l b dr j4 (⟨.append sz bytes false (.loc j) y,none,none,u⟩::ops) T H n rl n7 Q:=fun hn=>by
 have hjl:rl.reverse[j]? =some (.d (.slice n' cs')):=by rw [fB hn];exact hj
 have aq:rl.reverse[k]? =some (.ptr id off):=by rw [fB hn];exact hk
 have hL:∀ r:List b6,(rl.reverse++ .any::r)[j]? =some (.d (.slice n' cs')):=fun r=>oZ hjl _
 have hK:∀ r:List b6,(rl.reverse++ .any::r)[k]? =some (.ptr id off):=fun r=>oZ aq _
 have wz:z7.F8 T (rl.reverse++ .any::c9 ops.length .any) (.loc j)= .d (.slice n' cs'):=by simp [z7.F8,hL,b6.G9]
 refine Rx.step (N1:=0) (rs:=[]) (by simp only [E7,wz]) rfl (fun q _=> ?_) (zv id off n7) (h2.to hn);have hl' :(K4 A q l b).lim.may id=true:=hl;have hs:J7 H sz (.d (.slice m new))=some (m,new.map .d):=by simp only [J7,hn',if_true]
 simp only [y9,y5,D7,y6.E2,if_true,E9,wz,K5,Y5 hn,hy,hs,fV,b7,if_false,P6,hL,ha,U9,Z6,hK,ht,hl',Bool.not_true,Bool.or_self,ho,hc,hr,h0,and_self,put,F5,u7,G4]
namespace S
theorem o2 {x:u5}{u:List Nat}{z1 z2:b6}{c d:Data}(h2:Ry A l b dr j4 ops T H (n+1) (.own 2 1 [c,d]::rl) n7 Q)(hx:rq T n rl x= .agg [.d c,.d d]:=by rfl):Ry A l b dr j4 (⟨.A1 2 1 [z1,z2] [(0,2,x)] false,none,none,u⟩::ops) T H n rl n7 Q :=
 Ry.pure (rs:=[]) rfl (by simp [m7,bH,hx,b6.cells?,splice,M9,b6.data?,b6.one]) h2
theorem ac2 {α:Type}{enc:α->List Data}{xs:List α}{a:α}{j k bytes id off:Nat}{y:u5}{u u' :List Nat}{d' :Option Nat}{g' :Option (Nat×Bool)}{n' :Nat}{cs' :List Data}{c d:Data}{old new:List b6}{H2:o6}
  (hr:roomFor (xs.length+1) bytes=true) (he:enc a=[c,d]) (hj:lk n rl j=some (.d (.slice n' cs')):=by rfl) (ha:j4[j]? =some ⟨.load none (.loc k),d',g',u'⟩:=by rfl) (hk:lk n rl k=some (.ptr id off):=by rfl) (ht:n7.any (Touch.aJ id off)=false:=by rfl) (hl:l.may id=true:=by rfl) (ho:H[id]? =some (.cells old):=by rfl) (hc:old[off]? =some (B4 2 enc xs):=by rfl)
  (hy:rq T n rl y= .d (.slice 1 [c,d]):=by rfl) (hN:old.set off (.d (A5 enc xs))=new:=by rfl) (hH:H.set id (.cells new)=H2:=by simp only [List.set_cons_zero,List.set_cons_succ]<;>rfl)
  (h2:Ry A l b dr j4 ops T H2 (n+1) (B4 2 enc (xs++[a])::rl) (.cell id off::n7) Q):Ry A l b dr j4 (⟨.append 2 bytes false (.loc j) y,none,none,u⟩::ops) T H n rl n7 Q :=
 Ry.Yi hj ha hk ht hl ho hc hy rfl hr (by decide) (by
  have e1:B4 2 enc (xs++[a])= .own 2 (xs.length+1) (xs.flatMap enc++[c,d]):=by simp [B4,he]
  rw [e1] at h2;subst hH hN;exact h2)
theorem ac1 {α:Type}{enc:α->List Data}{xs:List α}{a:α}{j k bytes id off:Nat}{y:u5}{u u' :List Nat}{d' :Option Nat}{g' :Option (Nat×Bool)}{n' :Nat}{cs' :List Data}{c:Data}{old new:List b6}{H2:o6}
  (hr:roomFor (xs.length+1) bytes=true) (he:enc a=[c]) (hj:lk n rl j=some (.d (.slice n' cs')):=by rfl) (ha:j4[j]? =some ⟨.load none (.loc k),d',g',u'⟩:=by rfl) (hk:lk n rl k=some (.ptr id off):=by rfl) (ht:n7.any (Touch.aJ id off)=false:=by rfl) (hl:l.may id=true:=by rfl) (ho:H[id]? =some (.cells old):=by rfl) (hc:old[off]? =some (B4 1 enc xs):=by rfl)
  (hy:rq T n rl y= .d (.slice 1 [c]):=by rfl) (hN:old.set off (.d (A5 enc xs))=new:=by rfl) (hH:H.set id (.cells new)=H2:=by simp only [List.set_cons_zero,List.set_cons_succ]<;>rfl)
  (h2:Ry A l b dr j4 ops T H2 (n+1) (B4 1 enc (xs++[a])::rl) (.cell id off::n7) Q):Ry A l b dr j4 (⟨.append 1 bytes false (.loc j) y,none,none,u⟩::ops) T H n rl n7 Q :=
 Ry.Yi hj ha hk ht hl ho hc hy rfl hr (by decide) (by
  have e1:B4 1 enc (xs++[a])= .own 1 (xs.length+1) (xs.flatMap enc++[c]):=by simp [B4,he]
  rw [e1] at h2;subst hH hN;exact h2)
theorem soO {id off j z n0:Nat}{y:u5}{u:List Nat}{cs:List Data}{old new:List b6}{H2:o6}{r2:List b6}(hy:rq T n rl y= .ptr id off:=by rfl)(hj:lk n rl j=some (.own z n0 cs):=by rfl)(hjb:J9 (j+1) n=true:=by rfl)(hl:l.may id=true:=by rfl)
  (ho:H[id]? =some (.cells old):=by rfl) (hq:J9 (off+1) old.length=true:=by rfl) (hd:dr=true->J9 (sB j4) n=true:=by intro;rfl) (hN:old.set off (.own z n0 cs)=new:=by rfl) (hH:H.set id (.cells new)=H2:=by simp only [List.set_cons_zero,List.set_cons_succ]<;>rfl)
  (hS:rl.set (n - (j+1)) (.d (.slice n0 cs))=r2:=by simp only [Nat.reduceAdd,Nat.reduceSub,List.set_cons_zero,List.set_cons_succ]<;>rfl)
  (h2:Ry A l b dr j4 ops T H2 (n+1) (.any::r2) (.obj id::n7) Q):Ry A l b dr j4 (⟨.store 1 y (.loc j),none,none,u⟩::ops) T H n rl n7 Q:=fun hn=>by
 subst hH hN hS;have Za :off<old.length:=m8 hq;have hjl:rl.reverse[j]? =some (.own z n0 cs):=by rw [fB hn];exact hj
 have hL:∀ r:List b6,(rl.reverse++ .any::r)[j]? =some (.own z n0 cs):=fun r=>oZ hjl _
 have hjn:j<rl.reverse.length:=by simp only [List.length_reverse,hn];exact m8 hjb
 have h3:∀ (a:b6) (r:List b6),(rl.reverse++a::r).set j (.d (.slice n0 cs))=rl.reverse.set j (.d (.slice n0 cs))++a::r:=fun a r=>List.set_append_left _ _ hjn
 have hlen:(rl.reverse.set j (.d (.slice n0 cs))).length=rl.reverse.length:=by simp
 have h4:∀ (a v:b6) (r:List b6),(rl.reverse.set j (.d (.slice n0 cs))++a::r).set rl.reverse.length v=rl.reverse.set j (.d (.slice n0 cs))++v::r:=fun a v r=>by rw [<- hlen];exact F5 _ _ _ _
 have h1:splice old off [.own z n0 cs]=old.set off (.own z n0 cs):=by
  simp only [splice,List.length_singleton];rw [List.set_eq_take_append_cons_drop,if_pos Za];simp
 have hw:wr H id off [.own z n0 cs]=some (H.set id (.cells (old.set off (.own z n0 cs)))):=by
  simp only [wr,ho,List.length_singleton,h1];rw [if_pos (by omega)]
 have QJ :=h2.to (by simp [hn]);rw [<- Ce hn hjb] at QJ;have e1:∀ k,0<=k->y9 (K4 A k l b) j4 none rl.reverse.length ⟨.store 1 y (.loc j),none,none,u⟩ ⟨T,H,rl.reverse++ .any::c9 ops.length .any,n7⟩=some (⟨T,H.set id (.cells (old.set off (.own z n0 cs))),rl.reverse.set j (.d (.slice n0 cs))++ .any::c9 ops.length .any,.obj id::n7⟩,[]):=fun k _=>by
  have hl' :(K4 A k l b).lim.may id=true:=hl;have hx:z7.D8 ⟨T,H,rl.reverse++ .any::c9 ops.length .any,n7⟩ (.loc j)=(.own z n0 cs,⟨T,H,rl.reverse.set j (.d (.slice n0 cs))++ .any::c9 ops.length .any,n7⟩):=by
   simp only [z7.D8,hL,h3]
  have hb0:A9 [b6.own z n0 cs]<=id+1:=Nat.zero_le _;have hc1:(b6.own z n0 cs).cells? =some [.own z n0 cs]:=rfl;simp only [y9,y5,D7,y6.E2,if_true,E9,Y5 hn,hy,Q0,hx,hc1,List.length_singleton,hl',hb0,true_or,and_self,hw,put,h4,u7,G4]
 cases dr with
 |false=>exact Rx.stepT (N1:=0) (rs:=[]) hlen e1 QJ
 |true =>
  refine Rx.EI (N1:=0) (rs:=[]) hlen rfl rfl e1 (fun h=> ?_) QJ;have:=m8 (hd rfl);simp [hn] at h;omega
end S
end
section
variable {A:Prog} {l:H7} {b:Nat}
variable {dr:Bool} {j4 ops:List n9} {T:List b6} {H:o6} {n:Nat} {rl:List b6} {n7:List Touch} {Q:List b6->o6->List b6->Prop}
namespace S
theorem Yp {f:FuncId}{x:u5}{xs:List u5}{u:List Nat}{v:b6}{first caps args:List b6}{m:Nat}{H0 H1:o6}{l2:H7}(hc:Pm A f args H0 l2 v H1)(QK:H1.length=m)(h2:Ry A l b dr j4 ops T H (n+1) (v::rl) n7 Q)(BF:Y2 ((H.take m).drop l.strict)<=m:=by exact Nat.zero_le _)(hcl:H9 H l.strict 8 (A9 args)=m:=by rfl)
  (MT:H.take m=H0:=by rfl) (hle:J9 m H.length=true:=by rfl) (lV:(⟨0,m,m,C5 H l.strict m⟩:H7)=l2:=by rfl) (hx:rq T n rl x= .func f first caps:=by rfl)
  (ha:first++xs.map (rq T n rl)++caps=args:=by rfl) (dM:A.prom f=false:=by rfl) (hm:A.mode f=1:=by rfl):Ry A l b dr j4 (⟨.au x xs,none,none,u⟩::ops) T H n rl n7 Q:=fun hn=>by
 obtain ⟨M,hc⟩:=hc;subst MT;refine Rx.step (N1:=M) (rs:=[]) rfl rfl (fun k hk=> ?_) (fun rs=>by simp [J8]) (h2.to hn);have h3:B9 (K4 A k l b) rl.reverse.length f args ⟨T,H,rl.reverse++ .any::c9 ops.length .any,n7⟩=some (put ⟨T,H,rl.reverse++ .any::c9 ops.length .any,n7⟩ rl.reverse.length v) :=
  qd dM hm hcl (m8 hle) BF lV (hc k hk) QK
 simp only [y9,y5,D7,y6.E2,if_true,E9,Y5 hn,hx,mF hn,ha,h3,u7,G4,put,F5]
theorem cv0 {f:FuncId}{x:u5}{xs:List u5}{u:List Nat}{v:b6}{first caps args:List b6}{m:Nat}{H0 HD H1 H2:o6}{l2:H7}(hc:Pm A f args H0 l2 v H1)(QK:H1.length=m)(BF:Y2 ((H.take m).drop l.strict)<=m:=by exact Nat.zero_le _)(hcl:H9 H l.strict 8 (A9 args)=m:=by rfl)
  (MT:H.take m=H0:=by rfl) (hle:J9 m H.length=true:=by rfl) (lV:(⟨l.SX,l.SW,m,C5 H l.strict m⟩:H7)=l2:=by rfl) (hx:rq T n rl x= .func f first caps:=by rfl)
  (ha:first++xs.map (rq T n rl)++caps=args:=by rfl) (dM:A.prom f=false:=by rfl) (hm:A.mode f=0:=by rfl) (hD:H.drop m=HD:=by rfl) (hA:H1++HD=H2:=by first|(simp only [List.cons_append,List.nil_append]<;>rfl)|rfl)
  (h2:Ry A l b false j4 ops T H2 (n+1) (v::rl) (.below m::n7) Q):Ry A l b false j4 (⟨.au x xs,none,none,u⟩::ops) T H n rl n7 Q:=fun hn=>by
 obtain ⟨M,hc⟩:=hc;subst MT hD hA;refine Rx.stepT (N1:=M) (rs:=[]) rfl (fun k hk=> ?_) (h2.to hn);have h3:B9 (K4 A k l b) rl.reverse.length f args ⟨T,H,rl.reverse++ .any::c9 ops.length .any,n7⟩=some (put ⟨T,H1++H.drop m,rl.reverse++ .any::c9 ops.length .any,.below m::n7⟩ rl.reverse.length v) :=
  vG dM hm hcl (m8 hle) BF lV (hc k hk) QK
 simp only [y9,y5,D7,y6.E2,if_true,E9,Y5 hn,hx,mF hn,ha,h3,u7,G4,put,F5]
end S
end
section
variable {A:Prog} {l:H7} {b:Nat}
def LC (j4:List n9)(na k:Nat)(e:ja):Prop :=
 na ∉ e.reads/\(k<sB j4->∀ rs,na ∉ rs->J8 e.DB rs=false)/\e.Cj<=na/\(∀ i,j4[k]? =some i->i.op.A0=true->e.id=na)/\(∀ i,j4[k]? =some i->i.op.RP=false->e.reads=[])
def Rz (A:Prog)(l:H7)(b:Nat)(j4 ops:List n9)(T:List b6)(H:o6)(n:Nat)(rl:List b6)(n7:List Touch)(na:Nat)(Q:List b6->o6->List b6->Prop):Prop :=
 rl.length=n->∃ r N,Q r.T r.H r.L/\∀ k,N<=k->∃ lg:List ja,P5 (K4 A k l b) j4 ops n na ⟨T,H,rl.reverse++c9 ops.length .any,n7⟩=some (r,lg)/\lg.length=ops.length/\∀ j e,lg[j]? =some e->LC j4 na (n+j) e
variable {j4 ops:List n9} {T:List b6} {H:o6} {n:Nat} {rl:List b6} {n7:List Touch} {na:Nat} {Q:List b6->o6->List b6->Prop}
theorem Rn.aA2 {T:List b6}{H:o6}{s:Nat}(tK:Y8 ops=[.dead])(uD:slotsOf ops=[.slot s])(hu:∀ i,i ∈ ops->∀ e,e ∈ i.cO->e<ops.length)(h:Rz A l b ops ops T (H++[.dead]) 0 [] [.slot s] H.length Q):Rn A l b ops true T H Q:=by
 obtain ⟨r,N,hq,h⟩:=h rfl;refine ⟨r,N,hq,fun n hn=> ?_⟩;obtain ⟨lg,e1,e2,e3⟩:=h n hn;simp only [List.reverse_nil,List.nil_append,Nat.zero_add] at e1 e3;have UT:tR ops lg=true:=by
  simp only [tR,List.all_eq_true];rintro ⟨i,le⟩ uB e he;obtain ⟨j,hj,hji⟩:=List.getElem_of_mem uB;simp only [List.length_zip] at hj;have QX:j<ops.length:=by omega
  have hj2:j<lg.length:=by omega
  simp only [List.getElem_zip,Prod.mk.injEq] at hji;obtain ⟨rfl,rfl⟩:=hji;have hi:ops[j] ∈ ops:=List.getElem_mem QX;have hlt:=hu _ hi e he;have he2:e<lg.length:=by omega
  rw [o8 he2];have c1:=e3 j _ (o8 hj2);have c2:=e3 e _ (o8 he2);cases hr:ops[j].op.RP with
  |true =>
   have hb:=vB hi hr he;have h5:=c2.2.1 hb _ c1.1;have ha:ops[j].op.A0=false:=by
    cases ho:ops[j].op<;>rw [ho] at hr<;>first|rfl|(cases hr)
   simp [h5,ha]
  |false =>
   have h5:=c1.2.2.2.2 _ (o8 QX) hr;cases ha:ops[j].op.A0 with
   |false=>simp [h5,J8]
   |true =>
    have h7:=c1.2.2.2.1 _ (o8 QX) ha;have h6:=c2.2.2.1;simp [h5,J8];omega
 simp only [O9,if_true,tK,uD,e1,UT]
theorem Rz.nil (h:Q T H rl.reverse):Rz A l b j4 [] T H n rl n7 na Q:=fun _=>⟨⟨T,H,rl.reverse,n7⟩,0,h,fun _ _=>⟨[],by simp [P5],rfl,fun j e h=>by simp at h⟩⟩
theorem Rz.step {i:n9}{T' :List b6}{H' :o6}{v:b6}{dD :List Touch}{rs:List Nat}{N1:Nat}(hk:∀ L,E7 ⟨T,H,L,n7⟩ i.op=false)(hi:j4[n]? =some i)
  (h:rl.length=n->∀ k,N1<=k->y9 (K4 A k l b) j4 (if i.op.A0 then some na else none) n i ⟨T,H,rl.reverse++ .any::c9 ops.length .any,n7⟩=some (⟨T',H',rl.reverse++v::c9 ops.length .any,dD⟩,rs))
  (hr:na ∉ rs) (ht:n<sB j4->∀ rs,na ∉ rs->J8 (kF (if i.op.A0 then some na else none)++dD.take (dD.length - n7.length)) rs=false) (Iy:∀ k,L5 (K4 A k l b) ⟨T,H,rl.reverse++ .any::c9 ops.length .any,n7⟩ i.op<=na)
  (hn2:i.op.A0=true->∀ j,j ∈ ops->j.op.A0=false) (h2:∀ Zp,(i.op.A0=false->Zp =na)->Rz A l b j4 ops T' H' (n+1) (v::rl) dD na Q/\(i.op.A0=true->∀ k r lg,P5 (K4 A k l b) j4 ops (n+1) na ⟨T',H',(v::rl).reverse++c9 ops.length .any,dD⟩=some (r,lg)->P5 (K4 A k l b) j4 ops (n+1) (na+1) ⟨T',H',(v::rl).reverse++c9 ops.length .any,dD⟩=some (r,lg))) :
  Rz A l b j4 (i::ops) T H n rl n7 na Q:=fun hn=>by
 obtain ⟨h2,h2a⟩:=h2 na (fun _=>rfl);obtain ⟨r,N,hq,h2⟩:=h2 (by simp [hn]);refine ⟨r,max N N1,hq,fun k hkk=> ?_⟩;obtain ⟨lg,e1,e2,e3⟩:=h2 k (by omega);have h4:=h hn k (by omega);have UC :P5 (K4 A k l b) j4 ops (n+1) (if i.op.A0 then na+1 else na) ⟨T',H',rl.reverse++v::c9 ops.length .any,dD⟩=some (r,lg):=by
  cases ha:i.op.A0 with
  |false=>simpa using e1
  |true=>simpa using h2a ha k r lg e1
 refine ⟨cJ (K4 A k l b) i (if i.op.A0 then some na else none) ⟨T,H,rl.reverse++ .any::c9 ops.length .any,n7⟩ ⟨T',H',rl.reverse++v::c9 ops.length .any,dD⟩ rs::lg,?_,by simp [e2],?_⟩
 ·simp only [P5,List.length_cons,List.replicate_succ,iA,hk,Bool.false_and,b7,if_false,h4,UC]
 ·intro j e he
  cases j with
  |zero =>
   simp only [List.getElem?_cons_zero,Option.some.injEq] at he;subst he;refine ⟨hr,fun hb=>ht (by omega),Iy k,fun i' hi' ha=> ?_,fun i' hi' hr' => ?_⟩
   ·rw [Nat.add_zero,hi] at hi'
    cases hi';simp [cJ,ha]
   ·rw [Nat.add_zero,hi] at hi'
    cases hi';exact xL h4 hr'
  |succ j =>
   simp only [List.getElem?_cons_succ] at he;have:=e3 j e he
   rwa [I8,Nat.add_comm 1 j] at this
theorem xl {E:Env}:∀ (ops:List n9) (k na Zp :Nat) (st:F0),(∀ j,j ∈ ops->j.op.A0=false)->P5 E j4 ops k na st=P5 E j4 ops k Zp st
 |[],_,_,_,_,_=>rfl
 |i::ops,k,na,Zp,st,h=>by
  have hi:=h i (List.mem_cons_self);simp only [P5,hi,b7,if_false];cases iA E j4 none k i st with
  |none=>rfl
  |some x=>simp only [xl ops (k+1) na Zp x.1 (fun j hj=>h j (List.mem_cons_of_mem _ hj))]
end
section
variable {A:Prog} {l:H7} {b:Nat}
variable {j4 ops:List n9} {T:List b6} {H:o6} {n:Nat} {rl:List b6} {n7:List Touch} {na:Nat} {Q:List b6->o6->List b6->Prop}
theorem Rz.simple {i:n9}{v:b6}{rs:List Nat}{N1:Nat}(ha:i.op.A0=false)(hk:∀ L,E7 ⟨T,H,L,n7⟩ i.op=false)(hi:j4[n]? =some i)
  (h:rl.length=n->∀ k,N1<=k->y9 (K4 A k l b) j4 none n i ⟨T,H,rl.reverse++ .any::c9 ops.length .any,n7⟩=some (⟨T,H,rl.reverse++v::c9 ops.length .any,n7⟩,rs))
  (hr:na ∉ rs) (hs:∀ k,L5 (K4 A k l b) ⟨T,H,rl.reverse++ .any::c9 ops.length .any,n7⟩ i.op<=na) (h2:Rz A l b j4 ops T H (n+1) (v::rl) n7 na Q):Rz A l b j4 (i::ops) T H n rl n7 na Q :=
 Rz.step (N1:=N1) hk hi (fun hn k hk=>by rw [ha];exact h hn k hk) hr (fun _ rs _=>by rw [ha];simp [kF,J8]) hs (fun h=>by rw [ha] at h;cases h) (fun _ _=>⟨h2,fun h=>by rw [ha] at h;cases h⟩)
namespace S
theorem zn (h:Q T H rl.reverse):Rz A l b j4 [] T H n rl n7 na Q:=Rz.nil h
theorem zp {op:y6}{u:List Nat}{rs:List Nat}(v:b6)(hp:m7 (rq T n rl) H op=some (v,rs))(h2:Rz A l b j4 ops T H (n+1) (v::rl) n7 na Q)(hr:na ∉ rs:=by simp)(hE:op.E2=false:=by rfl)(ha:op.A0=false:=by rfl)(hk:∀ L,E7 ⟨T,H,L,n7⟩ op=false:=by intro;rfl)(hi:j4[n]? =some ⟨op,none,none,u⟩:=by rfl)
  (hs:∀ k,L5 (K4 A k l b) ⟨T,H,rl.reverse++ .any::c9 ops.length .any,n7⟩ op<=na:=by intro;exact Nat.zero_le _):Rz A l b j4 (⟨op,none,none,u⟩::ops) T H n rl n7 na Q:=by
 refine Rz.simple (N1:=0) (rs:=rs) ha hk hi (fun hn k _=> ?_) hr hs h2;have YX:∀ x,op≠ .N8 x:=by
  rintro x rfl;simp [m7] at hp
 have h4:m7 (z7.F8 T (rl.reverse++ .any::c9 ops.length .any)) H op=some (v,rs):=by
  rw [show z7.F8 T (rl.reverse++ .any::c9 ops.length .any)=rq T n rl from funext fun x=>Y5 hn _ x];exact hp
 have Qj:∀ (a:b6) (r:List b6),(rl.reverse++a::r).set n v=rl.reverse++v::r:=fun a r=>by rw [<- hn,<- List.length_reverse];exact F5 _ _ _ _
 have h3:D7 (K4 A k l b) j4 none n op ⟨T,H,rl.reverse++ .any::c9 ops.length .any,n7⟩=some (⟨T,H,rl.reverse++v::c9 ops.length .any,n7⟩,rs):=by
  cases op<;>first
   |exact absurd rfl (YX _)
   |(simp only [D7,hE,b7,if_false,h4,put,Qj];done)
   |(simp [y6.E2] at hE;done)
 simp only [y9,y5,h3,u7,G4]
theorem zm {x:u5}{u:List Nat}{v:b6}(h2:Rz A l b j4 ops T H (n+1) (v::rl) n7 na Q)(hx:Oq T n rl x v:=by exact ⟨rfl,rfl⟩)(hi:j4[n]? =some ⟨.N8 x,none,none,u⟩:=by rfl):Rz A l b j4 (⟨.N8 x,none,none,u⟩::ops) T H n rl n7 na Q:=by
 refine Rz.simple (N1:=0) (rs:=[]) rfl (fun _=>rfl) hi (fun hn k _=> ?_) (by simp) (fun k=>Nat.zero_le _) h2;have Qj:∀ (a:b6) (r:List b6),(rl.reverse++a::r).set n v=rl.reverse++v::r:=fun a r=>by rw [<- hn,<- List.length_reverse];exact F5 _ _ _ _
 simp only [y9,y5,D7,y6.E2,b7,if_false,(hx.op hn).D8,put,Qj,u7,G4]
theorem zc {f:FuncId}{xs:List u5}{u:List Nat}{v:b6}{args:List b6}{m:Nat}{H0 H1:o6}{l2:H7}(hc:Pm A f args H0 l2 v H1)(QK:H1.length=m)(h2:Rz A l b j4 ops T H (n+1) (v::rl) n7 na Q)(hmn:m<=na:=by decide)(BF:Y2 ((H.take m).drop l.strict)<=m:=by exact Nat.zero_le _)(hcl:H9 H l.strict 8 (A9 args)=m:=by rfl)
  (MT:H.take m=H0:=by rfl) (hle:J9 m H.length=true:=by rfl) (lV:(⟨0,m,m,C5 H l.strict m⟩:H7)=l2:=by rfl)
  (ha:xs.map (rq T n rl)=args:=by rfl) (dM:A.prom f=false:=by rfl) (hm:A.mode f=1:=by rfl) (hi:j4[n]? =some ⟨.call f xs,none,none,u⟩:=by rfl) (hn0:rl.length=n:=by rfl):Rz A l b j4 (⟨.call f xs,none,none,u⟩::ops) T H n rl n7 na Q:=by
 obtain ⟨M,hc⟩:=hc;subst MT;have GR :∀ k,(K4 A k l b).prom f=false:=fun _=>dM
 refine Rz.simple (N1:=M) (rs:=[]) rfl (fun _=>rfl) hi (fun hn k hk=> ?_) (by simp) (fun k=> ?_) h2
 ·have Qj:∀ (a:b6) (r:List b6),(rl.reverse++a::r).set n v=rl.reverse++v::r:=fun a r=>by rw [<- hn,<- List.length_reverse];exact F5 _ _ _ _
  have h3:B9 (K4 A k l b) n f args ⟨T,H,rl.reverse++ .any::c9 ops.length .any,n7⟩=some (put ⟨T,H,rl.reverse++ .any::c9 ops.length .any,n7⟩ n v) :=
   qd dM hm hcl (m8 hle) BF lV (hc k hk) QK
  simp only [y9,y5,D7,y6.E2,if_true,E9,mF hn,ha,h3,u7,G4,put,Qj]
 ·have at6 :H9 H (K4 A k l b).lim.strict 8 (A9 args)=m:=hcl
  simp only [L5,GR,b7,if_false,mF hn0,ha,at6];exact hmn
theorem za {zero:List b6}{u:List Nat}{s:Nat}{T2:List b6}{H2:o6}(hs:T[s]?.isSome=true:=by rfl)(htc:n7.any (Touch.R1 s)=true:=by rfl)(hT:T.set s (.ptr na 0)=T2:=by simp only [List.set_cons_zero,List.set_cons_succ]<;>rfl)(hH:H.set na (.cells zero)=H2:=by simp only [List.set_cons_zero,List.set_cons_succ]<;>rfl)
  (hi:j4[n]? =some ⟨.alloc zero,some s,none,u⟩:=by rfl) (hno:ops.all (fun j=> !j.op.A0)=true:=by rfl) (h2:Rz A l b j4 ops T2 H2 (n+1) (.ptr na 0::rl) n7 na Q):Rz A l b j4 (⟨.alloc zero,some s,none,u⟩::ops) T H n rl n7 na Q:=by
 subst hT hH;have hs:s<T.length:=by
  rcases p9 s T.length with h|h
  ·exact h
  ·rw [q9 h] at hs;cases hs
 have YZ :∀ j,j ∈ ops->j.op.A0=false:=fun j hj=>by simpa using List.all_eq_true.1 hno j hj
 refine Rz.step (N1:=0) (rs:=[]) (fun _=>rfl) hi (fun hn k _=> ?_) (by simp) (fun _ rs hrs=> ?_) (fun k=>Nat.zero_le _) (fun _=>YZ) (fun _ _=>⟨h2,fun _ k r lg h=>by rw [xl ops _ (na+1) na _ YZ];exact h⟩)
 ·have Qj:∀ (a v:b6) (r:List b6),(rl.reverse++a::r).set n v=rl.reverse++v::r:=fun a v r=>by rw [<- hn,<- List.length_reverse];exact F5 _ _ _ _
  have h3:∀ r:List b6,(rl.reverse++ .ptr na 0::r)[n]? =some (.ptr na 0):=fun r=>by rw [<- hn,<- List.length_reverse];simp
  simp only [y6.A0,if_true,y9,y5,D7,y6.E2,E9,J5,newId,Option.getD_some,put,Qj,u7,X6,hs,htc,z7.D8,h3,decide_true,Bool.and_self];simp [z7.F8,b6.G9,h3]
 ·simp only [y6.A0,if_true,kF,Nat.sub_self,List.take_zero,List.append_nil,J8,List.any_cons,List.any_nil,Bool.or_false]
  simp only [Touch.K1];rw [List.any_eq_false];intro x hx;simp;rintro rfl;exact hrs hx
theorem zs {m:Nat}{x y:u5}{u:List Nat}{v:b6}{cs old:List b6}{H2:o6}(hd:J9 (sB j4) n=true:=by rfl)(hy:rq T n rl y= .ptr na 0:=by rfl)(hx:Oq T n rl x v:=by exact ⟨rfl,rfl⟩)(hc:v.cells? =some cs:=by rfl)(hm:cs.length=m:=by rfl)(hl:l.may na=true:=by rfl)(hb:A9 cs=0:=by rfl)
  (ho:H[na]? =some (.cells old):=by rfl) (hq:old.length=m:=by rfl) (hH:H.set na (.cells cs)=H2:=by simp only [List.set_cons_zero,List.set_cons_succ]<;>rfl) (hi:j4[n]? =some ⟨.store m y x,none,none,u⟩:=by rfl)
  (h2:Rz A l b j4 ops T H2 (n+1) (.any::rl) (.obj na::n7) na Q):Rz A l b j4 (⟨.store m y x,none,none,u⟩::ops) T H n rl n7 na Q:=by
 have hw:wr H na 0 cs=some H2:=by
  simp [wr,ho,hm,hq,splice,<- hH];rw [m6 (by omega)];simp
 refine Rz.step (N1:=0) (rs:=[]) (fun _=>rfl) hi (fun hn k _=> ?_) (by simp) (fun h=> ?_) (fun k=>Nat.zero_le _) (fun h=>by cases h) (fun _ _=>⟨h2,fun h=>by cases h⟩)
 ·have hl' :(K4 A k l b).lim.may na=true:=hl
  have hb' :A9 cs<=na+1:=by omega
  have Qj:∀ (a v:b6) (r:List b6),(rl.reverse++a::r).set n v=rl.reverse++v::r:=fun a v r=>by rw [<- hn,<- List.length_reverse];exact F5 _ _ _ _
  simp only [y6.A0,b7,if_false,y9,y5,D7,y6.E2,if_true,E9,Y5 hn,hy,Q0,(hx.op hn).D8,hc,hm,hl',hb',true_or,and_self,hw,put,Qj,u7,G4]
 ·have:=m8 hd
  omega
end S
end
section
variable {A:Prog} {l:H7} {b:Nat}
variable {dr:Bool} {j4 ops:List n9} {T:List b6} {H:o6} {n:Nat} {rl:List b6} {n7:List Touch} {Q:List b6->o6->List b6->Prop}
namespace S
theorem o12 {x y:u5}{u:List Nat}{z1 z2:b6}{c d:Data}(h2:Ry A l b dr j4 ops T H (n+1) (.own 1 2 [c,d]::rl) n7 Q)(hx:rq T n rl x= .d c:=by rfl)(hy:rq T n rl y= .d d:=by rfl):Ry A l b dr j4 (⟨.A1 1 2 [z1,z2] [(0,1,x),(1,1,y)] false,none,none,u⟩::ops) T H n rl n7 Q :=
 Ry.pure (rs:=[]) rfl (by simp [m7,bH,hx,hy,b6.cells?,splice,M9,b6.data?,b6.one]) h2
theorem lq2 {α β:Type}{e1:α->List Data}{e2:β->List Data}{xs:List α}{ys:List β}{x:u5}{u:List Nat}{id z1 z2:Nat}(h2:Ry A l b dr j4 ops T H (n+1) (.agg [.d (A5 e1 xs),.d (A5 e2 ys)]::rl) n7 Q)(hx:rq T n rl x= .ptr id 0:=by rfl)(ho:H[id]? =some (.cells [B4 z1 e1 xs,B4 z2 e2 ys]):=by rfl) :
  Ry A l b dr j4 (⟨.load (some 2) x,none,none,u⟩::ops) T H n rl n7 Q :=
 Ry.pure (rs:=[id]) rfl (by simp [m7,hx,rd,ho,B4,A5,b6.G9]) h2
end S
end
section
variable {A:Prog} {l:H7} {b:Nat}
variable {j4 ops:List n9} {T:List b6} {H:o6} {n:Nat} {rl:List b6} {n7:List Touch} {na:Nat} {Q:List b6->o6->List b6->Prop}
namespace S
theorem zix {α:Type} [Inhabited α] {enc:α->List Data}{xs:List α}{sz:Nat}{e:Int}{x y:u5}{k:IntKind}{u:List Nat}(h0:0<=e/\e<xs.length)(h2:Rz A l b j4 ops T H (n+1) (.Q9 (enc (nth xs e.toNat)++(xs.drop (e.toNat+1)).flatMap enc)::rl) n7 na Q)(hx:rq T n rl x= .d (A5 enc xs):=by rfl)(hy:rq T n rl y= .d (.int k e):=by rfl)(hs:∀ a,(enc a).length=sz:=by intro;rfl)
  (hi:j4[n]? =some ⟨.C3 sz x y,none,none,u⟩:=by rfl):Rz A l b j4 (⟨.C3 sz x y,none,none,u⟩::ops) T H n rl n7 na Q:=by
 refine zp (rs:=[]) _ ?_ h2 (hi:=hi);have hl:e.toNat<xs.length:=by omega
 have h3:=kj hs xs e.toNat hl;rw [<- K0 hl] at h3;simp only [m7,hx,hy,A5,h0,and_self,if_true,h3]
theorem zle {cs rest:List Data}{x:u5}{m:Nat}{u:List Nat}(h2:Rz A l b j4 ops T H (n+1) (.agg (cs.map .d)::rl) n7 na Q)(hx:rq T n rl x= .Q9 (cs++rest):=by rfl)(hm:cs.length=m:=by rfl)(hi:j4[n]? =some ⟨.load (some m) x,none,none,u⟩:=by rfl):Rz A l b j4 (⟨.load (some m) x,none,none,u⟩::ops) T H n rl n7 na Q:=by
 refine zp (rs:=[]) _ ?_ h2 (hi:=hi);subst hm;simp [m7,hx]
theorem soD {dr:Bool}{m id:Nat}{x y:u5}{u:List Nat}{v:b6}{cs old:List b6}{H2:o6}(hd:J9 (sB j4) n=true:=by rfl)(hy:rq T n rl y= .ptr id 0:=by rfl)(hx:Oq T n rl x v:=by exact ⟨rfl,rfl⟩)(hc:v.cells? =some cs:=by rfl)(hm:cs.length=m:=by rfl)(hl:l.may id=true:=by rfl)(hb:A9 cs=0:=by rfl)
  (ho:H[id]? =some (.cells old):=by rfl) (hq:old.length=m:=by rfl) (hH:H.set id (.cells cs)=H2:=by simp only [List.set_cons_zero,List.set_cons_succ]<;>rfl)
  (h2:Ry A l b dr j4 ops T H2 (n+1) (.any::rl) (.obj id::n7) Q):Ry A l b dr j4 (⟨.store m y x,none,none,u⟩::ops) T H n rl n7 Q :=
 HO hd hy hx hc hm hl (by omega) (by simp [wr,ho,hm,hq,splice,<- hH];rw [m6 (by omega)];simp) h2
end S
end
section
variable {A:Prog} {l:H7} {b:Nat}
variable {dr:Bool} {j4 ops:List n9} {T:List b6} {H:o6} {n:Nat} {rl:List b6} {n7:List Touch} {Q:List b6->o6->List b6->Prop}
namespace S
theorem mk {u:List Nat}{id:Nat}{H2:o6}(hi:H.length=id:=by simp only [List.length_cons,List.length_nil,Nat.reduceAdd]<;>rfl)(hH:H++[.map []]=H2:=by simp only [List.cons_append,List.nil_append]<;>rfl)
  (h2:Ry A l b false j4 ops T H2 (n+1) (.map id::rl) n7 Q):Ry A l b false j4 (⟨.makeMap,none,none,u⟩::ops) T H n rl n7 Q:=fun hn=>by
 subst hi hH;refine Rx.stepT (N1:=0) (rs:=[]) rfl (fun n _=> ?_) (h2.to hn);simp only [y9,y5,D7,y6.E2,if_true,E9,J5,newId,Option.getD_none,put,F5,u7,G4]
theorem Uy {sz len:Nat}{zero:List b6}{parts:List (Nat×Nat×u5)}{u:List Nat}{id:Nat}{H2:o6}(cs:List b6)(hr:bH zero (parts.map fun p=>(p.1,p.2.1,rq T n rl p.2.2))=some cs)(h0:0<sz/\cs.length=len * sz)(hi:H.length=id:=by simp only [List.length_cons,List.length_nil,Nat.reduceAdd]<;>rfl)(hH:H++[.cells cs]=H2:=by simp only [List.cons_append,List.nil_append]<;>rfl)
  (h2:Ry A l b false j4 ops T H2 (n+1) (.E3 id sz 0 len::rl) n7 Q):Ry A l b false j4 (⟨.A1 sz len zero parts true,none,none,u⟩::ops) T H n rl n7 Q:=fun hn=>by
 subst hi hH;refine Rx.stepT (N1:=0) (rs:=[]) rfl (fun k _=> ?_) (h2.to hn);have hr' :bH zero (parts.map fun p=>(p.1,p.2.1,z7.F8 T (rl.reverse++ .any::c9 ops.length .any) p.2.2))=some cs:=by
  rw [show z7.F8 T (rl.reverse++ .any::c9 ops.length .any)=rq T n rl from funext fun x=>Y5 hn _ x];exact hr
 simp only [y9,y5,D7,y6.E2,if_true,E9,hr',h0,and_self,J5,newId,Option.getD_none,put,F5,u7,G4]
theorem lrT {x:u5}{u:List Nat}{id sz lo len s:Nat}{T2:List b6}(hx:rq T n rl x= .E3 id sz lo len:=by rfl)(hs:T[s]?.isSome=true:=by rfl)(hT:T.set s (.d (.int .i64 (len:Int)))=T2:=by simp only [List.set_cons_zero,List.set_cons_succ]<;>rfl)
  (h2:Ry A l b dr j4 ops T2 H (n+1) (.d (.int .i64 (len:Int))::rl) (.slot s::n7) Q):Ry A l b dr j4 (⟨.len x,some s,none,u⟩::ops) T H n rl n7 Q :=
 Ry.xg (v:= .d (.int .i64 (len:Int))) (rs:=[]) rfl (by simp only [m7,hx,i64]) rfl rfl hs (by rw [hT];exact h2)
theorem ixs {x y:u5}{u:List Nat}{id sz lo len i:Nat}{k:IntKind}(hi:i<len)(h2:Ry A l b dr j4 ops T H (n+1) (.ptr id (lo+i * sz)::rl) n7 Q)(hx:rq T n rl x= .E3 id sz lo len:=by rfl)(hy:rq T n rl y= .d (.int k ((i:Nat):Int)):=by rfl):Ry A l b dr j4 (⟨.C3 sz x y,none,none,u⟩::ops) T H n rl n7 Q :=
 Ry.pure (rs:=[]) rfl (by
  have h1:(i:Int)<len:=by omega
  simp [m7,hx,hy,h1]) h2
theorem lqV {x:u5}{u:List Nat}{id o m:Nat}{vs:List b6}(hr:rd H id o m=some vs)(hv:vs.map b6.G9=vs)(h2:Ry A l b dr j4 ops T H (n+1) (.agg vs::rl) n7 Q)(hx:rq T n rl x= .ptr id o:=by rfl):Ry A l b dr j4 (⟨.load (some m) x,none,none,u⟩::ops) T H n rl n7 Q :=
 Ry.pure (rs:=[id]) rfl (by simp only [m7,hx,hr,hv]) h2
theorem soB {m id:Nat}{x y:u5}{u:List Nat}{v:b6}{cs old:List b6}{H2:o6}(hb:A9 cs<=id+1)(hy:rq T n rl y= .ptr id 0:=by rfl)(hx:Oq T n rl x v:=by exact ⟨rfl,rfl⟩)(hc:v.cells? =some cs:=by rfl)(hm:cs.length=m:=by rfl)(hl:l.may id=true:=by rfl)
  (ho:H[id]? =some (.cells old):=by rfl) (hq:old.length=m:=by rfl) (hH:H.set id (.cells cs)=H2:=by simp only [List.set_cons_zero,List.set_cons_succ]<;>rfl)
  (h2:Ry A l b false j4 ops T H2 (n+1) (.any::rl) (.obj id::n7) Q):Ry A l b false j4 (⟨.store m y x,none,none,u⟩::ops) T H n rl n7 Q :=
 tj hy hx hc hm hl hb (by simp [wr,ho,hm,hq,splice,<- hH];rw [m6 (by omega)];simp) h2
end S
theorem vP {mask:List Bool}{strict m:Nat}{T:List b6}{H:o6}(h1:A9 (S5 mask T)<=m)(h2:Y2 ((H.take m).drop strict)<=m):clean mask strict m ⟨T,H⟩=⟨S5 mask T,H.take m⟩:=by
 simp [clean,h1,h2]
end
section
variable {A:Prog} {l:H7} {b:Nat}
variable {j4 ops:List n9} {T:List b6} {H:o6} {n:Nat} {rl:List b6} {n7:List Touch} {Q:List b6->o6->List b6->Prop}
namespace S
theorem cp {f:FuncId}{xs:List u5}{u:List Nat}{v:b6}{args:List b6}{H1:o6}(hc:Pm A f args H l v H1)(hle:H.length<=H1.length)(h2:Ry A l b false j4 ops T H1 (n+1) (v::rl) (.below H1.length::n7) Q)(ha:xs.map (rq T n rl)=args:=by rfl)(dM:A.prom f=true:=by rfl) :
  Ry A l b false j4 (⟨.call f xs,none,none,u⟩::ops) T H n rl n7 Q:=fun hn=>by
 obtain ⟨M,hc⟩:=hc;refine Rx.stepT (N1:=M) (rs:=[]) rfl (fun k hk=> ?_) (h2.to hn);have GR :(K4 A k l b).prom f=true:=dM;have qw :(K4 A k l b).cf f args H (K4 A k l b).lim=some (v,H1):=hc k hk;have h3:B9 (K4 A k l b) rl.reverse.length f args ⟨T,H,rl.reverse++ .any::c9 ops.length .any,n7⟩=some (put ⟨T,H1,rl.reverse++ .any::c9 ops.length .any,.below H1.length::n7⟩ rl.reverse.length v):=by
  simp only [B9,GR,if_true,qw,hle]
 simp only [y9,y5,D7,y6.E2,if_true,E9,mF hn,ha,h3,u7,G4,put,F5]
end S
end
theorem zQ (id:Nat):∀ l:List b6,J0 id l=l.map (b6.kill id)
 |[]=>rfl
 |v::l=>by simp [J0,zQ id l]
theorem Lo {id m:Nat}(rl:List b6):J0 id (rl.reverse++ .any::c9 m .any)=(J0 id rl).reverse++ .any::c9 m .any:=by
 simp [zQ,b6.kill]
theorem Pm.gB {A:Prog}{f:FuncId}{args:List b6}{H H1:o6}{l:H7}{v:b6}{p:List b6->o6->H7->Option (b6×o6)}(hp:A.gB f=some p)(h:p args H l=some (v,H1)):Pm A f args H l v H1 :=
 ⟨1,fun n hn=>by
  obtain ⟨n,rfl⟩:∃ j,n=j+1:=⟨n - 1,by omega⟩;simp only [call,hp,h]⟩
section
variable {A:Prog} {l:H7} {b:Nat}
variable {dr:Bool} {j4 ops:List n9} {T:List b6} {H:o6} {n:Nat} {rl:List b6} {n7:List Touch} {Q:List b6->o6->List b6->Prop}
theorem Ry.Yk {j s sz bytes id off:Nat}{y:u5}{u u' :List Nat}{d' :Option Nat}{g' :Option (Nat×Bool)}{n' len m:Nat}{cs' cells new:List Data}{old:List b6}
  (hj:lk n rl j=some (.d (.slice n' cs'))) (ha:j4[j]? =some ⟨.load none (.slot s),d',g',u'⟩) (hk:T[s]? =some (.ptr id off)) (hts:n7.any (Touch.R1 s)=false) (ht:n7.any (Touch.aJ id off)=false) (hl:l.may id=true) (ho:H[id]? =some (.cells old)) (hc:old[off]? =some (.own sz len cells))
  (hy:rq T n rl y= .d (.slice m new)) (hn' :new.length=m * sz) (hr:roomFor (len+m) bytes=true) (h0:0<sz)
  (h2:Ry A l b dr j4 ops T (H.set id (.cells (old.set off (.d (.slice len cells))))) (n+1) (.own sz (len+m) (cells++new)::rl) (.cell id off::n7) Q):Ry A l b dr j4 (⟨.append sz bytes false (.loc j) y,none,none,u⟩::ops) T H n rl n7 Q:=fun hn=>by
 have hjl:rl.reverse[j]? =some (.d (.slice n' cs')):=by rw [fB hn];exact hj
 have hL:∀ r:List b6,(rl.reverse++ .any::r)[j]? =some (.d (.slice n' cs')):=fun r=>oZ hjl _
 have wz:z7.F8 T (rl.reverse++ .any::c9 ops.length .any) (.loc j)= .d (.slice n' cs'):=by simp [z7.F8,hL,b6.G9]
 refine Rx.step (N1:=0) (rs:=[]) (by simp only [E7,wz]) rfl (fun q _=> ?_) (zv id off n7) (h2.to hn);have hl' :(K4 A q l b).lim.may id=true:=hl;have hs:J7 H sz (.d (.slice m new))=some (m,new.map .d):=by simp only [J7,hn',if_true]
 simp only [y9,y5,D7,y6.E2,if_true,E9,wz,K5,Y5 hn,hy,hs,fV,b7,if_false,P6,hL,ha,U9,Z6,hk,hts,ht,hl',Bool.not_true,Bool.or_self,ho,hc,hr,h0,and_self,put,F5,u7,G4]
theorem S.aj9 {α:Type}{enc:α->List Data}{xs:List α}{a:α}{j s bytes id off:Nat}{y:u5}{u u' :List Nat}{d' :Option Nat}{g' :Option (Nat×Bool)}{n' :Nat}{cs' :List Data}{c:Data}{old new:List b6}{H2:o6}
  (hr:roomFor (xs.length+1) bytes=true) (he:enc a=[c]) (hj:lk n rl j=some (.d (.slice n' cs')):=by rfl) (ha:j4[j]? =some ⟨.load none (.slot s),d',g',u'⟩:=by rfl) (hk:T[s]? =some (.ptr id off):=by rfl) (hts:n7.any (Touch.R1 s)=false:=by rfl) (ht:n7.any (Touch.aJ id off)=false:=by rfl) (hl:l.may id=true:=by rfl) (ho:H[id]? =some (.cells old):=by rfl) (hc:old[off]? =some (B4 1 enc xs):=by rfl)
  (hy:rq T n rl y= .d (.slice 1 [c]):=by rfl) (hN:old.set off (.d (A5 enc xs))=new:=by rfl) (hH:H.set id (.cells new)=H2:=by simp only [List.set_cons_zero,List.set_cons_succ]<;>rfl)
  (h2:Ry A l b dr j4 ops T H2 (n+1) (B4 1 enc (xs++[a])::rl) (.cell id off::n7) Q):Ry A l b dr j4 (⟨.append 1 bytes false (.loc j) y,none,none,u⟩::ops) T H n rl n7 Q :=
 Ry.Yk hj ha hk hts ht hl ho hc hy rfl hr (by decide) (by
  have e1:B4 1 enc (xs++[a])= .own 1 (xs.length+1) (xs.flatMap enc++[c]):=by simp [B4,he]
  rw [e1] at h2;subst hH hN;exact h2)
theorem S.Vk {s:Nat}{w v:b6}{u:List Nat}(hw:w.G9=v)(h2:Ry A l b dr j4 ops T H (n+1) (v::rl) n7 Q)(hx:T[s]? =some w:=by rfl):Ry A l b dr j4 (⟨.N8 (.slot s),none,none,u⟩::ops) T H n rl n7 Q:=fun hn=>by
 subst hw;refine Rx.step (N1:=0) (rs:=[]) rfl rfl (fun q _=> ?_) (fun rs=>by simp [J8]) (h2.to hn);have h3:z7.F8 T (rl.reverse++ .any::c9 ops.length .any) (.slot s)=w.G9:=by simp [z7.F8,hx]
 simp only [y9,y5,D7,y6.E2,b7,if_false,z7.D8,h3,put,F5,u7,G4]
end
section
variable {A:Prog} {l:H7} {b:Nat}
variable {j4 ops:List n9} {T:List b6} {H:o6} {n:Nat} {rl:List b6} {n7:List Touch} {Q:List b6->o6->List b6->Prop}
namespace S
theorem mn {dr:Bool}{s:Nat}{T2:List b6}{u:List Nat}(hs:T[s]?.isSome=true:=by rfl)(hT:T.set s (.d (.slice 0 []))=T2:=by simp only [List.set_cons_zero,List.set_cons_succ]<;>rfl)(h2:Ry A l b dr j4 ops T2 H (n+1) (.J6::rl) (.slot s::n7) Q) :
  Ry A l b dr j4 (⟨.N8 (.const .J6),some s,none,u⟩::ops) T H n rl n7 Q:=fun hn=>by
 subst hT;have hs' :s<T.length:=by
  rcases p9 s T.length with h|h
  ·exact h
  ·rw [q9 h] at hs;cases hs
 refine Rx.step (N1:=0) (rs:=[]) rfl rfl (fun n _=> ?_) (fZ s n7) (h2.to hn);have h5:∀ r:List b6,(rl.reverse++ .J6::r)[rl.reverse.length]? =some .J6:=fun r=>by simp
 have h6:∀ r:List b6,z7.F8 T (rl.reverse++ .J6::r) (.loc rl.reverse.length)= .d (.slice 0 []):=fun r=>by simp [z7.F8,b6.G9]
 simp only [y9,y5,D7,y6.E2,b7,if_false,z7.D8,put,F5,u7,G4,hs',if_true,h5,h6]
theorem zsb {na:Nat}{x y:u5}{c d:Int}{u:List Nat}(h0: -9223372036854775808<=c - d/\c - d<9223372036854775808)(h2:Rz A l b j4 ops T H (n+1) (.d (.int .i64 (c - d))::rl) n7 na Q)(hx:rq T n rl x= .d (.int .i64 c):=by rfl)(hy:rq T n rl y= .d (.int .i64 d):=by rfl)
  (hi:j4[n]? =some ⟨.bin .sub x y,none,none,u⟩:=by rfl):Rz A l b j4 (⟨.bin .sub x y,none,none,u⟩::ops) T H n rl n7 na Q :=
 zp (rs:=[]) _ (by simp only [m7,hx,hy,Bl (Or.inr ⟨rfl,rfl⟩) h0.1 h0.2]) h2 (hi:=hi)
theorem apo {x y:u5}{u:List Nat}{sz bytes id len m k2:Nat}{old cs T2 rl2:List b6}{H2:o6}(hr:roomFor (len+m) bytes=true)(hc:J7 H sz (rq T n rl y)=some (m,cs))(WZ:len * sz=old.length)(hone:cs.all b6.one=true)(hbc:A9 cs=0)
  (hx:rq T n rl x= .E3 id sz 0 len:=by rfl) (hid:J9 l.base id=true:=by rfl) (QN:J9 b id=true:=by rfl) (hl:l.may id=true:=by rfl) (ho:H[id]? =some (.cells old):=by rfl) (hsz:J9 1 sz=true:=by rfl)
  (hT:J0 id T=T2:=by rfl) (hL:J0 id rl=rl2:=by rfl) (hH:(H.take l.base++(H.drop l.base).map (z6.kill id)).set id (.cells (J0 id old++cs))=H2:=by rfl)
  (hk2:len+m=k2:=by rfl) (h2:Ry A l b false j4 ops T2 H2 (n+1) (.E3 id sz 0 k2::rl2) (.obj id::n7) Q):Ry A l b false j4 (⟨.append sz bytes true x y,none,none,u⟩::ops) T H n rl n7 Q:=fun hn=>by
 subst hT hH hL hk2;have hid:=m8 hid;have QN:=m8 QN;have hsz:0<sz:=m8 hsz;have hn2:(J0 id rl).length=n:=by rw [M4];exact hn
 refine Rx.stepT (N1:=0) (rs:=[]) (by simp [M4]) (fun k _=> ?_) (h2.to hn2);have hl' :(K4 A k l b).lim.may id=true:=hl;have he:(K4 A k l b).lim.base<=id/\(K4 A k l b).entry<=id/\(K4 A k l b).lim.may id=true:=⟨hid,QN,hl'⟩;have hk:A9 cs<=id:=by omega
 have h5:W9 (K4 A k l b) rl.reverse.length sz bytes ⟨T,H,rl.reverse++ .any::c9 ops.length .any,n7⟩ id 0 len (rq T n rl y)=some (put ⟨J0 id T,(H.take l.base++(H.drop l.base).map (z6.kill id)).set id (.cells (J0 id old++cs)),(J0 id rl).reverse++ .any::c9 ops.length .any,.obj id::n7⟩ rl.reverse.length (.E3 id sz 0 (len+m))):=by
  simp only [W9,he,and_self,if_true,ho,hc,WZ,hr,hk,hone,hsz,Lo];rfl
 have hln:rl.reverse.length=(J0 id rl).reverse.length:=by simp [M4]
 simp only [y9,y5,D7,y6.E2,if_true,E9,Y5 hn,hx,h5,u7,G4,put];rw [hln,F5]
end S
end
end Go.z7
namespace Go.z7.S
theorem gx {Γ Δ:Prop}(k:Δ)(h:PLift Δ->Γ:=by intro K;(first|refine Ex.seq ?_|refine Ex.region (Rn.text ?_)|refine Ex.region (Rn.draw ?_)|refine Ex.block ?_|refine nl ?_|refine Ex.skip ?_|refine Ex.exit ?_|refine Ex.ret ?_|refine wa ?_|refine sk ?_|refine st ?_|refine mv ?_|refine mt (h2:= ?_)|refine mo ?_|refine lp ?_|refine lpo ?_|refine fp ?_|refine ld ?_|refine lf ?_|refine ln ?_|refine li ?_|refine lo ?_|refine gi ?_|refine go ?_|refine ei ?_|refine ni ?_|refine es ?_|refine ns ?_|refine ad ?_|refine sb ?_|refine ng ?_|refine lt ?_|refine le ?_|refine lq ?_|refine lq3 ?_|refine lq2 ?_|refine o12 ?_|refine et ?_|refine ix (h2:= ?_)|refine pt ?_|refine pk ?_|refine mw (h2:= ?_)|refine ow (h2:= ?_)|refine bx (h2:= ?_)|refine bxn (h2:= ?_)|refine nk ?_|refine nki ?_|refine ac (h2:= ?_)|refine so (h2:= ?_)|refine sp1 (h2:= ?_)|refine o1 ?_|refine o1z ?_|refine ap1 (h2:= ?_)|refine e0 ?_|refine apN (h2:= ?_)|refine al1 (h2:= ?_)|refine alN (h2:= ?_)|refine alE (h2:= ?_)|refine xs (h2:= ?_)|refine xsN (h2:= ?_)|refine ixN (h2:= ?_)|refine ixZ (h2:= ?_)|refine ls ?_|refine lnT (h2:= ?_)|refine lsT (h2:= ?_)|refine ldT (h2:= ?_)|refine lpT (h2:= ?_)|refine qs ?_|refine qb ?_|refine mm ?_|refine ip ?_|refine ipN ?_|refine ipM ?_|refine ay9 ?_|refine df ?_|refine mf ?_|refine Bk ?_|refine svh (h2:= ?_)|refine svl (h2:= ?_)|refine svb (h2:= ?_)|fail);exact K.down):Γ:=h ⟨k⟩
theorem gr {Γ Δ:Prop}(k:Δ)(h:PLift Δ->Γ:=by intro K;(repeat' (first|refine gx ?_|fail));exact K.down):Γ:=h ⟨k⟩
theorem cc {p:Prop}(h:p:=by first|(simp [*,b9];done)|(simp_all [b9];done)|(simp_all [b9,p8,p5,j9,B7];done)|(simp_all [b9,p8,p5,j9,B7]<;>omega)):p:=h
section
variable {A:Prog} {l:H7} {b:Nat}
theorem tB {ops:List n9}{draw:Bool}{c:u5}{d e:p6}{T:List b6}{H:o6}{Q:E4->St->Prop}{Δ:Prop}(t:Bool)(k:Δ)(h2:t=true->Ex A l b d ⟨T,H⟩ Q)(h3:t=false->Ex A l b e ⟨T,H⟩ Q)
  (h:PLift Δ->Rn A l b ops draw T H fun T' H' L=>T' =T/\H' =H/\∃ t',F8 T' L c= .d (.bool t')/\t' =t:=by intro K;first|exact Rn.text K.down|exact Rn.draw K.down):Ex A l b (.test ops draw c d e) ⟨T,H⟩ Q:=Ex.OU t (h ⟨k⟩) h2 h3
theorem tb {ops:List n9}{draw:Bool}{c:u5}{d e:p6}{T:List b6}{H:o6}{Q:E4->St->Prop}(t:Bool)(h2:t=true->Ex A l b d ⟨T,H⟩ Q)(h3:t=false->Ex A l b e ⟨T,H⟩ Q)
  (h:Rn A l b ops draw T H fun T' H' L=>T' =T/\H' =H/\∃ t',F8 T' L c= .d (.bool t')/\t' =t:=by (first|refine Rn.text ?_|refine Rn.draw ?_|fail);(repeat' (first|refine gx ?_|refine fk (h1:=fun hw=> ?_) (h2:=fun hw=> ?_)|refine L3 (h1:=fun hw=> ?_) (h2:=fun hw=> ?_)|refine ⟨rfl,rfl,_,rfl,?_⟩|refine ⟨rfl,rfl⟩|fail));all_goals exact cc) :
  Ex A l b (.test ops draw c d e) ⟨T,H⟩ Q:=Ex.OU t h h2 h3
end
end Go.z7.S
namespace Go.z7
def lE (op:Int):Int :=
 if o9 op 1||o9 op 2 then 0 else if o9 op 3||o9 op 9||o9 op 13||o9 op 16 then 1 else if o9 op 18 then 3 else if W6 1 op&&W6 op 18 then 2 else -1
def fE (k n:Int)(s:D6):Bool :=
 if o9 k 0 then o9 n 0&&J4 s [] else if o9 k 1 then W6 (-4294967296) n&&W6 n 4294967296&&J4 s [] else if o9 k 2 then o9 n 0&&W6 s.length 32 else false
def zeroV (t:aG):Bool:=o9 t.kind 0&&o9 t.int 0&&J4 t.text []
def de (t:aG):Bool :=
 if o9 t.op 1 then fE t.kind t.int t.text&& !o9 t.kind 0&&o9 t.col 0 else if o9 t.op 2 then zeroV t&&W6 0 t.col else zeroV t&&o9 t.col 0
def wR (t:aG):Bool:= !C7 (lE t.op) 0&&de t
theorem nr (op:Int):lE op<=3:=by
 unfold lE
 repeat' split
 all_goals omega
inductive aD where
 |node (t:aG) (l:List aD)
mutual
def aD.flat:aD->List aG
 | .node t l=>t::L0 l
def L0:List aD->List aG
 |[]=>[]
 |a::l=>a.flat++L0 l
end
mutual
def aD.dep:aD->Nat
 | .node _ l=>jZ l+1
def jZ:List aD->Nat
 |[]=>0
 |a::l=>max a.dep (jZ l)
end
mutual
def aD.wf:aD->Prop
 | .node t l=>wR t=true/\(lE t.op).toNat=l.length/\Sz l
def Sz:List aD->Prop
 |[]=>True
 |a::l=>a.wf/\Sz l
end
def cI (f:List aG->Option (aD×List aG)):Nat->List aG->Option (List aD×List aG)
 |0,r=>some ([],r)
 |k+1,r=>match f r with
  |none=>none
  |some (a,r')=>match cI f k r' with
   |none=>none
   |some (l,r2)=>some (a::l,r2)
def L4:Nat->List aG->Option (aD×List aG)
 |0,_=>none
 |_+1,[]=>none
 |d+1,t::r=>if wR t then match cI (L4 d) (lE t.op).toNat r with
   |none=>none
   |some (l,r')=>some (.node t l,r')
  else none
theorem wD {f:List aG->Option (aD×List aG)}{d:Nat}(hf:∀ r a r',f r=some (a,r')->r=a.flat++r' /\a.wf/\a.dep<=d):∀ (k:Nat) (r:List aG) (l:List aD) (r' :List aG),cI f k r=some (l,r')->r=L0 l++r' /\Sz l/\jZ l<=d/\l.length=k
 |0,r,l,r',h=>by
  simp only [cI,Option.some.injEq,Prod.mk.injEq] at h;obtain ⟨rfl,rfl⟩:=h;simp [L0,Sz,jZ]
 |k+1,r,l,r',h=>by
  simp only [cI] at h;split at h
  ·cases h
  ·rename_i a r1 h1
   split at h
   ·cases h
   ·rename_i l2 r2 h2
    simp only [Option.some.injEq,Prod.mk.injEq] at h;obtain ⟨rfl,rfl⟩:=h;obtain ⟨e1,e2,e3⟩:=hf _ _ _ h1;obtain ⟨g1,g2,g3,g4⟩:=wD hf k _ _ _ h2;refine ⟨?_,⟨e2,g2⟩,?_,by simp [g4]⟩
    ·rw [e1,g1];simp [L0]
    ·simp only [jZ];omega
theorem R9:∀ (d:Nat) (r:List aG) (a:aD) (r' :List aG),L4 d r=some (a,r')->r=a.flat++r' /\a.wf/\a.dep<=d
 |0,r,a,r',h=>by simp [L4] at h
 |d+1,[],a,r',h=>by simp [L4] at h
 |d+1,t::r,a,r',h=>by
  simp only [L4] at h;split at h
  ·rename_i ht
   split at h
   ·cases h
   ·rename_i l r1 h1
    simp only [Option.some.injEq,Prod.mk.injEq] at h;obtain ⟨rfl,rfl⟩:=h;obtain ⟨g1,g2,g3,g4⟩:=wD (R9 d) _ _ _ _ h1;refine ⟨?_,⟨ht,g4.symm,g2⟩,?_⟩
    ·rw [g1];simp [aD.flat]
    ·simp only [aD.dep];omega
  ·cases h
mutual
theorem V9:∀ (a:aD) (d:Nat) (r:List aG),a.wf->a.dep<=d->L4 d (a.flat++r)=some (a,r)
 | .node t l,0,r,_,h=>by simp [aD.dep] at h
 | .node t l,d+1,r,hw,h=>by
  simp only [aD.dep] at h;obtain ⟨h1,h2,h3⟩:=hw;have h4:=om l d r h3 (by omega);simp only [aD.flat,List.cons_append,L4,h1,if_true,h2,h4]
theorem om:∀ (l:List aD) (d:Nat) (r:List aG),Sz l->jZ l<=d->cI (L4 d) l.length (L0 l++r)=some (l,r)
 |[],d,r,_,_=>by simp [L0,cI]
 |a::l,d,r,hw,h=>by
  simp only [jZ] at h;have h1:=V9 a d (L0 l++r) hw.1 (by omega);have h2:=om l d r hw.2 (by omega);simp only [L0,List.append_assoc,List.length_cons,cI,h1,h2]
end
mutual
theorem lP:∀ a:aD,a.dep<=a.flat.length
 | .node t l=>by
  have:=zB l;simp only [aD.dep,aD.flat,List.length_cons];omega
theorem zB:∀ l:List aD,jZ l<=(L0 l).length
 |[]=>by simp [jZ]
 |a::l=>by
  have h1:=lP a;have h2:=zB l;simp only [jZ,L0,List.length_append];omega
end
theorem gn (a:aD):0<a.flat.length:=by
 cases a;simp [aD.flat]
theorem sG:∀ l:List aD,l.length<=(L0 l).length
 |[]=>by simp
 |a::l=>by
  have:=gn a;have:=sG l;simp only [L0,List.length_append,List.length_cons];omega
theorem BV {d d' :Nat}{r:List aG}(h:r.length<=d)(h' :r.length<=d'):L4 d r=L4 d' r:=by
 cases h1:L4 d r with
 |some p =>
  obtain ⟨a,r'⟩:=p;obtain ⟨e,w,_⟩:=R9 d r a r' h1;have hd:=lP a;have hl:a.flat.length<=r.length:=by rw [e];simp
  rw [e,V9 a d' r' w (by omega)]
 |none =>
  cases h2:L4 d' r with
  |none=>rfl
  |some p =>
   obtain ⟨a,r'⟩:=p;obtain ⟨e,w,_⟩:=R9 d' r a r' h2;have hd:=lP a;have hl:a.flat.length<=r.length:=by rw [e];simp
   rw [e,V9 a d r' w (by omega)] at h1;cases h1
def fD (op:Int)(t:List Int):Int :=
 if o9 op 3||o9 op 13 then (if o9 (nth t 0) 1 then 1 else 0)
 else if o9 op 8 then (if o9 (nth t 0) 2&&o9 (nth t 1) 2 then 2 else 0)
 else if o9 op 9 then (if o9 (nth t 0) 2 then 1 else 0)
 else if o9 op 10 then (if o9 (nth t 0) 2&&o9 (nth t 1) 1 then 2 else 0)
 else if o9 op 11||o9 op 12 then (if o9 (nth t 0) (nth t 1) then 1 else 0)
 else if o9 op 16 then 1
 else if o9 op 17 then (if o9 (nth t 0) (nth t 1) then nth t 0 else 0)
 else if o9 op 18 then (if o9 (nth t 0) 1&&o9 (nth t 1) (nth t 2) then nth t 1 else 0)
 else (if o9 (nth t 0) 1&&o9 (nth t 1) 1 then 1 else 0)
def zg (ty:List Int)(t:aG)(ts:List Int):Int×Int :=
 if o9 t.op 1 then (t.kind,0) else if o9 t.op 2 then (if W6 ty.length t.col then (0,3) else (nth ty t.col.toNat,0))
 else if o9 (fD t.op ts) 0 then (0,5) else (fD t.op ts,0)
mutual
def aD.typ (ty:List Int):aD->Int×Int
 | .node t l=>if o9 (fP ty l).2 0 then zg ty t (fP ty l).1 else (0,(fP ty l).2)
def fP (ty:List Int):List aD->List Int×Int
 |[]=>([],0)
 |a::l=>if o9 (a.typ ty).2 0 then ((a.typ ty).1::(fP ty l).1,(fP ty l).2) else ([],(a.typ ty).2)
end
def aQ (ty:List Int):Bool:=ty.all fun t=>o9 t 1||o9 t 2
def eD (e:List aG):Option aD:=if W6 1 e.length&&W6 e.length 64 then match L4 16 e with
  |some (a,[])=>some a
  |_=>none
 else none
def F7 (e:List aG)(ty:List Int):Int×Int:=match eD e with
 |none=>(0,1)
 |some a=>if aQ ty then a.typ ty else (0,1)
theorem uV {α:Type} [Inhabited α] (i:Nat):nth ([]:List α) i=default:=by simp [nth]
def Cc (ty:List Int)(t:aG)(a b c:Int):Int×Bool :=
 if o9 t.op 1 then (t.kind,true) else if o9 t.op 2 then (nth ty t.col.toNat,true)
 else if o9 t.op 3||o9 t.op 13 then (1,o9 a 1)
 else if o9 t.op 8 then (2,o9 a 2&&o9 b 2)
 else if o9 t.op 9 then (1,o9 a 2)
 else if o9 t.op 10 then (2,o9 a 2&&o9 b 1)
 else if o9 t.op 11||o9 t.op 12 then (1,o9 a b)
 else if o9 t.op 16 then (1,true)
 else if o9 t.op 17 then (a,o9 a b)
 else if o9 t.op 18 then (b,o9 a 1&&o9 b c)
 else (1,o9 a 1&&o9 b 1)
def good (x:Int):Prop:=x=1\/x=2
theorem DY {l:List Int}(h:∀ x,x ∈ l->good x){i:Nat}(hn:nth l i≠0):good (nth l i):=by
 rcases p9 i l.length with hi|hi
 ·exact h _ (ah hi)
 ·exfalso;apply hn;simp [nth,hi]
theorem GL {ty:List Int}(h:aQ ty=true):∀ x,x ∈ ty->good x:=by
 intro x hx;have:=List.all_eq_true.1 h x hx;simpa [j9,good] using this
theorem EY {op:Int}{ts:List Int}(h:∀ x,x ∈ ts->good x)(hn:fD op ts≠0):good (fD op ts):=by
 unfold fD at hn ⊢;split
 ·rename_i h1;rw [if_pos h1] at hn;split at hn<;>simp_all [good]
 rename_i h1;rw [if_neg h1] at hn;split
 ·rename_i h1;rw [if_pos h1] at hn;split at hn<;>simp_all [good]
 rename_i h1;rw [if_neg h1] at hn;split
 ·rename_i h1;rw [if_pos h1] at hn;split at hn<;>simp_all [good]
 rename_i h1;rw [if_neg h1] at hn;split
 ·rename_i h1;rw [if_pos h1] at hn;split at hn<;>simp_all [good]
 rename_i h1;rw [if_neg h1] at hn;split
 ·rename_i h1;rw [if_pos h1] at hn;split at hn<;>simp_all [good]
 rename_i h1;rw [if_neg h1] at hn;split
 ·exact Or.inl rfl
 rename_i h1;rw [if_neg h1] at hn;split
 ·rename_i h1;rw [if_pos h1] at hn
  split at hn
  ·rename_i h2;rw [if_pos h2];exact DY h hn
  ·exact absurd rfl hn
 rename_i h1;rw [if_neg h1] at hn;split
 ·rename_i h1;rw [if_pos h1] at hn
  split at hn
  ·rename_i h2;rw [if_pos h2];exact DY h hn
  ·exact absurd rfl hn
 rename_i h1;rw [if_neg h1] at hn;split at hn<;>simp_all [good]
mutual
theorem EX {ty:List Int}(dV:aQ ty=true):∀ a:aD,a.wf->o9 (a.typ ty).2 0=true->good (a.typ ty).1
 | .node t l,hw,h=>by
  obtain ⟨hok,Yz,Vc⟩:=hw;simp only [aD.typ] at h ⊢;split
  ·rename_i h1
   rw [if_pos h1] at h;have hl:=tr dV l Vc;simp only [zg] at h ⊢;split
   ·rename_i h2
    simp only [wR,de,h2,if_true,Bool.and_eq_true,Bool.not_eq_true'] at hok;have h3:=hok.2.1.1;have h4:=hok.2.1.2;unfold fE at h3;simp only [h4,b7,if_false] at h3;unfold good;split at h3
    ·rename_i h5;exact Or.inl (X2 h5)
    ·split at h3
     ·rename_i h5;exact Or.inr (X2 h5)
     ·cases h3
   ·rename_i h2
    rw [if_neg h2] at h;split
    ·rename_i h3
     rw [if_pos h3] at h;split
     ·rename_i h4
      rw [if_pos h4] at h;simp [j9] at h
     ·rename_i h4
      have h5:=zS (Bool.not_eq_true _ ▸ h4);have h6:0<=t.col:=by
       simp only [wR,de,h2,h3,if_true,b7,if_false,Bool.and_eq_true] at hok;exact qD hok.2.2
      exact GL dV _ (ah (by omega))
    ·rename_i h3
     rw [if_neg h3] at h;split
     ·rename_i h4
      rw [if_pos h4] at h;simp [j9] at h
     ·rename_i h4
      exact EY hl (by simpa [j9] using h4)
  ·rename_i h1
   rw [if_neg h1] at h;exact absurd h h1
theorem tr {ty:List Int}(dV:aQ ty=true):∀ l:List aD,Sz l->∀ x,x ∈ (fP ty l).1->good x
 |[],_,x,h=>by simp [fP] at h
 |a::l,hw,x,h=>by
  simp only [fP] at h;split at h
  ·rename_i h1
   rcases x9.1 h with rfl|h
   ·exact EX dV a hw.1 h1
   ·exact tr dV l hw.2 x h
  ·cases h
end
theorem Sw {ty:List Int}{t:aG}{ts:List Int}(hts:∀ x,x ∈ ts->good x)(hc:o9 t.op 2=true->W6 ty.length t.col=false)
  (h17:o9 t.op 17=true->0<ts.length) (h18:o9 t.op 18=true->1<ts.length) :
  zg ty t ts=if (Cc ty t (nth ts 0) (nth ts 1) (nth ts 2)).2 then ((Cc ty t (nth ts 0) (nth ts 1) (nth ts 2)).1,0) else (0,5):=by
 unfold zg Cc;cases d1:o9 t.op 1 with
 |true=>simp only [if_true]
 |false =>
 simp only [b7,if_false];cases d2:o9 t.op 2 with
 |true=>simp only [if_true,hc d2,b7,if_false]
 |false =>
 simp only [b7,if_false];have z1:o9 1 0=false:=by simp [j9]
 have z2:o9 2 0=false:=by simp [j9]
 have z0:o9 0 0=true:=by simp [j9]
 have Ua:∀ (b:Bool) (x:Int),(b=true->o9 x 0=false)->(if o9 (if b=true then x else 0) 0=true then ((0:Int),(5:Int)) else (if b=true then x else 0,0))=if b=true then (x,0) else (0,5):=by
  intro b x h;cases b with
  |true=>simp [h rfl]
  |false=>simp [z0]
 have gz:∀ {i:Nat},i<ts.length->o9 (nth ts i) 0=false:=fun {i} hi=>by
  have:=hts _ (ah hi);unfold good at this;simp [j9];omega
 unfold fD;cases c1:(o9 t.op 3||o9 t.op 13) with
 |true=>simp only [if_true];exact Ua _ _ fun _=>z1
 |false =>
 simp only [b7,if_false];cases c2:o9 t.op 8 with
 |true=>simp only [if_true];exact Ua _ _ fun _=>z2
 |false =>
 simp only [b7,if_false];cases c3:o9 t.op 9 with
 |true=>simp only [if_true];exact Ua _ _ fun _=>z1
 |false =>
 simp only [b7,if_false];cases c4:o9 t.op 10 with
 |true=>simp only [if_true];exact Ua _ _ fun _=>z2
 |false =>
 simp only [b7,if_false];cases c5:(o9 t.op 11||o9 t.op 12) with
 |true=>simp only [if_true];exact Ua _ _ fun _=>z1
 |false =>
 simp only [b7,if_false];cases c6:o9 t.op 16 with
 |true=>simp [z1]
 |false =>
 simp only [b7,if_false];cases c7:o9 t.op 17 with
 |true=>simp only [if_true];exact Ua _ _ fun _=>gz (h17 c7)
 |false =>
 simp only [b7,if_false];cases c8:o9 t.op 18 with
 |true=>simp only [if_true];exact Ua _ _ fun _=>gz (h18 c8)
 |false =>
 simp only [b7,if_false];exact Ua _ _ fun _=>z1
end Go.z7


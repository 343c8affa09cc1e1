/- Texts P1 A42 A43 A44 A45 A46 A47 A48 A49 A50 A51 A52 A53 A54 A55 A56 A57 A58 A59 A60 A61 E1 E2 (made short by a program) -/
import Derived.Test.YtkmclibmmlgogaaGreatB5
set_option linter.unusedVariables false
set_option linter.unusedSimpArgs false
open Bool renaming false_eq_true → b7
open List renaming drop_of_length_le → m7, getElem?_append_left → p4, getElem?_append_right → p9, getElem?_eq_getElem → o7, getElem?_eq_none → q6, map_cons → G7, mem_cons → B8, replicate → c9, take_of_length_le → s6
open Nat renaming add_assoc → H9, ble → J7, le_of_ble_eq_true → m6, le_refl → l5, lt_or_ge → p7
namespace Go.u7
def ot (x:Int):List Int->List Int
 |[]=>[x]
 |y::l=>if x<=y then x::y::l else y::ot x l
def T5:List Int->List Int
 |[]=>[]
 |x::l=>ot x (T5 l)
def gI :List b6->Option (List Int)
 |[]=>some []
 | .d (.int .i64 n)::r=>match gI r with
  |some xs=>some (n::xs)
  |none=>none
 |_=>none
def vZ:List b6->o6->F9->Option (b6×o6)
 |[.I5,.d (.int .i64 n)],H,_=>if 0<=n/\n<=1000000 then some (.own 1 0 [],H) else none
 |_,_,_=>none
def we:List b6->o6->F9->Option (b6×o6)
 |[.D0 id 1 lo len],H,l=>if l.may id&&J7 len 1000000 then match rd H id lo len with
   |some vs=>match gI vs with
    |some xs=>match wr H id lo ((T5 xs).map fun n=> .d (.int .i64 n)) with
     |some H1=>some (.tuple [],H1)
     |none=>none
    |none=>none
   |none=>none
  else none
 |[.d (.slice 0 _)],H,_=>some (.tuple [],H)
 |_,_,_=>none
def S6:List Int->List Int
 |[]=>[]
 |[x]=>[x]
 |x::y::l=>if x=y then S6 (y::l) else x::S6 (y::l)
def fY:List b6->o6->F9->Option (b6×o6)
 |[.D0 id 1 lo len],H,l=>if l.may id&&J7 len 1000000 then match rd H id lo len with
   |some vs=>match gI vs with
    |some xs=>match wr H id lo ((S6 xs++c9 (xs.length - (S6 xs).length) 0).map fun n=> .d (.int .i64 n)) with
     |some H1=>some (.D0 id 1 lo (S6 xs).length,H1)
     |none=>none
    |none=>none
   |none=>none
  else none
 |_,_,_=>none
section
variable {A:Prog} {l:F9} {b:Nat}
variable {dr:Bool} {j4 ops:List n8} {T:List b6} {H:o6} {n:Nat} {rl:List b6} {n5:List Touch} {Q:List b6->o6->List b6->Prop}
theorem Ex.Oj {ops:List n8}{draw:Bool}{c:r8}{d e:p5}{T:List b6}{H:o6}{Q:D2->St->Prop}(t:Bool)
  (h:Rn A l b ops draw T H fun T' H' L=>T' =T/\H' =H/\∃ t',F0 T' L c= .d (.bool t')/\t' =t)
  (h2:t=true->Ex A l b d ⟨T,H⟩ Q) (h3:t=false->Ex A l b e ⟨T,H⟩ Q):Ex A l b (.test ops draw c d e) ⟨T,H⟩ Q:=by
 obtain ⟨r,N,⟨e1,e2,t',e3,rfl⟩,h⟩:=h;subst e1;subst e2;exact Ex.test ⟨r,N,⟨t',e3,h2,h3⟩,h⟩
theorem Ex.nT {c:p5}{T T2:List b6}{H:o6}{Q:D2->St->Prop}(h:Ex A l b c ⟨T2,H⟩ Q)(hT:T=T2:=by simp only [R0]<;>rfl):Ex A l b c ⟨T,H⟩ Q:=hT ▸ h
theorem Pf.run {f:FuncId}{af:q5}{args:List b6}{v:b6}(T:List b6)(hp:A.ga f=none)(hf:A.fn f=some af)(hn:args.length=af.nparams)
  (hT:args++c9 (af.names.length - args.length) .any=T) (h:Ex A bK 0 af.body ⟨T,[]⟩ fun x s=>∃ w,jI af 0 (some (x,s))=some (w,[])/\w=v):Pf A f args v :=
 Pf.Yh T hp hf hn hT (h.mono fun _ _ ⟨_,h1,h2⟩=>h2 ▸ h1)
theorem W2 {α:Type}:∀ {l:List α} {j:Nat} {v:α},l[j]? =some v->l.set j v=l
 |[],_,_,_=>rfl
 |a::l,0,v,h=>by simp at h;simp [h]
 |a::l,j+1,v,h=>by simp at h;simp [W2 h]
theorem Rx.NS {pre:List b6}{op:s9}{j:Nat}{want:Bool}{u:List Nat}(h:pre[j]? =some (.tuple []))(hk:D8 ⟨T,H,pre++ .any::c9 ops.length .any,n5⟩ op=false)(ha:op.y3=false)
  (h2:Rx A l b dr j4 ops T H (pre++[.tuple []]) n5 Q):Rx A l b dr j4 (⟨op,none,some (j,want),u⟩::ops) T H pre n5 Q:=by
 refine Rx.step (N1:=0) (rs:=[]) hk ha (fun n _=> ?_) (fun rs=>by simp [J9]) h2;simp only [x9,u0,oy h,put,F7,s4,F8]
instance:Inhabited Z2:=⟨⟨0,0,0,[],0⟩⟩
instance:Inhabited W6:=⟨⟨[],0,[],[],[],0,0⟩⟩
instance:Inhabited er:=⟨⟨[],[],0,0⟩⟩
instance:Inhabited FK:=⟨⟨[],[]⟩⟩
instance:Inhabited yA:=⟨⟨[],0,[]⟩⟩
instance:Inhabited Vw:=⟨⟨[],0,[],[],[],[],[],false,[]⟩⟩
instance:Inhabited gD:=⟨⟨[],[],0⟩⟩
instance:Inhabited gv:=⟨⟨[],[],0,0,0,0⟩⟩
instance:Inhabited jy:=⟨⟨[],[],0,0⟩⟩
instance:Inhabited iO:=⟨⟨[],[],0⟩⟩
instance:Inhabited kI:=⟨⟨[],[]⟩⟩
instance:Inhabited kH:=⟨⟨[],[],0⟩⟩
@[irreducible] def nth {α:Type} [Inhabited α] (l:List α) (i:Nat):α:=l[i]?.getD default
theorem N6 {α:Type} [Inhabited α] {l:List α}{i:Nat}(h:i<l.length):nth l i=l[i]:=by simp [nth,h]
theorem S7 {α:Type} [Inhabited α] (a:α)(l:List α):nth (a::l) 0=a:=by simp [nth]
theorem lI {α:Type} [Inhabited α] (a:α)(l:List α)(i:Nat):nth (a::l) (i+1)=nth l i:=by simp [nth]
theorem S1 {α:Type} [Inhabited α] {l:List α}{i:Nat}(h:i<l.length):nth l i ∈ l:=by rw [N6 h];exact List.getElem_mem h
theorem A4 {α:Type} [Inhabited α] {l:List α}{i:Nat}(h:i<l.length):l.drop i=nth l i::l.drop (i+1):=by rw [N6 h];exact List.drop_eq_getElem_cons h
theorem I6 {α:Type} [Inhabited α] {l:List α}{i:Nat}(h:i<l.length):l.take (i+1)=l.take i++[nth l i]:=by rw [N6 h,List.take_append_getElem]
theorem iD {α:Type} [Inhabited α] {l:List α}{i j:Nat}(h:j<i)(hi:i<=l.length):(l.take i).drop j=nth l j::(l.take i).drop (j+1):=by
 rw [A4 (by simp;omega),N6 (by simp;omega),N6 (by omega)];simp
@[irreducible] def C2 (a b:Int):Bool:=decide (a<b)
@[irreducible] def X4 (a b:Int):Bool:=decide (a<=b)
@[irreducible] def o8 (a b:Int):Bool:=a==b
@[irreducible] def I9 (a b:List UInt8):Bool:=a==b
theorem o9 (a b:Int):C2 a b=decide (a<b):=by unfold C2;rfl
theorem o5 (a b:Int):X4 a b=decide (a<=b):=by unfold X4;rfl
theorem j5 (a b:Int):o8 a b=(a==b):=by unfold o8;rfl
theorem A3 (a b:List UInt8):I9 a b=(a==b):=by unfold I9;rfl
theorem z6 {a b:Int}(h:C2 a b=true):a<b:=by simpa [o9] using h
theorem z8 {a b:Int}(h:C2 a b=false):b<=a:=by simpa [o9] using h
theorem pO {a b:Int}(h:X4 a b=true):a<=b:=by simpa [o5] using h
theorem zd {a b:Int}(h:X4 a b=false):b<a:=by simpa [o5] using h
theorem X2 {a b:Int}(h:o8 a b=true):a=b:=by simpa [j5] using h
theorem sM {a b:Int}(h:o8 a b=false):a≠b:=by simpa [j5] using h
theorem Zm {a b:List UInt8}(h:I9 a b=true):a=b:=by simpa [A3] using h
theorem SL {a b:List UInt8}(h:I9 a b=false):a≠b:=by simpa [A3] using h
def n7 (n a b:Int):Bool:=X4 a n&&X4 n b
def Ry (A:Prog)(l:F9)(b:Nat)(dr:Bool)(j4 ops:List n8)(T:List b6)(H:o6)(n:Nat)(rl:List b6)(n5:List Touch)(Q:List b6->o6->List b6->Prop):Prop :=
 rl.length=n->Rx A l b dr j4 ops T H rl.reverse n5 Q
def lk (n:Nat)(rl:List b6)(j:Nat):Option b6:=match J7 (j+1) n with
 |true=>rl[n - (j+1)]?
 |false=>none
theorem eX (hn:rl.length=n)(j:Nat):rl.reverse[j]? =lk n rl j:=by
 subst hn;unfold lk;split
 ·rename_i h
  have h1:j+1<=rl.length:=m6 h;rw [List.getElem?_reverse (by omega)]
  congr 1
  omega
 ·rename_i h
  have h1:¬ j+1<=rl.length:=fun h2=>by rw [Nat.ble_eq_true_of_le h2] at h;cases h
  rw [q6 (by simp;omega)]
def Sj (T:List b6)(n:Nat)(rl:List b6):r8->Option b6
 | .slot s=>T[s]?
 | .loc j=>lk n rl j
 | .const v=>some v
def Oq (T:List b6)(n:Nat)(rl:List b6)(x:r8)(v:b6):Prop:=Sj T n rl x=some v/\v.F2=v
theorem Oq.op {x:r8}{v:b6}(h:Oq T n rl x v)(hn:rl.length=n):Op T rl.reverse x v:=by
 obtain ⟨h1,h2⟩:=h;refine ⟨?_,h2⟩;cases x with
 |slot s=>exact h1
 |loc j=>simp only [Ui,eX hn];exact h1
 |const u=>exact h1
def rq (T:List b6)(n:Nat)(rl:List b6):r8->b6
 | .const v=>v.Lv
 |x=>((Sj T n rl x).getD .any).F2
theorem Oq.rq {x:r8}{v:b6}(h:Oq T n rl x v):u7.rq T n rl x=v:=by
 obtain ⟨h1,h2⟩:=h;cases x with
 |const u=>simp only [Sj,Option.some.injEq] at h1;subst h1;simp [u7.rq,LX h2]
 |_=>simp [u7.rq,h1,h2]
theorem Y0 (hn:rl.length=n)(m:Nat)(x:r8):u7.F0 T (rl.reverse++ .any::c9 m .any) x=rq T n rl x:=by
 cases x with
 |slot s=>simp [u7.F0,rq,Sj]
 |const v=>simp [u7.F0,rq,Sj]
 |loc j =>
  simp only [u7.F0,rq,Sj,<- eX hn,List.getD_eq_getElem?_getD]
  rcases p7 j rl.reverse.length with h|h
  ·rw [p4 h]
  ·rw [p9 h,q6 h]
   congr 1
   cases hk:j - rl.reverse.length with
   |zero=>rfl
   |succ k =>
    simp only [List.getElem?_cons_succ,List.getElem?_replicate];split<;>rfl
theorem Ry.to {v:b6}(h:Ry A l b dr j4 ops T H (n+1) (v::rl) n5 Q)(hn:rl.length=n):Rx A l b dr j4 ops T H (rl.reverse++[v]) n5 Q:=by
 have:=h (by simp [hn]);simpa using this
theorem Rn.text {T:List b6}{H:o6}(h:Ry A l b false ops ops T H 0 [] [] Q):Rn A l b ops false T H Q:=Rn.QE (h rfl)
theorem Rn.draw {T:List b6}{H:o6}(h:Ry A l b true ops ops T H 0 [] [] Q)(hp:nZ ops=true:=by rfl):Rn A l b ops true T H Q:=Rn.QD hp (h rfl)
theorem Ry.pure {op:s9}{u:List Nat}{v:b6}{rs:List Nat}(hE:op.D5=false)(hp:k9 (rq T n rl) H op=some (v,rs))
  (h2:Ry A l b dr j4 ops T H (n+1) (v::rl) n5 Q):Ry A l b dr j4 (⟨op,none,none,u⟩::ops) T H n rl n5 Q:=fun hn=>by
 refine Rx.pure (rs:=rs) hE (fun m=> ?_) (h2.to hn);rw [show u7.F0 T (rl.reverse++ .any::c9 m .any)=rq T n rl from funext fun x=>Y0 hn m x];exact hp
theorem Ry.wq {op:s9}{u:List Nat}{v:b6}{rs:List Nat}{s:Nat}(hE:op.D5=false)(hp:k9 (rq T n rl) H op=some (v,rs))(hv:v.F2=v)(hm:op.y3=false)(hs:T[s]?.isSome=true)
  (h2:Ry A l b dr j4 ops (T.set s v) H (n+1) (v::rl) (.slot s::n5) Q):Ry A l b dr j4 (⟨op,some s,none,u⟩::ops) T H n rl n5 Q:=fun hn=>by
 have hs:s<T.length:=by
  rcases p7 s T.length with h|h
  ·exact h
  ·rw [q6 h] at hs;cases hs
 have XH:∀ x,op≠ .M9 x:=by
  rintro x rfl;simp [k9] at hp
 refine Rx.step (N1:=0) (rs:=rs) ?_ hm (fun m _=> ?_) (fM s n5) (h2.to hn)
 ·cases op<;>first|rfl|(simp [s9.D5] at hE)
 ·have h3:C5 (J4 A m l b) j4 none rl.reverse.length op ⟨T,H,rl.reverse++ .any::c9 ops.length .any,n5⟩=some (⟨T,H,rl.reverse++v::c9 ops.length .any,n5⟩,rs):=by
   have h4:k9 (u7.F0 T (rl.reverse++ .any::c9 ops.length .any)) H op=some (v,rs):=by
    rw [show u7.F0 T (rl.reverse++ .any::c9 ops.length .any)=rq T n rl from funext fun x=>Y0 hn _ x];exact hp
   cases op<;>first
    |exact absurd rfl (XH _)
    |(simp only [C5,hE,b7,if_false,h4,put,F7];done)
    |(simp [s9.D5] at hE;done)
  have h5:u7.C6 ⟨T,H,rl.reverse++v::c9 ops.length .any,n5⟩ (.loc rl.reverse.length)=(v,⟨T,H,rl.reverse++v::c9 ops.length .any,n5⟩):=by
   simp only [u7.C6,p9 (l5 _),Nat.sub_self,List.getElem?_cons_zero];split
   ·rename_i heq
    cases heq;simp [b6.F2] at hv
   ·simp [u7.F0,hv]
  simp only [x9,u0,h3,s4,F8,hs,if_true,h5]
theorem Ry.fork {j:Nat}{w:Bool}(h:lk n rl j=some (.d (.bool w)))(hj:J7 (j+1) n=true)(h1:w=true->Ry A l b dr j4 ops T H n (rl.set (n - (j+1)) (.d (.bool true))) n5 Q)
  (h2:w=false->Ry A l b dr j4 ops T H n (rl.set (n - (j+1)) (.d (.bool false))) n5 Q):Ry A l b dr j4 ops T H n rl n5 Q:=by
 simp only [lk,hj] at h;cases w with
 |true=>have:=h1 rfl;rwa [W2 h] at this
 |false=>have:=h2 rfl;rwa [W2 h] at this
theorem zG {α:Type}{enc:α->List Data}{sz:Nat}(hs:∀ a,(enc a).length=sz):∀ (l:List α) (i:Nat),(l.flatMap enc).take (i * sz)=(l.take i).flatMap enc
 |[],i=>by simp
 |a::l,0=>by simp
 |a::l,i+1=>by
  have h1:=zG hs l i;simp only [List.flatMap_cons,List.take_succ_cons];rw [List.take_append,hs a,Nat.succ_mul,Nat.add_sub_cancel,h1];rw [s6 (by rw [hs a];omega)]
theorem fS {α:Type}{enc:α->List Data}{sz:Nat}(hs:∀ a,(enc a).length=sz):∀ (l:List α),(l.flatMap enc).length=l.length * sz
 |[]=>by simp
 |a::l=>by simp [hs a,fS hs l,Nat.succ_mul,Nat.add_comm]
theorem rG {α:Type}{enc:α->List Data}{sz:Nat}(hs:∀ a,(enc a).length=sz):∀ (l:List α) (i:Nat),(l.flatMap enc).drop (i * sz)=(l.drop i).flatMap enc
 |[],i=>by simp
 |a::l,0=>by simp
 |a::l,i+1=>by
  have h1:=rG hs l i;simp only [List.flatMap_cons,List.drop_succ_cons];rw [List.drop_append,hs a,Nat.succ_mul,Nat.add_sub_cancel,h1];rw [List.drop_eq_nil_of_le (by rw [hs a];omega)];rfl
theorem wI {α:Type}{enc:α->List Data}{sz:Nat}(hs:∀ a,(enc a).length=sz)(l:List α)(lo hi:Nat)(h1:lo<=hi)(h2:hi<=l.length) :
  Data.slice ((hi:Int) - lo).toNat (((l.flatMap enc).take (hi * sz)).drop (lo * sz))=y7 enc ((l.take hi).drop lo):=by
 rw [zG hs,rG hs,y7]
 congr 1
 simp;omega
def A5 {α:Type}(sz:Nat)(enc:α->List Data)(xs:List α):b6:= .own sz xs.length (xs.flatMap enc)
theorem Bu {j:Nat}(hn:rl.length=n)(hb:J7 (j+1) n=true)(v:b6):rl.reverse.set j v=(rl.set (n - (j+1)) v).reverse:=by
 have hb' :j+1<=rl.length:=by rw [hn];exact m6 hb
 apply List.ext_getElem?;intro i
 rcases p7 i rl.length with hi|hi
 ·have e1:(rl.set (n - (j+1)) v).reverse[i]? =(rl.set (n - (j+1)) v)[(rl.set (n - (j+1)) v).length - 1 - i]? :=List.getElem?_reverse (by simp;omega)
  have e2:rl.reverse[i]? =rl[rl.length - 1 - i]? :=List.getElem?_reverse (by omega);rw [List.getElem?_set,e2,e1,List.getElem?_set];simp only [List.length_reverse,List.length_set];subst hn
  by_cases hji:j=i
  ·subst hji
   rw [if_pos rfl,if_pos (by omega),if_pos (by omega),if_pos (by omega)]
  ·rw [if_neg hji,if_neg (by omega)]
 ·rw [q6 (by simp;omega),q6 (by simp;omega)]
theorem Rx.PK {pre:List b6}{j sz bytes:Nat}{y:r8}{u:List Nat}{len m:Nat}{cells new:List Data}{vy:b6}{cs:List b6}
  (hj:pre[j]? =some (.own sz len cells)) (hy:∀ m,u7.F0 T (pre++ .any::c9 m .any) y=vy) (hc:I8 H sz vy=some (m,cs)) (hd:L7 cs=some new) (hr:roomFor (len+m) bytes=true) (h0:0<sz)
  (h2:Rx A l b dr j4 ops T H (pre.set j (.d (.slice len cells))++[.own sz (len+m) (cells++new)]) n5 Q):Rx A l b dr j4 (⟨.append sz bytes false (.loc j) y,none,none,u⟩::ops) T H pre n5 Q:=by
 have hjl:j<pre.length:=by
  rcases p7 j pre.length with hj' |hj'
  ·exact hj'
  ·rw [q6 hj'] at hj;cases hj
 have hL:∀ r:List b6,(pre++ .any::r)[j]? =some (.own sz len cells):=fun r=>by rw [p4 hjl,hj]
 have vz:u7.F0 T (pre++ .any::c9 ops.length .any) (.loc j)= .d (.slice len cells):=by simp [u7.F0,hL,b6.F2]
 have hl:(pre.set j (.d (.slice len cells))).length=pre.length:=by simp
 have h3:∀ (a:b6) (r:List b6),(pre++a::r).set j (.d (.slice len cells))=pre.set j (.d (.slice len cells))++a::r:=fun a r=>List.set_append_left _ _ hjl
 have h4:∀ (a v:b6) (r:List b6),(pre.set j (.d (.slice len cells))++a::r).set pre.length v=pre.set j (.d (.slice len cells))++v::r:=fun a v r=>by rw [<- hl];exact F7 _ _ _ _
 refine Rx.stepG (N1:=0) (rs:=[]) hl (by simp only [D8,vz]) rfl (fun n _=> ?_) (fun rs=>by simp [J9]) h2;simp only [x9,u0,C5,s9.D5,if_true,E2,vz,J5,hy,hc,hd,b7,if_false,O4,hL,hr,h0,and_self,put,h3,h4,s4,F8]
theorem fH:∀ l:List Data,L7 (l.map .d)=some l
 |[]=>rfl
 |a::l=>by simp [L7,b6.data?,fH l]
theorem Ry.WT {j s sz bytes:Nat}{y:r8}{u u' :List Nat}{d' :Option Nat}{g' :Option (Nat×Bool)}{n' len m:Nat}{cs' cells new:List Data}
  (hj:lk n rl j=some (.d (.slice n' cs'))) (ha:j4[j]? =some ⟨.M9 (.slot s),d',g',u'⟩) (ht:n5.any (Touch.Q1 s)=false) (hT:T[s]? =some (.own sz len cells))
  (hy:rq T n rl y= .d (.slice m new)) (hl:new.length=m * sz) (hr:roomFor (len+m) bytes=true) (h0:0<sz)
  (h2:Ry A l b dr j4 ops (T.set s (.d (.slice len cells))) H (n+1) (.own sz (len+m) (cells++new)::rl) (.slot s::n5) Q):Ry A l b dr j4 (⟨.append sz bytes false (.loc j) y,none,none,u⟩::ops) T H n rl n5 Q:=fun hn =>
 Rx.append (vy:= .d (.slice m new)) (by rw [eX hn];exact hj) ha ht hT (fun k=>by rw [Y0 hn];exact hy) (by simp only [I8,hl,if_true]) (fH new) hr h0 (h2.to hn)
theorem Ry.Tp {j sz bytes:Nat}{y:r8}{u:List Nat}{len m:Nat}{cells new:List Data}(hj:lk n rl j=some (.own sz len cells))(hb:J7 (j+1) n=true)
  (hy:rq T n rl y= .d (.slice m new)) (hl:new.length=m * sz) (hr:roomFor (len+m) bytes=true) (h0:0<sz)
  (h2:Ry A l b dr j4 ops T H (n+1) (.own sz (len+m) (cells++new)::rl.set (n - (j+1)) (.d (.slice len cells))) n5 Q):Ry A l b dr j4 (⟨.append sz bytes false (.loc j) y,none,none,u⟩::ops) T H n rl n5 Q:=fun hn=>by
 refine Rx.PK (vy:= .d (.slice m new)) (by rw [eX hn];exact hj) (fun k=>by rw [Y0 hn];exact hy) (by simp only [I8,hl,if_true]) (fH new) hr h0 ?_;have h3:=h2.to (by simp [hn]);rw [Bu hn hb];exact h3
namespace S
theorem nl (h:Q T H rl.reverse):Ry A l b dr j4 [] T H n rl n5 Q:=fun _=>Rx.nil h
theorem mv {x:r8}{v:b6}{u:List Nat}(h2:Ry A l b dr j4 ops T H (n+1) (v::rl) n5 Q)(hx:Oq T n rl x (v):=by exact ⟨rfl,rfl⟩) :
  Ry A l b dr j4 (⟨.M9 x,none,none,u⟩::ops) T H n rl n5 Q:=fun hn=>Rx.M9 (hx.op hn) (h2.to hn)
theorem mt {x:r8}{v:b6}{s:Nat}{T2:List b6}{u:List Nat}(hx:Oq T n rl x (v):=by exact ⟨rfl,rfl⟩)(hs:T[s]?.isSome=true:=by rfl)(hT:T.set s v=T2:=by simp only [List.set_cons_zero,List.set_cons_succ]<;>rfl)(h2:Ry A l b dr j4 ops T2 H (n+1) (v::rl) (.slot s::n5) Q) :
  Ry A l b dr j4 (⟨.M9 x,some s,none,u⟩::ops) T H n rl n5 Q:=fun hn=>Rx.Ya (hx.op hn) hs (by rw [hT];exact h2.to hn)
theorem mo {s z n0:Nat}{cs:List Data}{u:List Nat}(h2:Ry A l b dr j4 ops T H (n+1) (.d (.slice n0 cs)::rl) n5 Q)(hx:T[s]? =some (.own z n0 cs):=by rfl) :
  Ry A l b dr j4 (⟨.M9 (.slot s),none,none,u⟩::ops) T H n rl n5 Q:=fun hn=>Rx.Ub hx (h2.to hn)
theorem mw {j s z n0:Nat}{cs:List Data}{u:List Nat}{T2:List b6}(hj:lk n rl j=some (.own z n0 cs):=by rfl)(hb:J7 (j+1) n=true:=by rfl)(hs:T[s]?.isSome=true:=by rfl)(hT:T.set s (.own z n0 cs)=T2:=by simp only [List.set_cons_zero,List.set_cons_succ]<;>rfl)
  (h2:Ry A l b dr j4 ops T2 H (n+1) (.d (.slice n0 cs)::rl.set (n - (j+1)) (.d (.slice n0 cs))) (.slot s::n5) Q):Ry A l b dr j4 (⟨.M9 (.loc j),some s,none,u⟩::ops) T H n rl n5 Q:=fun hn=>by
 refine Rx.ML (by rw [eX hn];exact hj) hs ?_;have h3:=h2.to (by simp [hn]);rw [hT,Bu hn hb];exact h3
theorem ow {s z n0:Nat}{cs:List Data}{T2:List b6}{u:List Nat}(hs:T[s]?.isSome=true:=by rfl)(hT:T.set s (.own z n0 cs)=T2:=by simp only [List.set_cons_zero,List.set_cons_succ]<;>rfl)(h2:Ry A l b dr j4 ops T2 H (n+1) (.d (.slice n0 cs)::rl) (.slot s::n5) Q) :
  Ry A l b dr j4 (⟨.M9 (.const (.own z n0 cs)),some s,none,u⟩::ops) T H n rl n5 Q:=fun hn=>Rx.Yi hs (by rw [hT];exact h2.to hn)
theorem ad {x y:r8}{c d:Int}{u:List Nat}(h2:Ry A l b dr j4 ops T H (n+1) (.d (.int .i64 (c+d))::rl) n5 Q)(hx:rq T n rl x= .d (.int .i64 c):=by rfl)(hy:rq T n rl y= .d (.int .i64 d):=by rfl)(h0: -9223372036854775808<=c+d/\c+d<9223372036854775808:=by first|omega|(simp only [n7,Bool.and_eq_true,o9,o5,j5,beq_eq_false_iff_ne,beq_iff_eq,decide_eq_true_eq,decide_eq_false_iff_not,Bool.not_eq_true',Bool.not_eq_false'] at *;omega)) :
  Ry A l b dr j4 (⟨.bin .add x y,none,none,u⟩::ops) T H n rl n5 Q:=Ry.pure (rs:=[]) rfl (by simp only [k9,hx,hy,AE (Or.inl ⟨rfl,rfl⟩) h0.1 h0.2]) h2
theorem sb {x y:r8}{c d:Int}{u:List Nat}(h2:Ry A l b dr j4 ops T H (n+1) (.d (.int .i64 (c - d))::rl) n5 Q)(hx:rq T n rl x= .d (.int .i64 c):=by rfl)(hy:rq T n rl y= .d (.int .i64 d):=by rfl)(h0: -9223372036854775808<=c - d/\c - d<9223372036854775808:=by first|omega|(simp only [n7,Bool.and_eq_true,o9,o5,j5,beq_eq_false_iff_ne,beq_iff_eq,decide_eq_true_eq,decide_eq_false_iff_not,Bool.not_eq_true',Bool.not_eq_false'] at *;omega)) :
  Ry A l b dr j4 (⟨.bin .sub x y,none,none,u⟩::ops) T H n rl n5 Q:=Ry.pure (rs:=[]) rfl (by simp only [k9,hx,hy,AE (Or.inr ⟨rfl,rfl⟩) h0.1 h0.2]) h2
theorem li {x y:r8}{k:IntKind}{c d:Int}{u:List Nat}(h2:Ry A l b dr j4 ops T H (n+1) (.d (.bool (C2 c d))::rl) n5 Q)(hx:rq T n rl x= .d (.int k c):=by rfl)(hy:rq T n rl y= .d (.int k d):=by rfl) :
  Ry A l b dr j4 (⟨.bin .lss x y,none,none,u⟩::ops) T H n rl n5 Q:=Ry.pure (rs:=[]) rfl (by simp [k9,hx,hy,K5,V1,aA,o9,o5,j5,bne]) h2
theorem lo {x y:r8}{k:IntKind}{c d:Int}{u:List Nat}(h2:Ry A l b dr j4 ops T H (n+1) (.d (.bool (X4 c d))::rl) n5 Q)(hx:rq T n rl x= .d (.int k c):=by rfl)(hy:rq T n rl y= .d (.int k d):=by rfl) :
  Ry A l b dr j4 (⟨.bin .leq x y,none,none,u⟩::ops) T H n rl n5 Q:=Ry.pure (rs:=[]) rfl (by simp [k9,hx,hy,K5,V1,aA,o9,o5,j5,bne]) h2
theorem gi {x y:r8}{k:IntKind}{c d:Int}{u:List Nat}(h2:Ry A l b dr j4 ops T H (n+1) (.d (.bool (C2 d c))::rl) n5 Q)(hx:rq T n rl x= .d (.int k c):=by rfl)(hy:rq T n rl y= .d (.int k d):=by rfl) :
  Ry A l b dr j4 (⟨.bin .gtr x y,none,none,u⟩::ops) T H n rl n5 Q:=Ry.pure (rs:=[]) rfl (by simp [k9,hx,hy,K5,V1,aA,o9,o5,j5,bne]) h2
theorem go {x y:r8}{k:IntKind}{c d:Int}{u:List Nat}(h2:Ry A l b dr j4 ops T H (n+1) (.d (.bool (X4 d c))::rl) n5 Q)(hx:rq T n rl x= .d (.int k c):=by rfl)(hy:rq T n rl y= .d (.int k d):=by rfl) :
  Ry A l b dr j4 (⟨.bin .geq x y,none,none,u⟩::ops) T H n rl n5 Q:=Ry.pure (rs:=[]) rfl (by simp [k9,hx,hy,K5,V1,aA,o9,o5,j5,bne]) h2
theorem ei {x y:r8}{k:IntKind}{c d:Int}{u:List Nat}(h2:Ry A l b dr j4 ops T H (n+1) (.d (.bool (o8 c d))::rl) n5 Q)(hx:rq T n rl x= .d (.int k c):=by rfl)(hy:rq T n rl y= .d (.int k d):=by rfl) :
  Ry A l b dr j4 (⟨.bin .eql x y,none,none,u⟩::ops) T H n rl n5 Q:=Ry.pure (rs:=[]) rfl (by simp [k9,hx,hy,K5,V1,aA,o9,o5,j5,bne]) h2
theorem ni {x y:r8}{k:IntKind}{c d:Int}{u:List Nat}(h2:Ry A l b dr j4 ops T H (n+1) (.d (.bool (!o8 c d))::rl) n5 Q)(hx:rq T n rl x= .d (.int k c):=by rfl)(hy:rq T n rl y= .d (.int k d):=by rfl) :
  Ry A l b dr j4 (⟨.bin .neq x y,none,none,u⟩::ops) T H n rl n5 Q:=Ry.pure (rs:=[]) rfl (by simp [k9,hx,hy,K5,V1,aA,o9,o5,j5,bne]) h2
theorem es {x y:r8}{c d:List UInt8}{u:List Nat}(h2:Ry A l b dr j4 ops T H (n+1) (.d (.bool (I9 c d))::rl) n5 Q)(hx:rq T n rl x= .d (.str c):=by rfl)(hy:rq T n rl y= .d (.str d):=by rfl) :
  Ry A l b dr j4 (⟨.bin .eql x y,none,none,u⟩::ops) T H n rl n5 Q:=Ry.pure (rs:=[]) rfl (by simp [k9,hx,hy,K5,qX,A3]) h2
theorem ns {x y:r8}{c d:List UInt8}{u:List Nat}(h2:Ry A l b dr j4 ops T H (n+1) (.d (.bool (!I9 c d))::rl) n5 Q)(hx:rq T n rl x= .d (.str c):=by rfl)(hy:rq T n rl y= .d (.str d):=by rfl) :
  Ry A l b dr j4 (⟨.bin .neq x y,none,none,u⟩::ops) T H n rl n5 Q:=Ry.pure (rs:=[]) rfl (by simp [k9,hx,hy,K5,qX,A3]) h2
theorem ng {x:r8}{t:Bool}{u:List Nat}(h2:Ry A l b dr j4 ops T H (n+1) (.d (.bool (!t))::rl) n5 Q)(hx:rq T n rl x= .d (.bool t):=by rfl) :
  Ry A l b dr j4 (⟨.un .not x,none,none,u⟩::ops) T H n rl n5 Q:=Ry.pure (rs:=[]) rfl (by simp only [k9,hx,xp]) h2
theorem ln {α:Type}{enc:α->List Data}{xs:List α}{x:r8}{u:List Nat}(h2:Ry A l b dr j4 ops T H (n+1) (.d (.int .i64 (xs.length:Int))::rl) n5 Q)(hx:rq T n rl x= .d (y7 enc xs):=by rfl) :
  Ry A l b dr j4 (⟨.len x,none,none,u⟩::ops) T H n rl n5 Q:=Ry.pure (rs:=[]) rfl (by simp only [k9,hx,y7,i64]) h2
theorem ls {x:r8}{m:Nat}{cs:List Data}{u:List Nat}(h2:Ry A l b dr j4 ops T H (n+1) (.d (.int .i64 (m:Int))::rl) n5 Q)(hx:rq T n rl x= .d (.slice m cs):=by rfl) :
  Ry A l b dr j4 (⟨.len x,none,none,u⟩::ops) T H n rl n5 Q:=Ry.pure (rs:=[]) rfl (by simp only [k9,hx,i64]) h2
theorem lnT {α:Type}{enc:α->List Data}{xs:List α}{x:r8}{s:Nat}{T2:List b6}{u:List Nat}(hx:rq T n rl x= .d (y7 enc xs):=by rfl)(hs:T[s]?.isSome=true:=by rfl)(hT:T.set s (.d (.int .i64 (xs.length:Int)))=T2:=by simp only [List.set_cons_zero,List.set_cons_succ]<;>rfl)(h2:Ry A l b dr j4 ops T2 H (n+1) (.d (.int .i64 (xs.length:Int))::rl) (.slot s::n5) Q) :
  Ry A l b dr j4 (⟨.len x,some s,none,u⟩::ops) T H n rl n5 Q:=Ry.wq (v:= .d (.int .i64 (xs.length:Int))) (rs:=[]) rfl (by simp only [k9,hx,y7,i64]) rfl rfl hs (by rw [hT];exact h2)
theorem lsT {m:Nat}{cs:List Data}{x:r8}{s:Nat}{T2:List b6}{u:List Nat}(hx:rq T n rl x= .d (.slice m cs):=by rfl)(hs:T[s]?.isSome=true:=by rfl)(hT:T.set s (.d (.int .i64 (m:Int)))=T2:=by simp only [List.set_cons_zero,List.set_cons_succ]<;>rfl)(h2:Ry A l b dr j4 ops T2 H (n+1) (.d (.int .i64 (m:Int))::rl) (.slot s::n5) Q) :
  Ry A l b dr j4 (⟨.len x,some s,none,u⟩::ops) T H n rl n5 Q:=Ry.wq (v:= .d (.int .i64 (m:Int))) (rs:=[]) rfl (by simp only [k9,hx,i64]) rfl rfl hs (by rw [hT];exact h2)
theorem ldT {c:Data}{cs:List Data}{x:r8}{s:Nat}{T2:List b6}{u:List Nat}(hx:rq T n rl x= .P9 (c::cs):=by rfl)(hs:T[s]?.isSome=true:=by rfl)(hT:T.set s (.d c)=T2:=by simp only [List.set_cons_zero,List.set_cons_succ]<;>rfl)(h2:Ry A l b dr j4 ops T2 H (n+1) (.d c::rl) (.slot s::n5) Q) :
  Ry A l b dr j4 (⟨.load none x,some s,none,u⟩::ops) T H n rl n5 Q:=Ry.wq (v:= .d c) (rs:=[]) rfl (by simp only [k9,hx]) rfl rfl hs (by rw [hT];exact h2)
theorem lpT {v:b6}{id o:Nat}{x:r8}{s:Nat}{T2:List b6}{u:List Nat}(hx:rq T n rl x= .ptr id o:=by rfl)(hr:rd H id o 1=some [v]:=by rfl)(hv:v.F2=v:=by rfl)(hs:T[s]?.isSome=true:=by rfl)(hT:T.set s v=T2:=by simp only [List.set_cons_zero,List.set_cons_succ]<;>rfl)(h2:Ry A l b dr j4 ops T2 H (n+1) (v::rl) (.slot s::n5) Q) :
  Ry A l b dr j4 (⟨.load none x,some s,none,u⟩::ops) T H n rl n5 Q:=Ry.wq (v:=v) (rs:=[id]) rfl (by simp only [k9,hx,hr,hv]) hv rfl hs (by rw [hT];exact h2)
theorem lt {x:r8}{s:List UInt8}{u:List Nat}(h2:Ry A l b dr j4 ops T H (n+1) (.d (.int .i64 (s.length:Int))::rl) n5 Q)(hx:rq T n rl x= .d (.str s):=by rfl) :
  Ry A l b dr j4 (⟨.U0 x,none,none,u⟩::ops) T H n rl n5 Q:=Ry.pure (rs:=[]) rfl (by simp only [k9,hx,i64]) h2
theorem ix {α:Type} [Inhabited α] {enc:α->List Data}{xs:List α}{sz i:Nat}{x y:r8}{k:IntKind}{u:List Nat}(hx:rq T n rl x= .d (y7 enc xs):=by rfl)(hy:rq T n rl y= .d (.int k ((i:Nat):Int)):=by rfl)(hs:∀ a,(enc a).length=sz:=by intro;rfl)(hi:i<xs.length:=by first|omega|(simp only [n7,Bool.and_eq_true,o9,o5,j5,beq_eq_false_iff_ne,beq_iff_eq,decide_eq_true_eq,decide_eq_false_iff_not,Bool.not_eq_true',Bool.not_eq_false'] at *;omega))(h2:Ry A l b dr j4 ops T H (n+1) (.P9 (enc (nth xs i)++(xs.drop (i+1)).flatMap enc)::rl) n5 Q) :
  Ry A l b dr j4 (⟨.B7 sz x y,none,none,u⟩::ops) T H n rl n5 Q:=Ry.pure (rs:=[]) rfl (by
  have h1:(i:Int)<xs.length:=by omega
  have h3:=Mc hs xs i hi;rw [<- N6 hi] at h3;simp only [k9,hx,hy,y7,Int.natCast_nonneg,h1,and_self,if_true,h3]) h2
theorem ixN {α:Type} [Inhabited α] {enc:α->List Data}{xs:List α}{sz i:Nat}{x y:r8}{k:IntKind}{u:List Nat}(hx:rq T n rl x= .d (y7 enc xs):=by rfl)(hy:rq T n rl y= .d (.int k (OfNat.ofNat i)):=by rfl)(hs:∀ a,(enc a).length=sz:=by intro;rfl)(hi:i<xs.length:=by first|omega|(simp only [n7,Bool.and_eq_true,o9,o5,j5,beq_eq_false_iff_ne,beq_iff_eq,decide_eq_true_eq,decide_eq_false_iff_not,Bool.not_eq_true',Bool.not_eq_false'] at *;omega))(h2:Ry A l b dr j4 ops T H (n+1) (.P9 (enc (nth xs i)++(xs.drop (i+1)).flatMap enc)::rl) n5 Q) :
  Ry A l b dr j4 (⟨.B7 sz x y,none,none,u⟩::ops) T H n rl n5 Q:=ix hx hy hs hi h2
theorem XX {α:Type} [Inhabited α] {enc:α->List Data}{xs:List α}{sz:Nat}{e:Int}{x y:r8}{k:IntKind}{u:List Nat}(i:Nat)(he:e=i:=by first|omega|(simp only [n7,Bool.and_eq_true,o9,o5,j5,beq_eq_false_iff_ne,beq_iff_eq,decide_eq_true_eq,decide_eq_false_iff_not,Bool.not_eq_true',Bool.not_eq_false'] at *;omega))(hx:rq T n rl x= .d (y7 enc xs):=by rfl)(hy:rq T n rl y= .d (.int k e):=by rfl)(hs:∀ a,(enc a).length=sz:=by intro;rfl)(hi:i<xs.length:=by first|omega|(simp only [n7,Bool.and_eq_true,o9,o5,j5,beq_eq_false_iff_ne,beq_iff_eq,decide_eq_true_eq,decide_eq_false_iff_not,Bool.not_eq_true',Bool.not_eq_false'] at *;omega))(h2:Ry A l b dr j4 ops T H (n+1) (.P9 (enc (nth xs i)++(xs.drop (i+1)).flatMap enc)::rl) n5 Q) :
  Ry A l b dr j4 (⟨.B7 sz x y,none,none,u⟩::ops) T H n rl n5 Q:=ix hx (he ▸ hy) hs hi h2
theorem ixZ {α:Type} [Inhabited α] {enc:α->List Data}{xs:List α}{sz:Nat}{e:Int}{x y:r8}{k:IntKind}{u:List Nat}(hx:rq T n rl x= .d (y7 enc xs):=by rfl)(hy:rq T n rl y= .d (.int k e):=by rfl)(hs:∀ a,(enc a).length=sz:=by intro;rfl)(hi:0<=e/\e<xs.length:=by first|omega|(simp only [n7,Bool.and_eq_true,o9,o5,j5,beq_eq_false_iff_ne,beq_iff_eq,decide_eq_true_eq,decide_eq_false_iff_not,Bool.not_eq_true',Bool.not_eq_false'] at *;omega))(h2:Ry A l b dr j4 ops T H (n+1) (.P9 (enc (nth xs e.toNat)++(xs.drop (e.toNat+1)).flatMap enc)::rl) n5 Q) :
  Ry A l b dr j4 (⟨.B7 sz x y,none,none,u⟩::ops) T H n rl n5 Q:=ix hx (by rw [hy,Int.toNat_of_nonneg hi.1]) hs (by omega) h2
theorem ld {x:r8}{c:Data}{cs:List Data}{u:List Nat}(h2:Ry A l b dr j4 ops T H (n+1) (.d c::rl) n5 Q)(hx:rq T n rl x= .P9 (c::cs):=by rfl) :
  Ry A l b dr j4 (⟨.load none x,none,none,u⟩::ops) T H n rl n5 Q:=Ry.pure (rs:=[]) rfl (by simp only [k9,hx]) h2
theorem le {x:r8}{cs rest:List Data}{m:Nat}{u:List Nat}(h2:Ry A l b dr j4 ops T H (n+1) (.agg (cs.map .d)::rl) n5 Q)(hx:rq T n rl x= .P9 (cs++rest):=by rfl)(hm:cs.length=m:=by rfl) :
  Ry A l b dr j4 (⟨.load (some m) x,none,none,u⟩::ops) T H n rl n5 Q:=Ry.pure (rs:=[]) rfl (by subst hm;simp [k9,hx]) h2
theorem lf {x:r8}{k:Nat}{cs:List Data}{u:List Nat}(h2:Ry A l b dr j4 ops T H (n+1) (.P9 (cs.drop k)::rl) n5 Q)(hx:rq T n rl x= .P9 cs:=by rfl) :
  Ry A l b dr j4 (⟨.off k x,none,none,u⟩::ops) T H n rl n5 Q:=Ry.pure (rs:=[]) rfl (by simp only [k9,hx]) h2
theorem fp {x:r8}{k id o:Nat}{u:List Nat}(h2:Ry A l b dr j4 ops T H (n+1) (.ptr id (o+k)::rl) n5 Q)(hx:rq T n rl x= .ptr id o:=by rfl) :
  Ry A l b dr j4 (⟨.off k x,none,none,u⟩::ops) T H n rl n5 Q:=Ry.pure (rs:=[]) rfl (by simp only [k9,hx]) h2
theorem lp {x:r8}{id o:Nat}{v:b6}{u:List Nat}(h2:Ry A l b dr j4 ops T H (n+1) (v::rl) n5 Q)(hx:rq T n rl x= .ptr id o:=by rfl)(hr:rd H id o 1=some [v]:=by rfl)(hv:v.F2=v:=by rfl) :
  Ry A l b dr j4 (⟨.load none x,none,none,u⟩::ops) T H n rl n5 Q:=Ry.pure (rs:=[id]) rfl (by simp only [k9,hx,hr,hv]) h2
theorem lpo {x:r8}{id o z m:Nat}{cs:List Data}{u:List Nat}(h2:Ry A l b dr j4 ops T H (n+1) (.d (.slice m cs)::rl) n5 Q)(hx:rq T n rl x= .ptr id o:=by rfl)(hr:rd H id o 1=some [.own z m cs]:=by rfl) :
  Ry A l b dr j4 (⟨.load none x,none,none,u⟩::ops) T H n rl n5 Q:=Ry.pure (rs:=[id]) rfl (by simp only [k9,hx,hr,b6.F2]) h2
theorem lq {x:r8}{m id:Nat}{cs:List b6}{u:List Nat}(h2:Ry A l b dr j4 ops T H (n+1) (.agg cs::rl) n5 Q)(hx:rq T n rl x= .ptr id 0:=by rfl)(hr:H[id]? =some (.cells cs):=by rfl)(hm:cs.length=m:=by rfl)(hv:cs.map b6.F2=cs:=by rfl) :
  Ry A l b dr j4 (⟨.load (some m) x,none,none,u⟩::ops) T H n rl n5 Q:=Ry.pure (rs:=[id]) rfl (by subst hm;simp [k9,hx,rd,hr,hv]) h2
theorem et {x:r8}{i:Nat}{vs:List b6}{v:b6}{u:List Nat}(h2:Ry A l b dr j4 ops T H (n+1) (v::rl) n5 Q)(hx:rq T n rl x= .tuple vs:=by rfl)(hv:vs[i]? =some v:=by rfl) :
  Ry A l b dr j4 (⟨.extract x i,none,none,u⟩::ops) T H n rl n5 Q:=Ry.pure (rs:=[]) rfl (by simp only [k9,hx,hv]) h2
theorem wa {op:s9}{dst:Option Nat}{j:Nat}{want:Bool}{u:List Nat}(h2:Ry A l b dr j4 (⟨op,dst,none,u⟩::ops) T H n rl n5 Q)(h:lk n rl j=some (.d (.bool want)):=by rfl) :
  Ry A l b dr j4 (⟨op,dst,some (j,want),u⟩::ops) T H n rl n5 Q:=fun hn=>Rx.wanted (by rw [eX hn];exact h) (by simp) (h2 hn)
theorem sk {op:s9}{j:Nat}{want:Bool}{u:List Nat}(h2:Ry A l b dr j4 ops T H (n+1) (.tuple []::rl) n5 Q)(h:lk n rl j=some (.d (.bool (!want))):=by rfl)(hk:∀ L,D8 ⟨T,H,L,n5⟩ op=false:=by intro;rfl)(ha:op.y3=false:=by rfl) :
  Ry A l b dr j4 (⟨op,none,some (j,want),u⟩::ops) T H n rl n5 Q:=fun hn=>Rx.Ro (by rw [eX hn];exact h) (by cases want<;>rfl) (hk _) ha (h2.to hn)
theorem st {op:s9}{j:Nat}{want:Bool}{u:List Nat}(h2:Ry A l b dr j4 ops T H (n+1) (.tuple []::rl) n5 Q)(h:lk n rl j=some (.tuple []):=by rfl)(hk:∀ L,D8 ⟨T,H,L,n5⟩ op=false:=by intro;rfl)(ha:op.y3=false:=by rfl) :
  Ry A l b dr j4 (⟨op,none,some (j,want),u⟩::ops) T H n rl n5 Q:=fun hn=>Rx.NS (by rw [eX hn];exact h) (hk _) ha (h2.to hn)
theorem fk {op:s9}{dst:Option Nat}{j:Nat}{want w:Bool}{r1 r2:List b6}{u:List Nat}(h:lk n rl j=some (.d (.bool w)):=by rfl)(hj:J7 (j+1) n=true:=by rfl)(ht:rl.set (n - (j+1)) (.d (.bool true))=r1:=by simp only [Nat.reduceAdd,Nat.reduceSub,List.set_cons_zero,List.set_cons_succ]<;>rfl)(hf:rl.set (n - (j+1)) (.d (.bool false))=r2:=by simp only [Nat.reduceAdd,Nat.reduceSub,List.set_cons_zero,List.set_cons_succ]<;>rfl)(h1:w=true->Ry A l b dr j4 (⟨op,dst,some (j,want),u⟩::ops) T H n r1 n5 Q)(h2:w=false->Ry A l b dr j4 (⟨op,dst,some (j,want),u⟩::ops) T H n r2 n5 Q) :
  Ry A l b dr j4 (⟨op,dst,some (j,want),u⟩::ops) T H n rl n5 Q:=Ry.fork h hj (fun e=>by rw [ht];exact h1 e) (fun e=>by rw [hf];exact h2 e)
theorem M8 {j:Nat}{x y:r8}{w:Bool}{r1 r2:List b6}{u:List Nat}(h:lk n rl j=some (.d (.bool w)):=by rfl)(hj:J7 (j+1) n=true:=by rfl)(ht:rl.set (n - (j+1)) (.d (.bool true))=r1:=by simp only [Nat.reduceAdd,Nat.reduceSub,List.set_cons_zero,List.set_cons_succ]<;>rfl)(hf:rl.set (n - (j+1)) (.d (.bool false))=r2:=by simp only [Nat.reduceAdd,Nat.reduceSub,List.set_cons_zero,List.set_cons_succ]<;>rfl)(h1:w=true->Ry A l b dr j4 (⟨.pick (.loc j) x y,none,none,u⟩::ops) T H n r1 n5 Q)(h2:w=false->Ry A l b dr j4 (⟨.pick (.loc j) x y,none,none,u⟩::ops) T H n r2 n5 Q) :
  Ry A l b dr j4 (⟨.pick (.loc j) x y,none,none,u⟩::ops) T H n rl n5 Q:=Ry.fork h hj (fun e=>by rw [ht];exact h1 e) (fun e=>by rw [hf];exact h2 e)
theorem pt {c x y:r8}{v:b6}{u:List Nat}(h2:Ry A l b dr j4 ops T H (n+1) (v::rl) n5 Q)(hc:rq T n rl c= .d (.bool true):=by rfl)(hx:Oq T n rl x (v):=by exact ⟨rfl,rfl⟩) :
  Ry A l b dr j4 (⟨.pick c x y,none,none,u⟩::ops) T H n rl n5 Q:=Ry.pure (rs:=[]) rfl (by simp [k9,hc,hx.rq]) h2
theorem pk {c x y:r8}{v:b6}{u:List Nat}(h2:Ry A l b dr j4 ops T H (n+1) (v::rl) n5 Q)(hc:rq T n rl c= .d (.bool false):=by rfl)(hy:Oq T n rl y (v):=by exact ⟨rfl,rfl⟩) :
  Ry A l b dr j4 (⟨.pick c x y,none,none,u⟩::ops) T H n rl n5 Q:=Ry.pure (rs:=[]) rfl (by simp [k9,hc,hy.rq]) h2
theorem bx {x:r8}{u:List Nat}{v:b6}{cs:List b6}{s id:Nat}{T2:List b6}{H2:o6}(hx:Oq T n rl x v:=by exact ⟨rfl,rfl⟩)(hc:v.cells? =some cs:=by rfl)(hs:T[s]?.isSome=true:=by rfl)
  (hi:H.length=id:=by simp only [List.length_cons,List.length_nil,Nat.reduceAdd]<;>rfl) (hT:T.set s (.ptr id 0)=T2:=by simp only [List.set_cons_zero,List.set_cons_succ]<;>rfl) (hH:H++[.cells cs]=H2:=by simp only [List.cons_append,List.nil_append]<;>rfl)
  (h2:Ry A l b false j4 ops T2 H2 (n+1) (.ptr id 0::rl) (.slot s::n5) Q):Ry A l b false j4 (⟨.box x,some s,none,u⟩::ops) T H n rl n5 Q:=fun hn=>by
 subst hi;exact Rx.WV (hx.op hn) hc hs (by rw [hT,hH];exact h2.to hn)
theorem ac {zero:List b6}{u:List Nat}{s id:Nat}{T2:List b6}{H2:o6}(hs:T[s]?.isSome=true:=by rfl)
  (hi:H.length=id:=by simp only [List.length_cons,List.length_nil,Nat.reduceAdd]<;>rfl) (hT:T.set s (.ptr id 0)=T2:=by simp only [List.set_cons_zero,List.set_cons_succ]<;>rfl) (hH:H++[.cells zero]=H2:=by simp only [List.cons_append,List.nil_append]<;>rfl)
  (h2:Ry A l b false j4 ops T2 H2 (n+1) (.ptr id 0::rl) (.slot s::n5) Q):Ry A l b false j4 (⟨.alloc zero,some s,none,u⟩::ops) T H n rl n5 Q:=fun hn=>by
 subst hi;have hs:s<T.length:=by
  rcases p7 s T.length with h|h
  ·exact h
  ·rw [q6 h] at hs;cases hs
 have h2:=h2.to hn;rw [<- hT,<- hH] at h2;refine Rx.stepT (N1:=0) (rs:=[]) rfl (fun n _=> ?_) h2;have h3:∀ r:List b6,(rl.reverse++ .ptr H.length 0::r)[rl.reverse.length]? =some (.ptr H.length 0):=fun r=>by simp
 simp only [x9,u0,C5,s9.D5,if_true,E2,I4,newId,Option.getD_none,put,F7,s4,F8,hs,u7.C6,h3];simp [u7.F0,b6.F2]
theorem su {m id off:Nat}{x y:r8}{u:List Nat}{v:b6}{cs:List b6}{H2:o6}(hy:rq T n rl y= .ptr id off)(hx:Oq T n rl x v)(hc:v.cells? =some cs)(hm:cs.length=m)(hl:l.may id=true)(hb:y9 cs<=id+1)
  (hw:wr H id off cs=some H2) (h2:Ry A l b false j4 ops T H2 (n+1) (.any::rl) (.obj id::n5) Q):Ry A l b false j4 (⟨.store m y x,none,none,u⟩::ops) T H n rl n5 Q:=fun hn=>by
 refine Rx.stepT (N1:=0) (rs:=[]) rfl (fun k _=> ?_) (h2.to hn);have hl' :(J4 A k l b).lim.may id=true:=hl;simp only [x9,u0,C5,s9.D5,if_true,E2,Y0 hn,hy,O8,(hx.op hn).C6,hc,hm,hl',hb,true_or,and_self,hw,put,F7,s4,F8]
theorem so {m id:Nat}{x y:r8}{u:List Nat}{v:b6}{cs old:List b6}{H2:o6}(hy:rq T n rl y= .ptr id 0:=by rfl)(hx:Oq T n rl x v:=by exact ⟨rfl,rfl⟩)(hc:v.cells? =some cs:=by rfl)(hm:cs.length=m:=by rfl)(hl:l.may id=true:=by rfl)(hb:y9 cs=0:=by rfl)
  (ho:H[id]? =some (.cells old):=by rfl) (hq:old.length=m:=by rfl) (hH:H.set id (.cells cs)=H2:=by simp only [List.set_cons_zero,List.set_cons_succ]<;>rfl)
  (h2:Ry A l b false j4 ops T H2 (n+1) (.any::rl) (.obj id::n5) Q):Ry A l b false j4 (⟨.store m y x,none,none,u⟩::ops) T H n rl n5 Q :=
 su hy hx hc hm hl (by omega) (by simp [wr,ho,hm,hq,splice,<- hH];rw [m7 (by omega)];simp) h2
theorem Ho {m id off:Nat}{x y:r8}{u:List Nat}{v:b6}{cs:List b6}{H2:o6}(hd:J7 (rj j4) n=true)(hy:rq T n rl y= .ptr id off)(hx:Oq T n rl x v)(hc:v.cells? =some cs)(hm:cs.length=m)(hl:l.may id=true)(hb:y9 cs<=id+1)
  (hw:wr H id off cs=some H2) (h2:Ry A l b dr j4 ops T H2 (n+1) (.any::rl) (.obj id::n5) Q):Ry A l b dr j4 (⟨.store m y x,none,none,u⟩::ops) T H n rl n5 Q:=fun hn=>by
 refine Rx.Ed (N1:=0) (rs:=[]) rfl rfl rfl (fun k _=> ?_) (fun h=> ?_) (h2.to hn)
 ·have hl' :(J4 A k l b).lim.may id=true:=hl
  simp only [x9,u0,C5,s9.D5,if_true,E2,Y0 hn,hy,O8,(hx.op hn).C6,hc,hm,hl',hb,true_or,and_self,hw,put,F7,s4,F8]
 ·have:=m6 hd
  simp [hn] at h;omega
theorem so1 {id off:Nat}{x y:r8}{u:List Nat}{v:b6}{old new:List b6}{H2:o6}(hy:rq T n rl y= .ptr id off:=by rfl)(hx:Oq T n rl x v:=by exact ⟨rfl,rfl⟩)(hc:v.cells? =some [v]:=by rfl)(hl:l.may id=true:=by rfl)(hb:v.M3<=id+1:=by decide)
  (ho:H[id]? =some (.cells old):=by rfl) (hq:off<old.length:=by decide) (hN:old.set off v=new:=by first|(simp only [List.set_cons_zero,List.set_cons_succ];done)|rfl) (hH:H.set id (.cells new)=H2:=by simp only [List.set_cons_zero,List.set_cons_succ]<;>rfl)
  (h2:Ry A l b false j4 ops T H2 (n+1) (.any::rl) (.obj id::n5) Q):Ry A l b false j4 (⟨.store 1 y x,none,none,u⟩::ops) T H n rl n5 Q :=
 su hy hx hc rfl hl (by simpa [y9] using hb) (by
  have h1:splice old off [v]=old.set off v:=by
   simp only [splice,List.length_singleton];rw [List.set_eq_take_append_cons_drop,if_pos hq];simp
  simp only [wr,ho,List.length_singleton,h1,hN,hH];rw [if_pos (by omega)]) h2
theorem o1 {x:r8}{z c:Data}{u:List Nat}(h2:Ry A l b dr j4 ops T H (n+1) (.own 1 1 [c]::rl) n5 Q)(hx:rq T n rl x= .d c:=by rfl) :
  Ry A l b dr j4 (⟨.y6 1 1 [.d z] [(0,1,x)] false,none,none,u⟩::ops) T H n rl n5 Q:=Ry.pure (rs:=[]) rfl (by simp [k9,bg,hx,b6.cells?,splice,L7,b6.data?,b6.one]) h2
theorem ap1 {α:Type}{enc:α->List Data}{xs:List α}{j s bytes n' :Nat}{y:r8}{u' :List Nat}{d' :Option Nat}{g' :Option (Nat×Bool)}{cs' :List Data}{T2:List b6}{a:α}{c:Data}{u:List Nat}(hj:lk n rl j=some (.d (.slice n' cs')):=by rfl)(ha:j4[j]? =some ⟨.M9 (.slot s),d',g',u'⟩:=by rfl)(ht:n5.any (Touch.Q1 s)=false:=by rfl)(hT:T[s]? =some (A5 1 enc xs):=by rfl)(hy:rq T n rl y= .d (.slice 1 [c]):=by rfl)(he:enc a=[c]:=by rfl)(hr:roomFor (xs.length+1) bytes=true:=by simp only [roomFor,decide_eq_true_eq,List.length_append,List.length_cons,List.length_nil,List.length_take,List.length_drop,List.length_map] at * <;>omega)(hS:T.set s (.d (y7 enc xs))=T2:=by simp only [List.set_cons_zero,List.set_cons_succ]<;>rfl)(h2:Ry A l b dr j4 ops T2 H (n+1) (A5 1 enc (xs++[a])::rl) (.slot s::n5) Q) :
  Ry A l b dr j4 (⟨.append 1 bytes false (.loc j) y,none,none,u⟩::ops) T H n rl n5 Q:=Ry.WT hj ha ht hT hy rfl hr (by decide) (by
  have e1:A5 1 enc (xs++[a])= .own 1 (xs.length+1) (xs.flatMap enc++[c]):=by simp [A5,he]
  rw [e1] at h2;rw [show (b6.d (.slice xs.length (xs.flatMap enc)))= .d (y7 enc xs) from rfl,hS];exact h2)
theorem apN {α:Type}{enc:α->List Data}{xs:List α}{j s sz bytes n' :Nat}{y:r8}{u' :List Nat}{d' :Option Nat}{g' :Option (Nat×Bool)}{cs' :List Data}{T2:List b6}{ys:List α}{u:List Nat}(hj:lk n rl j=some (.d (.slice n' cs')):=by rfl)(ha:j4[j]? =some ⟨.M9 (.slot s),d',g',u'⟩:=by rfl)(ht:n5.any (Touch.Q1 s)=false:=by rfl)(hT:T[s]? =some (A5 sz enc xs):=by rfl)(hy:rq T n rl y= .d (y7 enc ys):=by rfl)(hs:∀ a,(enc a).length=sz:=by intro;rfl)(h0:0<sz:=by decide)(hr:roomFor (xs.length+ys.length) bytes=true:=by simp only [roomFor,decide_eq_true_eq,List.length_append,List.length_cons,List.length_nil,List.length_take,List.length_drop,List.length_map] at * <;>omega)(hS:T.set s (.d (y7 enc xs))=T2:=by simp only [List.set_cons_zero,List.set_cons_succ]<;>rfl)(h2:Ry A l b dr j4 ops T2 H (n+1) (A5 sz enc (xs++ys)::rl) (.slot s::n5) Q) :
  Ry A l b dr j4 (⟨.append sz bytes false (.loc j) y,none,none,u⟩::ops) T H n rl n5 Q:=Ry.WT hj ha ht hT hy (fS hs ys) hr h0 (by
  have e1:A5 sz enc (xs++ys)= .own sz (xs.length+ys.length) (xs.flatMap enc++ys.flatMap enc):=by simp [A5]
  rw [e1] at h2;rw [show (b6.d (.slice xs.length (xs.flatMap enc)))= .d (y7 enc xs) from rfl,hS];exact h2)
theorem al1 {α:Type}{enc:α->List Data}{xs:List α}{j bytes:Nat}{y:r8}{r2:List b6}{a:α}{c:Data}{u:List Nat}(hj:lk n rl j=some (A5 1 enc xs):=by rfl)(hb:J7 (j+1) n=true:=by rfl)(hy:rq T n rl y= .d (.slice 1 [c]):=by rfl)(he:enc a=[c]:=by rfl)(hr:roomFor (xs.length+1) bytes=true:=by simp only [roomFor,decide_eq_true_eq,List.length_append,List.length_cons,List.length_nil,List.length_take,List.length_drop,List.length_map] at * <;>omega)(hS:rl.set (n - (j+1)) (.d (y7 enc xs))=r2:=by simp only [Nat.reduceAdd,Nat.reduceSub,List.set_cons_zero,List.set_cons_succ]<;>rfl)(h2:Ry A l b dr j4 ops T H (n+1) (A5 1 enc (xs++[a])::r2) n5 Q) :
  Ry A l b dr j4 (⟨.append 1 bytes false (.loc j) y,none,none,u⟩::ops) T H n rl n5 Q:=Ry.Tp hj hb hy rfl hr (by decide) (by
  have e1:A5 1 enc (xs++[a])= .own 1 (xs.length+1) (xs.flatMap enc++[c]):=by simp [A5,he]
  rw [e1] at h2;rw [show (b6.d (.slice xs.length (xs.flatMap enc)))= .d (y7 enc xs) from rfl,hS];exact h2)
theorem alN {α:Type}{enc:α->List Data}{xs:List α}{j sz bytes:Nat}{y:r8}{r2:List b6}{ys:List α}{u:List Nat}(hj:lk n rl j=some (A5 sz enc xs):=by rfl)(hb:J7 (j+1) n=true:=by rfl)(hy:rq T n rl y= .d (y7 enc ys):=by rfl)(hs:∀ a,(enc a).length=sz:=by intro;rfl)(h0:0<sz:=by decide)(hr:roomFor (xs.length+ys.length) bytes=true:=by simp only [roomFor,decide_eq_true_eq,List.length_append,List.length_cons,List.length_nil,List.length_take,List.length_drop,List.length_map] at * <;>omega)(hS:rl.set (n - (j+1)) (.d (y7 enc xs))=r2:=by simp only [Nat.reduceAdd,Nat.reduceSub,List.set_cons_zero,List.set_cons_succ]<;>rfl)(h2:Ry A l b dr j4 ops T H (n+1) (A5 sz enc (xs++ys)::r2) n5 Q) :
  Ry A l b dr j4 (⟨.append sz bytes false (.loc j) y,none,none,u⟩::ops) T H n rl n5 Q:=Ry.Tp hj hb hy (fS hs ys) hr h0 (by
  have e1:A5 sz enc (xs++ys)= .own sz (xs.length+ys.length) (xs.flatMap enc++ys.flatMap enc):=by simp [A5]
  rw [e1] at h2;rw [show (b6.d (.slice xs.length (xs.flatMap enc)))= .d (y7 enc xs) from rfl,hS];exact h2)
theorem e0 {u:List Nat}(h2:Ry A l b dr j4 ops T H (n+1) (.own 1 0 []::rl) n5 Q) :
  Ry A l b dr j4 (⟨.y6 1 0 [] [] false,none,none,u⟩::ops) T H n rl n5 Q:=Ry.pure (rs:=[]) rfl (by simp [k9,bg,L7]) h2
theorem cl {f:FuncId}{xs:List r8}{u:List Nat}{v:b6}{args:List b6}(hc:Pf A f args v)(h2:Ry A l b dr j4 ops T H (n+1) (v::rl) n5 Q)(ha:xs.map (rq T n rl)=args:=by rfl)(dc:A.prom f=false:=by rfl)(hm:A.mode f=1:=by rfl)
  (hb:y9 args=0:=by rfl):Ry A l b dr j4 (⟨.call f xs,none,none,u⟩::ops) T H n rl n5 Q:=fun hn =>
 Rx.call dc hm (fun m=>by rw [show u7.F0 T (rl.reverse++ .any::c9 m .any)=rq T n rl from funext fun x=>Y0 hn m x];exact ha) hb hc (h2.to hn)
theorem AD {zero:List b6}{parts:List (Nat×Nat×r8)}{cs:List b6}{u:List Nat}(h2:Ry A l b dr j4 ops T H (n+1) (.agg cs::rl) n5 Q)(hr:bg zero (parts.map fun p=>(p.1,p.2.1,rq T n rl p.2.2))=some cs:=by rfl) :
  Ry A l b dr j4 (⟨.build zero parts,none,none,u⟩::ops) T H n rl n5 Q:=Ry.pure (rs:=[]) rfl (by simp only [k9,hr]) h2
theorem xs {s:List UInt8}{i:Nat}{x y:r8}{k:IntKind}{u:List Nat}(hx:rq T n rl x= .d (.str s):=by rfl)(hy:rq T n rl y= .d (.int k ((i:Nat):Int)):=by rfl)(hi:i<s.length:=by first|omega|(simp only [n7,Bool.and_eq_true,o9,o5,j5,beq_eq_false_iff_ne,beq_iff_eq,decide_eq_true_eq,decide_eq_false_iff_not,Bool.not_eq_true',Bool.not_eq_false'] at *;omega))(h2:Ry A l b dr j4 ops T H (n+1) (.d (.int .u8 ((nth s i).toNat:Int))::rl) n5 Q) :
  Ry A l b dr j4 (⟨.A8 x y,none,none,u⟩::ops) T H n rl n5 Q:=Ry.pure (rs:=[]) rfl (by simp [k9,hx,hy,o7 hi,N6 hi]) h2
theorem xsN {s:List UInt8}{i:Nat}{x y:r8}{k:IntKind}{u:List Nat}(hx:rq T n rl x= .d (.str s):=by rfl)(hy:rq T n rl y= .d (.int k (OfNat.ofNat i)):=by rfl)(hi:i<s.length:=by first|omega|(simp only [n7,Bool.and_eq_true,o9,o5,j5,beq_eq_false_iff_ne,beq_iff_eq,decide_eq_true_eq,decide_eq_false_iff_not,Bool.not_eq_true',Bool.not_eq_false'] at *;omega))(h2:Ry A l b dr j4 ops T H (n+1) (.d (.int .u8 ((nth s i).toNat:Int))::rl) n5 Q) :
  Ry A l b dr j4 (⟨.A8 x y,none,none,u⟩::ops) T H n rl n5 Q:=xs hx hy hi h2
theorem qs {neg t:Bool}{ks:List CK}{x y:r8}{va vb:List b6}{u:List Nat}(h2:Ry A l b dr j4 ops T H (n+1) (.d (.bool (neg != t))::rl) n5 Q)(hx:rq T n rl x= .agg va:=by rfl)(hy:rq T n rl y= .agg vb:=by rfl)(hr:mO ks va vb=some t:=by rfl) :
  Ry A l b dr j4 (⟨.Lw neg ks x y,none,none,u⟩::ops) T H n rl n5 Q:=Ry.pure (rs:=[]) rfl (by simp only [k9,hx,hy,hr]) h2
theorem qb {neg s t:Bool}{x y:r8}{u:List Nat}(h2:Ry A l b dr j4 ops T H (n+1) (.d (.bool (neg != (s==t)))::rl) n5 Q)(hx:rq T n rl x= .d (.bool s):=by rfl)(hy:rq T n rl y= .d (.bool t):=by rfl) :
  Ry A l b dr j4 (⟨.o8 neg x y,none,none,u⟩::ops) T H n rl n5 Q:=Ry.pure (rs:=[]) rfl (by simp only [k9,hx,hy]) h2
theorem mm {isMax:Bool}{xs:List r8}{c d:Data}{r:List b6}{u:List Nat}(h2:Ry A l b dr j4 ops T H (n+1) (.d d::rl) n5 Q)(ha:xs.map (rq T n rl)= .d c::r:=by rfl)(hr:cR isMax c r=some d:=by rfl) :
  Ry A l b dr j4 (⟨.eY isMax xs,none,none,u⟩::ops) T H n rl n5 Q:=Ry.pure (rs:=[]) rfl (by simp only [k9,ha,hr]) h2
theorem ip {m sz i:Nat}{x y:r8}{k:IntKind}{cs:List Data}{u:List Nat}(h2:Ry A l b dr j4 ops T H (n+1) (.P9 (cs.drop (i * sz))::rl) n5 Q)(hx:rq T n rl x= .P9 cs:=by rfl)(hy:rq T n rl y= .d (.int k ((i:Nat):Int)):=by rfl)(hi:i<m:=by omega) :
  Ry A l b dr j4 (⟨.fy m sz x y,none,none,u⟩::ops) T H n rl n5 Q:=Ry.pure (rs:=[]) rfl (by
  have h1:(i:Int)<m:=by omega
  simp [k9,hx,hy,h1]) h2
theorem ipN {m sz i:Nat}{x y:r8}{k:IntKind}{cs:List Data}{u:List Nat}(h2:Ry A l b dr j4 ops T H (n+1) (.P9 (cs.drop (i * sz))::rl) n5 Q)(hx:rq T n rl x= .P9 cs:=by rfl)(hy:rq T n rl y= .d (.int k (OfNat.ofNat i)):=by rfl)(hi:i<m:=by omega) :
  Ry A l b dr j4 (⟨.fy m sz x y,none,none,u⟩::ops) T H n rl n5 Q:=ip h2 hx hy hi
theorem svh {α:Type} [Inhabited α] {enc:α->List Data}{xs:List α}{sz i:Nat}{x y:r8}{k:IntKind}{u:List Nat}(hx:rq T n rl x= .d (y7 enc xs):=by rfl)(hy:rq T n rl y= .d (.int k ((i:Nat):Int)):=by rfl)(hs:∀ a,(enc a).length=sz:=by intro;rfl)(hi:i<=xs.length:=by first|omega|(simp only [n7,Bool.and_eq_true,o9,o5,j5,beq_eq_false_iff_ne,beq_iff_eq,decide_eq_true_eq,decide_eq_false_iff_not,Bool.not_eq_true',Bool.not_eq_false'] at *;omega))(h2:Ry A l b dr j4 ops T H (n+1) (.d (y7 enc (xs.take i))::rl) n5 Q) :
  Ry A l b dr j4 (⟨.aE sz x none (some y),none,none,u⟩::ops) T H n rl n5 Q:=Ry.pure (rs:=[]) rfl (by
  have h1:=wI hs xs 0 i (Nat.zero_le _) hi;have h3:(xs.flatMap enc).length=xs.length * sz:=fS hs xs;simp at h1;have hx' :=hx;simp only [y7] at hx' h1;have h4:(i:Int)<=xs.length:=by omega
  simp [k9,hx',hy,Q7,y7,h3,h1,h4]) h2
theorem svl {α:Type} [Inhabited α] {enc:α->List Data}{xs:List α}{sz i:Nat}{x y:r8}{k:IntKind}{u:List Nat}(hx:rq T n rl x= .d (y7 enc xs):=by rfl)(hy:rq T n rl y= .d (.int k ((i:Nat):Int)):=by rfl)(hs:∀ a,(enc a).length=sz:=by intro;rfl)(hi:i<=xs.length:=by first|omega|(simp only [n7,Bool.and_eq_true,o9,o5,j5,beq_eq_false_iff_ne,beq_iff_eq,decide_eq_true_eq,decide_eq_false_iff_not,Bool.not_eq_true',Bool.not_eq_false'] at *;omega))(h2:Ry A l b dr j4 ops T H (n+1) (.d (y7 enc (xs.drop i))::rl) n5 Q) :
  Ry A l b dr j4 (⟨.aE sz x (some y) none,none,none,u⟩::ops) T H n rl n5 Q:=Ry.pure (rs:=[]) rfl (by
  have h3:(xs.flatMap enc).length=xs.length * sz:=fS hs xs;have h5:((xs.flatMap enc).take (xs.length * sz)).drop (i * sz)=(xs.drop i).flatMap enc:=by rw [s6 (by omega),rG hs]
  have hx' :=hx;simp only [y7] at hx';have h4:(i:Int)<=xs.length:=by omega
  have h6:((xs.length:Int) - i).toNat=xs.length - i:=by omega
  simp [k9,hx',hy,Q7,y7,h3,h5,h4,h6]) h2
theorem svb {α:Type} [Inhabited α] {enc:α->List Data}{xs:List α}{sz i j:Nat}{x y z:r8}{k k' :IntKind}{u:List Nat}(hx:rq T n rl x= .d (y7 enc xs):=by rfl)(hy:rq T n rl y= .d (.int k ((i:Nat):Int)):=by rfl)(hz:rq T n rl z=(.d (.int k' ((j:Nat):Int))):=by rfl)(hs:∀ a,(enc a).length=sz:=by intro;rfl)(hij:i<=j/\j<=xs.length:=by first|omega|(simp only [n7,Bool.and_eq_true,o9,o5,j5,beq_eq_false_iff_ne,beq_iff_eq,decide_eq_true_eq,decide_eq_false_iff_not,Bool.not_eq_true',Bool.not_eq_false'] at *;omega))(h2:Ry A l b dr j4 ops T H (n+1) (.d (y7 enc ((xs.take j).drop i))::rl) n5 Q) :
  Ry A l b dr j4 (⟨.aE sz x (some y) (some z),none,none,u⟩::ops) T H n rl n5 Q:=Ry.pure (rs:=[]) rfl (by
  have h1:=wI hs xs i j hij.1 hij.2;have h3:(xs.flatMap enc).length=xs.length * sz:=fS hs xs;have hx' :=hx;simp only [y7] at hx' h1;have h4:(j:Int)<=xs.length:=by omega
  have h5:(i:Int)<=j:=by omega
  simp only [k9,hx',hy,hz,Q7,y7,h3,h4,h5,Int.natCast_nonneg,and_self,if_true,Int.toNat_natCast,h1]) h2
end S
end
section
variable {A:Prog} {l:F9} {b:Nat}
variable {dr:Bool} {j4 ops:List n8} {T:List b6} {H:o6} {n:Nat} {rl:List b6} {n5:List Touch} {Q:List b6->o6->List b6->Prop}
namespace S
theorem bxn {x:r8}{u:List Nat}{v:b6}{cs:List b6}{id:Nat}{H2:o6}(hx:Oq T n rl x v:=by exact ⟨rfl,rfl⟩)(hc:v.cells? =some cs:=by rfl)
  (hi:H.length=id:=by simp only [List.length_cons,List.length_nil,Nat.reduceAdd]<;>rfl) (hH:H++[.cells cs]=H2:=by simp only [List.cons_append,List.nil_append]<;>rfl)
  (h2:Ry A l b false j4 ops T H2 (n+1) (.ptr id 0::rl) n5 Q):Ry A l b false j4 (⟨.box x,none,none,u⟩::ops) T H n rl n5 Q:=fun hn=>by
 subst hi;have h2:=h2.to hn;rw [<- hH] at h2;refine Rx.stepT (N1:=0) (rs:=[]) rfl (fun n _=> ?_) h2;simp only [x9,u0,C5,s9.D5,if_true,E2,(hx.op hn).F0,hc,I4,newId,Option.getD_none,put,F7,s4,F8]
theorem nk {x:r8}{u:List Nat}{id o:Nat}(h2:Ry A l b dr j4 ops T H (n+1) (.ptr id o::rl) n5 Q)(hx:rq T n rl x= .ptr id o:=by rfl):Ry A l b dr j4 (⟨.Y5 x,none,none,u⟩::ops) T H n rl n5 Q :=
 Ry.pure (rs:=[]) rfl (by simp only [k9,hx]) h2
theorem nki {x:r8}{u:List Nat}{cs:List Data}(h2:Ry A l b dr j4 ops T H (n+1) (.P9 cs::rl) n5 Q)(hx:rq T n rl x= .P9 cs:=by rfl):Ry A l b dr j4 (⟨.Y5 x,none,none,u⟩::ops) T H n rl n5 Q :=
 Ry.pure (rs:=[]) rfl (by simp only [k9,hx]) h2
theorem mu {x y:r8}{u:List Nat}{c d:Int}(h2:Ry A l b dr j4 ops T H (n+1) (.d (.int .i64 (c * d))::rl) n5 Q)(h0: -9223372036854775808<=c * d/\c * d<9223372036854775808)(hx:rq T n rl x= .d (.int .i64 c):=by rfl)(hy:rq T n rl y= .d (.int .i64 d):=by rfl) :
  Ry A l b dr j4 (⟨.bin .mul x y,none,none,u⟩::ops) T H n rl n5 Q :=
 Ry.pure (rs:=[]) rfl (by simp [k9,hx,hy,K5,V1,aA,wrap_small h0.1 h0.2]) h2
theorem ipM {m sz i:Nat}{x y:r8}{u:List Nat}{k:IntKind}{cs:List Data}(h2:Ry A l b dr j4 ops T H (n+1) (.P9 (cs.drop (i * sz))::rl) n5 Q)(hx:rq T n rl x= .P9 cs:=by rfl)(hy:rq T n rl y= .d (.int k (OfNat.ofNat i)):=by rfl)
  (hi:i<m:=by decide):Ry A l b dr j4 (⟨.fy m sz x y,none,none,u⟩::ops) T H n rl n5 Q:=ip h2 hx hy hi
end S
theorem Ex.ff {mask:List Bool}{body:p5}{R:D2->St->Prop}(Inv:Nat->List b6->o6->Prop)
  (hb:∀ k T' H',Inv k T' H' ->Ex A l b body ⟨T',H'⟩ (rJ R fun s=>∃ k',k' <k/\∃ T2 H2,clean mask l.strict H.length s=⟨T2,H2⟩/\Inv k' T2 H2)) {k:Nat} (h:Inv k (R0 mask T) H):Ex A l b (.loop mask body) ⟨T,H⟩ R:=by
 refine Ex.loop (fun k s=>∃ T2 H2,clean mask l.strict H.length s=⟨T2,H2⟩/\Inv k T2 H2) (fun k s ⟨T2,H2,e,hs⟩=> ?_) (k:=k) ⟨R0 mask T,H,yH rfl,h⟩;rw [e];exact hb k T2 H2 hs
end
section
variable {A:Prog} {l:F9} {b:Nat}
variable {dr:Bool} {j4 ops:List n8} {T:List b6} {H:o6} {n:Nat} {rl:List b6} {n5:List Touch} {Q:List b6->o6->List b6->Prop}
theorem Ex.J6 {c:r8}{d e:p5}{t:Bool}{Q:D2->St->Prop}(h2:Ex A l b d ⟨T,H⟩ Q)(h1:F0 T [] c= .d (.bool t):=by rfl)(ht:t=true:=by assumption):Ex A l b (.cond c d e) ⟨T,H⟩ Q :=
 Ex.cond h1 (fun _=>h2) (fun h=>by rw [ht] at h;cases h)
namespace S
theorem lq3 {x:r8}{u:List Nat}{id o:Nat}{v1 v2 v3:Data}(h2:Ry A l b dr j4 ops T H (n+1) (.agg [.d v1,.d v2,.d v3]::rl) n5 Q)(hx:rq T n rl x= .ptr id o:=by rfl)(hr:rd H id o 3=some [.d v1,.d v2,.d v3]:=by rfl) :
  Ry A l b dr j4 (⟨.load (some 3) x,none,none,u⟩::ops) T H n rl n5 Q :=
 Ry.pure (rs:=[id]) rfl (by simp only [k9,hx,hr,G7,List.map_nil,b6.F2]) h2
theorem o1z {x:r8}{u:List Nat}{z:b6}{c:Data}(h2:Ry A l b dr j4 ops T H (n+1) (.own 1 1 [c]::rl) n5 Q)(hx:rq T n rl x= .d c:=by rfl):Ry A l b dr j4 (⟨.y6 1 1 [z] [(0,1,x)] false,none,none,u⟩::ops) T H n rl n5 Q :=
 Ry.pure (rs:=[]) rfl (by simp [k9,bg,hx,b6.cells?,splice,L7,b6.data?,b6.one]) h2
theorem clT {f:FuncId}{xs:List r8}{u:List Nat}{v:b6}{args:List b6}{s:Nat}{T2:List b6}(hc:Pf A f args v)(ha:xs.map (rq T n rl)=args:=by rfl)(dc:A.prom f=false:=by rfl)(hm:A.mode f=1:=by rfl)
  (hb:y9 args=0:=by rfl) (hv:v.F2=v:=by rfl) (hs:T[s]?.isSome=true:=by rfl) (hT:T.set s v=T2:=by simp only [List.set_cons_zero,List.set_cons_succ]<;>rfl)
  (h2:Ry A l b dr j4 ops T2 H (n+1) (v::rl) (.slot s::n5) Q):Ry A l b dr j4 (⟨.call f xs,some s,none,u⟩::ops) T H n rl n5 Q:=fun hn=>by
 obtain ⟨M,hc⟩:=hc;have hs:s<T.length:=by
  rcases p7 s T.length with h|h
  ·exact h
  ·rw [q6 h] at hs;cases hs
 have h2:=h2.to hn;rw [<- hT] at h2;refine Rx.step (N1:=M) (rs:=[]) rfl rfl (fun k hk=> ?_) (fM s n5) h2;have h3:A6 (J4 A k l b) rl.reverse.length f args ⟨T,H,rl.reverse++ .any::c9 ops.length .any,n5⟩=some (put ⟨T,H,rl.reverse++ .any::c9 ops.length .any,n5⟩ rl.reverse.length v) :=
  ij dc hm hb (hc k hk)
 have VI :xs.map (u7.F0 T (rl.reverse++ .any::c9 ops.length .any))=args:=by
  rw [show u7.F0 T (rl.reverse++ .any::c9 ops.length .any)=rq T n rl from funext fun x=>Y0 hn _ x];exact ha
 have h5:u7.C6 ⟨T,H,rl.reverse++v::c9 ops.length .any,n5⟩ (.loc rl.reverse.length)=(v,⟨T,H,rl.reverse++v::c9 ops.length .any,n5⟩):=by
  simp only [u7.C6,p9 (l5 _),Nat.sub_self,List.getElem?_cons_zero];split
  ·rename_i heq
   cases heq;simp [b6.F2] at hv
  ·simp [u7.F0,hv]
 simp only [x9,u0,C5,s9.D5,if_true,E2,VI,h3,s4,F8,put,F7,hs,h5]
end S
end
section
variable {A:Prog} {l:F9} {b:Nat}
variable {dr:Bool} {j4 ops:List n8} {T:List b6} {H:o6} {n:Nat} {rl:List b6} {n5:List Touch} {Q:List b6->o6->List b6->Prop}
namespace S
theorem df {f:FuncId}{a c:List b6}{u:List Nat}(h2:Ry A l b dr j4 ops T H (n+1) (.any::rl) n5 Q)(hi:A.idle f=true:=by rfl):Ry A l b dr j4 (⟨.defer (.const (.func f a c)),none,none,u⟩::ops) T H n rl n5 Q:=fun hn=>by
 refine Rx.step (N1:=0) (rs:=[]) rfl rfl (fun k _=> ?_) (fun rs=>by simp [J9]) (h2.to hn);have hi' :(J4 A k l b).idle f=true:=hi;simp only [x9,u0,C5,s9.D5,if_true,E2,u7.F0,b6.Lv,b6.F2,hi',put,F7,s4,F8]
theorem ipp {m sz o id o2:Nat}{x y:r8}{u:List Nat}{k:IntKind}{e:Int}(i:Nat)(he:e=i)(ho:o+i * sz=o2)(hi:i<m)(h2:Ry A l b dr j4 ops T H (n+1) (.ptr id o2::rl) n5 Q)(hx:rq T n rl x= .ptr id o:=by rfl)(hy:rq T n rl y= .d (.int k e):=by rfl) :
  Ry A l b dr j4 (⟨.fy m sz x y,none,none,u⟩::ops) T H n rl n5 Q:=by
 subst he;subst ho;refine Ry.pure (rs:=[]) rfl ?_ h2;have h1:(i:Int)<m:=by omega
 simp [k9,hx,hy,h1]
theorem mf {f:FuncId}{a c:List r8}{u:List Nat}{va vc:List b6}(h2:Ry A l b dr j4 ops T H (n+1) (.func f va vc::rl) n5 Q)(ha:a.map (rq T n rl)=va:=by rfl)(hc:c.map (rq T n rl)=vc:=by rfl):Ry A l b dr j4 (⟨.X8 f a c,none,none,u⟩::ops) T H n rl n5 Q :=
 Ry.pure (rs:=[]) rfl (by simp only [k9,ha,hc]) h2
end S
end
section
variable {A:Prog} {l:F9} {b:Nat}
variable {dr:Bool} {j4 ops:List n8} {T:List b6} {H:o6} {n:Nat} {rl:List b6} {n5:List Touch} {Q:List b6->o6->List b6->Prop}
namespace S
theorem ar0 {m sz i o id:Nat}{x y:r8}{u:List Nat}{k:IntKind}(h2:Ry A l b dr j4 ops T H (n+1) (.ptr id (o+i * sz)::rl) n5 Q)(hx:rq T n rl x= .ptr id o:=by rfl)(hy:rq T n rl y= .d (.int k (OfNat.ofNat i)):=by rfl)(hi:i<m:=by decide) :
  Ry A l b dr j4 (⟨.fy m sz x y,none,none,u⟩::ops) T H n rl n5 Q:=ipp i rfl rfl hi h2 hx hy
end S
end
section
variable {A:Prog} {l:F9} {b:Nat}
variable {dr:Bool} {j4 ops:List n8} {T:List b6} {H:o6} {n:Nat} {rl:List b6} {n5:List Touch} {Q:List b6->o6->List b6->Prop}
namespace S
theorem sp1 {id off:Nat}{x y:r8}{u:List Nat}{v:b6}{old new:List b6}{H2:o6}(hy:rq T n rl y= .ptr id off:=by rfl)(hx:Oq T n rl x v:=by exact ⟨rfl,rfl⟩)(hc:v.cells? =some [v]:=by rfl)(hl:l.may id=true:=by rfl)(hb:v.M3<=id+1:=by exact Nat.zero_le _)
  (ho:H[id]? =some (.cells old):=by rfl) (hq:off<old.length:=by simp) (hN:old.set off v=new:=by first|(simp only [List.set_cons_zero,List.set_cons_succ];done)|rfl) (hH:H.set id (.cells new)=H2:=by simp only [List.set_cons_zero,List.set_cons_succ]<;>rfl)
  (h2:Ry A l b false j4 ops T H2 (n+1) (.any::rl) (.obj id::n5) Q):Ry A l b false j4 (⟨.store 1 y x,none,none,u⟩::ops) T H n rl n5 Q:=so1 hy hx hc hl hb ho hq hN hH h2
end S
end
section
variable {A:Prog} {l:F9} {b:Nat}
variable {dr:Bool} {j4 ops:List n8} {T:List b6} {H:o6} {n:Nat} {rl:List b6} {n5:List Touch} {Q:List b6->o6->List b6->Prop}
namespace S
theorem alE {α:Type}{enc:α->List Data}{ys:List α}{j sz bytes:Nat}{y:r8}{u:List Nat}{r2:List b6}(hj:lk n rl j=some (.own sz 0 []):=by rfl)(hb:J7 (j+1) n=true:=by rfl)(hy:rq T n rl y= .d (y7 enc ys):=by rfl)
  (hs:∀ a,(enc a).length=sz:=by intro;rfl) (h0:0<sz:=by decide) (hr:roomFor (0+ys.length) bytes=true:=by simp only [roomFor,decide_eq_true_eq,List.length_append,List.length_cons,List.length_nil,List.length_take,List.length_drop,List.length_map] at * <;>omega)
  (hS:rl.set (n - (j+1)) (.d (.slice 0 []))=r2:=by simp only [Nat.reduceAdd,Nat.reduceSub,List.set_cons_zero,List.set_cons_succ]<;>rfl) (h2:Ry A l b dr j4 ops T H (n+1) (A5 sz enc ys::r2) n5 Q) :
  Ry A l b dr j4 (⟨.append sz bytes false (.loc j) y,none,none,u⟩::ops) T H n rl n5 Q :=
 Ry.Tp hj hb hy (fS hs ys) hr h0 (by
  have e1:A5 sz enc ys= .own sz (0+ys.length) ([]++ys.flatMap enc):=by simp [A5]
  rw [e1] at h2;rw [hS];exact h2)
end S
end
section
variable {A:Prog} {l:F9} {b:Nat}
theorem Ex.Vp {c:p5}{st:St}{R:D2->St->Prop}{go:St->Prop}(P:St->Prop)(h1:Ex A l b c st (rJ (fun _ _=>False) P))(h2:∀ s,P s->go s):Ex A l b c st (rJ R go):=by
 refine h1.mono fun x s h=> ?_
 cases x with
 |normal=>exact h2 s h
 |exit i=>exact h.elim
 |ret=>exact h.elim
end
section
variable {A:Prog} {l:F9} {b:Nat}
variable {dr:Bool} {j4 ops:List n8} {T:List b6} {H:o6} {n:Nat} {rl:List b6} {n5:List Touch} {Q:List b6->o6->List b6->Prop}
namespace S
theorem mvS {s:Nat}{u:List Nat}{w v:b6}(hv:w.F2=v)(h2:Ry A l b dr j4 ops T H (n+1) (v::rl) n5 Q)(hx:T[s]? =some w:=by rfl):Ry A l b dr j4 (⟨.M9 (.slot s),none,none,u⟩::ops) T H n rl n5 Q:=fun hn=>by
 refine Rx.step (N1:=0) (rs:=[]) rfl rfl (fun k _=> ?_) (fun rs=>by simp [J9]) (h2.to hn);have h1:u7.F0 T (rl.reverse++ .any::c9 ops.length .any) (.slot s)=v:=by simp [u7.F0,hx,hv]
 simp only [x9,u0,C5,s9.D5,b7,if_false,u7.C6,h1,put,F7,s4,F8]
end S
end
def Pm (A:Prog)(f:FuncId)(args:List b6)(H:o6)(l:F9)(v:b6)(H1:o6):Prop:=∃ N,∀ n,N<=n->call A n f args H l=some (v,H1)
def Pq (A:Prog)(f:FuncId)(args:List b6)(H:o6)(l:F9)(Post:b6->o6->Prop):Prop:=∃ v H1,Post v H1/\Pm A f args H l v H1
section
variable {A:Prog} {l:F9} {b:Nat}
theorem Pq.run {f:FuncId}{af:q5}{args:List b6}{H:o6}{Post:b6->o6->Prop}(T:List b6)(hp:A.ga f=none)(hf:A.fn f=some af)(hn:args.length=af.nparams)(hb:H.length=b)
  (hT:args++c9 (af.names.length - args.length) .any=T) (h:Ex A l b af.body ⟨T,H⟩ fun x s=>∃ w H1,jI af b (some (x,s))=some (w,H1)/\Post w H1):Pq A f args H l Post:=by
 subst hT;subst hb;obtain ⟨x,s,N,⟨w,H1,hq,hP⟩,h⟩:=h;refine ⟨w,H1,hP,N+1,fun n hn' => ?_⟩;obtain ⟨n,rfl⟩:∃ j,n=j+1:=⟨n - 1,by omega⟩;rw [HG hp hf,oS hn];have:=h n (by omega);simp only [J4] at this;rw [this,hq]
theorem fF {H:o6}{s k n:Nat}(h:W8 ((H.take n).drop s)<=n):G5 H s (k+1) n=n:=by
 simp only [G5];split
 ·rfl
 ·rw [if_pos (by omega)]
theorem uP {E:Env}{k m:Nat}{f:FuncId}{args:List b6}{st:E1}{v:b6}{H1:o6}{l2:F9}(dc:E.prom f=false)(hm:E.mode f=0)(hc:G5 st.H E.lim.strict 8 (y9 args)=m)(hle:m<=st.H.length)(AY:W8 ((st.H.take m).drop E.lim.strict)<=m)
  (kU:(⟨E.lim.RS,E.lim.RR,m,B5 st.H E.lim.strict m⟩:F9)=l2) (h:E.cf f args (st.H.take m) l2=some (v,H1)) (hH:H1.length=m) :
  A6 E k f args st=some (put { st with H:=H1++st.H.drop m,n5:= .below m::st.n5 } k v):=by
 subst kU;simp only [A6,dc,hm,hc,hle,AY,and_self,if_true,b7,if_false,h,hH]
theorem oT {E:Env}{k m:Nat}{f:FuncId}{args:List b6}{st:E1}{v:b6}{H1:o6}{l2:F9}(dc:E.prom f=false)(hm:E.mode f=1)(hc:G5 st.H E.lim.strict 8 (y9 args)=m)(hle:m<=st.H.length)(AY:W8 ((st.H.take m).drop E.lim.strict)<=m)
  (kU:(⟨0,m,m,B5 st.H E.lim.strict m⟩:F9)=l2) (h:E.cf f args (st.H.take m) l2=some (v,H1)) (hH:H1.length=m) :
  A6 E k f args st=some (put st k v):=by
 subst kU;simp only [A6,dc,hm,hc,hle,AY,and_self,if_true,b7,if_false,h,hH]
variable {dr:Bool} {j4 ops:List n8} {T:List b6} {H:o6} {n:Nat} {rl:List b6} {n5:List Touch} {Q:List b6->o6->List b6->Prop}
theorem lN (hn:rl.length=n)(xs:List r8):xs.map (u7.F0 T (rl.reverse++ .any::c9 ops.length .any))=xs.map (rq T n rl):=by
 rw [show u7.F0 T (rl.reverse++ .any::c9 ops.length .any)=rq T n rl from funext fun x=>Y0 hn _ x]
namespace S
theorem c0 {f:FuncId}{xs:List r8}{u:List Nat}{v:b6}{args:List b6}{m:Nat}{H0 HD H1 H2:o6}{l2:F9}(hc:Pm A f args H0 l2 v H1)(Qb:H1.length=m)(AY:W8 ((H.take m).drop l.strict)<=m:=by exact Nat.zero_le _)(hcl:G5 H l.strict 8 (y9 args)=m:=by rfl)
  (Mq:H.take m=H0:=by rfl) (hle:J7 m H.length=true:=by rfl) (kU:(⟨l.RS,l.RR,m,B5 H l.strict m⟩:F9)=l2:=by rfl) (hd:dr=true->J7 (rj j4) n=true:=by intro;rfl)
  (ha:xs.map (rq T n rl)=args:=by rfl) (dc:A.prom f=false:=by rfl) (hm:A.mode f=0:=by rfl) (hD:H.drop m=HD:=by rfl) (hA:H1++HD=H2:=by first|(simp only [List.cons_append,List.nil_append]<;>rfl)|rfl)
  (h2:Ry A l b dr j4 ops T H2 (n+1) (v::rl) (.below m::n5) Q):Ry A l b dr j4 (⟨.call f xs,none,none,u⟩::ops) T H n rl n5 Q:=fun hn=>by
 obtain ⟨M,hc⟩:=hc;subst Mq hD hA;have h2:=h2.to hn;have e1:∀ k,M<=k->x9 (J4 A k l b) j4 none rl.reverse.length ⟨.call f xs,none,none,u⟩ ⟨T,H,rl.reverse++ .any::c9 ops.length .any,n5⟩=some (⟨T,H1++H.drop m,rl.reverse++v::c9 ops.length .any,.below m::n5⟩,[]):=fun k hk=>by
  have h3:A6 (J4 A k l b) rl.reverse.length f args ⟨T,H,rl.reverse++ .any::c9 ops.length .any,n5⟩=some (put ⟨T,H1++H.drop m,rl.reverse++ .any::c9 ops.length .any,.below m::n5⟩ rl.reverse.length v) :=
   uP dc hm hcl (m6 hle) AY kU (hc k hk) Qb
  simp only [x9,u0,C5,s9.D5,if_true,E2,lN hn,ha,h3,s4,F8,put,F7]
 cases dr with
 |false=>exact Rx.stepT (N1:=M) (rs:=[]) rfl e1 h2
 |true =>
  refine Rx.Ed (N1:=M) (rs:=[]) rfl rfl rfl e1 (fun h=> ?_) h2;have:=m6 (hd rfl);simp [hn] at h;omega
theorem c1 {f:FuncId}{xs:List r8}{u:List Nat}{v:b6}{args:List b6}{m:Nat}{H0 H1:o6}{l2:F9}(hc:Pm A f args H0 l2 v H1)(Qb:H1.length=m)(h2:Ry A l b dr j4 ops T H (n+1) (v::rl) n5 Q)(AY:W8 ((H.take m).drop l.strict)<=m:=by exact Nat.zero_le _)(hcl:G5 H l.strict 8 (y9 args)=m:=by rfl)
  (Mq:H.take m=H0:=by rfl) (hle:J7 m H.length=true:=by rfl) (kU:(⟨0,m,m,B5 H l.strict m⟩:F9)=l2:=by rfl)
  (ha:xs.map (rq T n rl)=args:=by rfl) (dc:A.prom f=false:=by rfl) (hm:A.mode f=1:=by rfl):Ry A l b dr j4 (⟨.call f xs,none,none,u⟩::ops) T H n rl n5 Q:=fun hn=>by
 obtain ⟨M,hc⟩:=hc;subst Mq;refine Rx.step (N1:=M) (rs:=[]) rfl rfl (fun k hk=> ?_) (fun rs=>by simp [J9]) (h2.to hn);have h3:A6 (J4 A k l b) rl.reverse.length f args ⟨T,H,rl.reverse++ .any::c9 ops.length .any,n5⟩=some (put ⟨T,H,rl.reverse++ .any::c9 ops.length .any,n5⟩ rl.reverse.length v) :=
  oT dc hm hcl (m6 hle) AY kU (hc k hk) Qb
 simp only [x9,u0,C5,s9.D5,if_true,E2,lN hn,ha,h3,s4,F8,put,F7]
theorem cv {f:FuncId}{x:r8}{xs:List r8}{u:List Nat}{v:b6}{first caps args:List b6}(hc:Pf A f args v)(h2:Ry A l b dr j4 ops T H (n+1) (v::rl) n5 Q)(hx:rq T n rl x= .func f first caps:=by rfl)(ha:first++xs.map (rq T n rl)++caps=args:=by rfl)(dc:A.prom f=false:=by rfl)(hm:A.mode f=1:=by rfl)
  (hb:y9 args=0:=by rfl):Ry A l b dr j4 (⟨.Z3 x xs,none,none,u⟩::ops) T H n rl n5 Q:=fun hn=>by
 obtain ⟨M,hc⟩:=hc;refine Rx.step (N1:=M) (rs:=[]) rfl rfl (fun k hk=> ?_) (fun rs=>by simp [J9]) (h2.to hn);have h3:A6 (J4 A k l b) rl.reverse.length f args ⟨T,H,rl.reverse++ .any::c9 ops.length .any,n5⟩=some (put ⟨T,H,rl.reverse++ .any::c9 ops.length .any,n5⟩ rl.reverse.length v) :=
  ij dc hm hb (hc k hk)
 simp only [x9,u0,C5,s9.D5,if_true,E2,Y0 hn,hx,lN hn,ha,h3,s4,F8,put,F7]
theorem lk1 {kk:CK}{zero:b6}{x y:r8}{u:List Nat}{id:Nat}{key:Data}{es:List (Data×b6)}{r:Option b6}{v:b6}(hr:aK kk key es=some r)(hv:r.getD zero=v)(h2:Ry A l b dr j4 ops T H (n+1) (v::rl) n5 Q)
  (hx:rq T n rl x= .map id:=by rfl) (hy:rq T n rl y= .d key:=by rfl) (ho:H[id]? =some (.map es):=by rfl):Ry A l b dr j4 (⟨.lookup kk zero false x y,none,none,u⟩::ops) T H n rl n5 Q :=
 Ry.pure (rs:=[id]) rfl (by subst hv;simp [k9,hx,hy,ho,hr]) h2
theorem lk2 {kk:CK}{zero:b6}{x y:r8}{u:List Nat}{id:Nat}{key:Data}{es:List (Data×b6)}{r:Option b6}{v:b6}{t:Bool}(hr:aK kk key es=some r)(hv:r.getD zero=v)(ht:r.isSome=t)(h2:Ry A l b dr j4 ops T H (n+1) (.tuple [v,.d (.bool t)]::rl) n5 Q)
  (hx:rq T n rl x= .map id:=by rfl) (hy:rq T n rl y= .d key:=by rfl) (ho:H[id]? =some (.map es):=by rfl):Ry A l b dr j4 (⟨.lookup kk zero true x y,none,none,u⟩::ops) T H n rl n5 Q :=
 Ry.pure (rs:=[id]) rfl (by subst hv ht;simp [k9,hx,hy,ho,hr]) h2
theorem mp {kk:CK}{x y z:r8}{u:List Nat}{id:Nat}{key:Data}{es es' :List (Data×b6)}{v:b6}{H2:o6}(hr:bM kk key v es=some es')(hk:Data.X7 kk key key=some true)(hx:rq T n rl x= .map id:=by rfl)(hy:rq T n rl y= .d key:=by rfl)(hz:rq T n rl z=v:=by rfl)(hbv:v.M3<=id+1:=by exact Nat.zero_le _)(hl:l.may id=true:=by rfl)
  (ho:H[id]? =some (.map es):=by rfl) (hd:dr=true->J7 (rj j4) n=true:=by intro;rfl) (hH:H.set id (.map es')=H2:=by simp only [List.set_cons_zero,List.set_cons_succ]<;>rfl)
  (h2:Ry A l b dr j4 ops T H2 (n+1) (.any::rl) (.obj id::n5) Q):Ry A l b dr j4 (⟨.cQ kk x y z,none,none,u⟩::ops) T H n rl n5 Q:=fun hn=>by
 subst hH;have e1:∀ k,0<=k->x9 (J4 A k l b) j4 none rl.reverse.length ⟨.cQ kk x y z,none,none,u⟩ ⟨T,H,rl.reverse++ .any::c9 ops.length .any,n5⟩=some (⟨T,H.set id (.map es'),rl.reverse++ .any::c9 ops.length .any,.obj id::n5⟩,[]):=fun k _=>by
  have hl' :(J4 A k l b).lim.may id=true:=hl;simp only [x9,u0,C5,s9.D5,if_true,E2,Y0 hn,hx,hy,hz,R6,ho,hbv,hl',and_self,hk,hr,put,F7,s4,F8]
 cases dr with
 |false=>exact Rx.stepT (N1:=0) (rs:=[]) rfl e1 (h2.to hn)
 |true =>
  refine Rx.Ed (N1:=0) (rs:=[]) rfl rfl rfl e1 (fun h=> ?_) (h2.to hn);have:=m6 (hd rfl);simp [hn] at h;omega
end S
end
def dmap (ds:List (List UInt8)):List (Data×b6):=ds.map fun s=>(.str s,.d (.bool true))
def R1:List (List UInt8)->Nat->List (Data×b6)
 |[],_=>[]
 |s::l,i=>(.str s,.d (.int .i64 (i:Int)))::R1 l (i+1)
theorem rE (s:List UInt8):∀ ds,aK .s (.str s) (dmap ds)=some (if ds.any fun y=>I9 y s then some (.d (.bool true)) else none)
 |[]=>by simp [dmap,aK]
 |d::ds=>by
  have h1:=rE s ds;simp only [dmap,G7,aK,Data.X7,List.any_cons];have h2:(s==d)=I9 d s:=by
   rw [A3,Bool.eq_iff_iff];simp only [beq_iff_eq];exact eq_comm
  rw [h2]
  by_cases hb:I9 d s=true
  ·simp [hb]
  ·have hb' :I9 d s=false:=by simpa using hb
   simp only [hb',Bool.false_or];simpa [dmap] using h1
theorem uZ (s:List UInt8):∀ ds,(ds.any fun y=>I9 y s)=false->bM .s (.str s) (.d (.bool true)) (dmap ds)=some (dmap (ds++[s]))
 |[],_=>by simp [dmap,bM]
 |d::ds,h=>by
  simp only [List.any_cons,Bool.or_eq_false_iff] at h;have h1:=uZ s ds h.2;have h2:(s==d)=false:=by
   have:=SL h.1;simp;exact fun h=>this h.symm
  simp only [dmap,G7,bM,Data.X7,h2,List.cons_append] at h1 ⊢;rw [h1]
theorem vN (s:List UInt8):∀ (l:List (List UInt8)) (i:Nat),(l.any fun y=>I9 y s)=false->bM .s (.str s) (.d (.int .i64 ((i+l.length:Nat):Int))) (R1 l i)=some (R1 (l++[s]) i)
 |[],i,_=>by simp [R1,bM]
 |d::l,i,h=>by
  simp only [List.any_cons,Bool.or_eq_false_iff] at h;have h1:=vN s l (i+1) h.2;have h2:(s==d)=false:=by
   have:=SL h.1;simp;exact fun h=>this h.symm
  have h3:i+1+l.length=i+(d::l).length:=by simp;omega
  rw [h3] at h1;simp only [R1,bM,Data.X7,h2,List.cons_append,h1]
theorem cS:∀ (l:List (List UInt8)) (i:Nat),y9 ((R1 l i).map (·.2))=0
 |[],_=>rfl
 |_::l,i=>by simp [R1,y9,b6.M3,cS l (i+1)]
theorem cK:∀ l:List (List UInt8),y9 ((dmap l).map (·.2))=0
 |[]=>rfl
 |_::l=>by
  have:=cK l;simp only [dmap,G7,y9,b6.M3,Nat.zero_max] at this ⊢;exact this
section
variable {A:Prog} {l:F9} {b:Nat}
variable {dr:Bool} {j4 ops:List n8} {T:List b6} {H:o6} {n:Nat} {rl:List b6} {n5:List Touch} {Q:List b6->o6->List b6->Prop}
theorem yF (id off:Nat)(n5:List Touch)(rs:List Nat):J9 ((Touch.cell id off::n5).take ((Touch.cell id off::n5).length - n5.length)) rs=false:=by
 have:(n5.length+1) - n5.length=1:=by omega
 simp [J9,this,Touch.J1]
theorem Ry.WS {j k sz bytes id off:Nat}{y:r8}{u u' :List Nat}{d' :Option Nat}{g' :Option (Nat×Bool)}{n' len m:Nat}{cs' cells new:List Data}{old:List b6}
  (hj:lk n rl j=some (.d (.slice n' cs'))) (ha:j4[j]? =some ⟨.load none (.loc k),d',g',u'⟩) (hk:lk n rl k=some (.ptr id off)) (ht:n5.any (Touch.aj id off)=false) (hl:l.may id=true) (ho:H[id]? =some (.cells old)) (hc:old[off]? =some (.own sz len cells))
  (hy:rq T n rl y= .d (.slice m new)) (hn' :new.length=m * sz) (hr:roomFor (len+m) bytes=true) (h0:0<sz)
  (h2:Ry A l b dr j4 ops T (H.set id (.cells (old.set off (.d (.slice len cells))))) (n+1) (.own sz (len+m) (cells++new)::rl) (.cell id off::n5) Q):Ry A l b dr j4 (⟨.append sz bytes false (.loc j) y,none,none,u⟩::ops) T H n rl n5 Q:=fun hn=>by
 have hjl:rl.reverse[j]? =some (.d (.slice n' cs')):=by rw [eX hn];exact hj
 have Z1:rl.reverse[k]? =some (.ptr id off):=by rw [eX hn];exact hk
 have hL:∀ r:List b6,(rl.reverse++ .any::r)[j]? =some (.d (.slice n' cs')):=fun r=>oy hjl _
 have hK:∀ r:List b6,(rl.reverse++ .any::r)[k]? =some (.ptr id off):=fun r=>oy Z1 _
 have vz:u7.F0 T (rl.reverse++ .any::c9 ops.length .any) (.loc j)= .d (.slice n' cs'):=by simp [u7.F0,hL,b6.F2]
 refine Rx.step (N1:=0) (rs:=[]) (by simp only [D8,vz]) rfl (fun q _=> ?_) (yF id off n5) (h2.to hn);have hl' :(J4 A q l b).lim.may id=true:=hl;have hs:I8 H sz (.d (.slice m new))=some (m,new.map .d):=by simp only [I8,hn',if_true]
 simp only [x9,u0,C5,s9.D5,if_true,E2,vz,J5,Y0 hn,hy,hs,fH,b7,if_false,O4,hL,ha,U2,Y6,hK,ht,hl',Bool.not_true,Bool.or_self,ho,hc,hr,h0,and_self,put,F7,s4,F8]
namespace S
theorem o2 {x:r8}{u:List Nat}{z1 z2:b6}{c d:Data}(h2:Ry A l b dr j4 ops T H (n+1) (.own 2 1 [c,d]::rl) n5 Q)(hx:rq T n rl x= .agg [.d c,.d d]:=by rfl):Ry A l b dr j4 (⟨.y6 2 1 [z1,z2] [(0,2,x)] false,none,none,u⟩::ops) T H n rl n5 Q :=
 Ry.pure (rs:=[]) rfl (by simp [k9,bg,hx,b6.cells?,splice,L7,b6.data?,b6.one]) h2
theorem ac2 {α:Type}{enc:α->List Data}{xs:List α}{a:α}{j k bytes id off:Nat}{y:r8}{u u' :List Nat}{d' :Option Nat}{g' :Option (Nat×Bool)}{n' :Nat}{cs' :List Data}{c d:Data}{old new:List b6}{H2:o6}
  (hr:roomFor (xs.length+1) bytes=true) (he:enc a=[c,d]) (hj:lk n rl j=some (.d (.slice n' cs')):=by rfl) (ha:j4[j]? =some ⟨.load none (.loc k),d',g',u'⟩:=by rfl) (hk:lk n rl k=some (.ptr id off):=by rfl) (ht:n5.any (Touch.aj id off)=false:=by rfl) (hl:l.may id=true:=by rfl) (ho:H[id]? =some (.cells old):=by rfl) (hc:old[off]? =some (A5 2 enc xs):=by rfl)
  (hy:rq T n rl y= .d (.slice 1 [c,d]):=by rfl) (hN:old.set off (.d (y7 enc xs))=new:=by rfl) (hH:H.set id (.cells new)=H2:=by simp only [List.set_cons_zero,List.set_cons_succ]<;>rfl)
  (h2:Ry A l b dr j4 ops T H2 (n+1) (A5 2 enc (xs++[a])::rl) (.cell id off::n5) Q):Ry A l b dr j4 (⟨.append 2 bytes false (.loc j) y,none,none,u⟩::ops) T H n rl n5 Q :=
 Ry.WS hj ha hk ht hl ho hc hy rfl hr (by decide) (by
  have e1:A5 2 enc (xs++[a])= .own 2 (xs.length+1) (xs.flatMap enc++[c,d]):=by simp [A5,he]
  rw [e1] at h2;subst hH hN;exact h2)
theorem ZU {α:Type}{enc:α->List Data}{xs:List α}{a:α}{j k bytes id off:Nat}{y:r8}{u u' :List Nat}{d' :Option Nat}{g' :Option (Nat×Bool)}{n' :Nat}{cs' :List Data}{c:Data}{old new:List b6}{H2:o6}
  (hr:roomFor (xs.length+1) bytes=true) (he:enc a=[c]) (hj:lk n rl j=some (.d (.slice n' cs')):=by rfl) (ha:j4[j]? =some ⟨.load none (.loc k),d',g',u'⟩:=by rfl) (hk:lk n rl k=some (.ptr id off):=by rfl) (ht:n5.any (Touch.aj id off)=false:=by rfl) (hl:l.may id=true:=by rfl) (ho:H[id]? =some (.cells old):=by rfl) (hc:old[off]? =some (A5 1 enc xs):=by rfl)
  (hy:rq T n rl y= .d (.slice 1 [c]):=by rfl) (hN:old.set off (.d (y7 enc xs))=new:=by rfl) (hH:H.set id (.cells new)=H2:=by simp only [List.set_cons_zero,List.set_cons_succ]<;>rfl)
  (h2:Ry A l b dr j4 ops T H2 (n+1) (A5 1 enc (xs++[a])::rl) (.cell id off::n5) Q):Ry A l b dr j4 (⟨.append 1 bytes false (.loc j) y,none,none,u⟩::ops) T H n rl n5 Q :=
 Ry.WS hj ha hk ht hl ho hc hy rfl hr (by decide) (by
  have e1:A5 1 enc (xs++[a])= .own 1 (xs.length+1) (xs.flatMap enc++[c]):=by simp [A5,he]
  rw [e1] at h2;subst hH hN;exact h2)
theorem Zq {id off j z n0:Nat}{y:r8}{u:List Nat}{cs:List Data}{old new:List b6}{H2:o6}{r2:List b6}(hy:rq T n rl y= .ptr id off:=by rfl)(hj:lk n rl j=some (.own z n0 cs):=by rfl)(hjb:J7 (j+1) n=true:=by rfl)(hl:l.may id=true:=by rfl)
  (ho:H[id]? =some (.cells old):=by rfl) (hq:J7 (off+1) old.length=true:=by rfl) (hd:dr=true->J7 (rj j4) n=true:=by intro;rfl) (hN:old.set off (.own z n0 cs)=new:=by rfl) (hH:H.set id (.cells new)=H2:=by simp only [List.set_cons_zero,List.set_cons_succ]<;>rfl)
  (hS:rl.set (n - (j+1)) (.d (.slice n0 cs))=r2:=by simp only [Nat.reduceAdd,Nat.reduceSub,List.set_cons_zero,List.set_cons_succ]<;>rfl)
  (h2:Ry A l b dr j4 ops T H2 (n+1) (.any::r2) (.obj id::n5) Q):Ry A l b dr j4 (⟨.store 1 y (.loc j),none,none,u⟩::ops) T H n rl n5 Q:=fun hn=>by
 subst hH hN hS;have XL :off<old.length:=m6 hq;have hjl:rl.reverse[j]? =some (.own z n0 cs):=by rw [eX hn];exact hj
 have hL:∀ r:List b6,(rl.reverse++ .any::r)[j]? =some (.own z n0 cs):=fun r=>oy hjl _
 have hjn:j<rl.reverse.length:=by simp only [List.length_reverse,hn];exact m6 hjb
 have h3:∀ (a:b6) (r:List b6),(rl.reverse++a::r).set j (.d (.slice n0 cs))=rl.reverse.set j (.d (.slice n0 cs))++a::r:=fun a r=>List.set_append_left _ _ hjn
 have hlen:(rl.reverse.set j (.d (.slice n0 cs))).length=rl.reverse.length:=by simp
 have h4:∀ (a v:b6) (r:List b6),(rl.reverse.set j (.d (.slice n0 cs))++a::r).set rl.reverse.length v=rl.reverse.set j (.d (.slice n0 cs))++v::r:=fun a v r=>by rw [<- hlen];exact F7 _ _ _ _
 have h1:splice old off [.own z n0 cs]=old.set off (.own z n0 cs):=by
  simp only [splice,List.length_singleton];rw [List.set_eq_take_append_cons_drop,if_pos XL];simp
 have hw:wr H id off [.own z n0 cs]=some (H.set id (.cells (old.set off (.own z n0 cs)))):=by
  simp only [wr,ho,List.length_singleton,h1];rw [if_pos (by omega)]
 have Qa :=h2.to (by simp [hn]);rw [<- Bu hn hjb] at Qa;have e1:∀ k,0<=k->x9 (J4 A k l b) j4 none rl.reverse.length ⟨.store 1 y (.loc j),none,none,u⟩ ⟨T,H,rl.reverse++ .any::c9 ops.length .any,n5⟩=some (⟨T,H.set id (.cells (old.set off (.own z n0 cs))),rl.reverse.set j (.d (.slice n0 cs))++ .any::c9 ops.length .any,.obj id::n5⟩,[]):=fun k _=>by
  have hl' :(J4 A k l b).lim.may id=true:=hl;have hx:u7.C6 ⟨T,H,rl.reverse++ .any::c9 ops.length .any,n5⟩ (.loc j)=(.own z n0 cs,⟨T,H,rl.reverse.set j (.d (.slice n0 cs))++ .any::c9 ops.length .any,n5⟩):=by
   simp only [u7.C6,hL,h3]
  have hb0:y9 [b6.own z n0 cs]<=id+1:=Nat.zero_le _;have hc1:(b6.own z n0 cs).cells? =some [.own z n0 cs]:=rfl;simp only [x9,u0,C5,s9.D5,if_true,E2,Y0 hn,hy,O8,hx,hc1,List.length_singleton,hl',hb0,true_or,and_self,hw,put,h4,s4,F8]
 cases dr with
 |false=>exact Rx.stepT (N1:=0) (rs:=[]) hlen e1 Qa
 |true =>
  refine Rx.Ed (N1:=0) (rs:=[]) hlen rfl rfl e1 (fun h=> ?_) Qa;have:=m6 (hd rfl);simp [hn] at h;omega
end S
end
section
variable {A:Prog} {l:F9} {b:Nat}
variable {dr:Bool} {j4 ops:List n8} {T:List b6} {H:o6} {n:Nat} {rl:List b6} {n5:List Touch} {Q:List b6->o6->List b6->Prop}
namespace S
theorem WY {f:FuncId}{x:r8}{xs:List r8}{u:List Nat}{v:b6}{first caps args:List b6}{m:Nat}{H0 H1:o6}{l2:F9}(hc:Pm A f args H0 l2 v H1)(Qb:H1.length=m)(h2:Ry A l b dr j4 ops T H (n+1) (v::rl) n5 Q)(AY:W8 ((H.take m).drop l.strict)<=m:=by exact Nat.zero_le _)(hcl:G5 H l.strict 8 (y9 args)=m:=by rfl)
  (Mq:H.take m=H0:=by rfl) (hle:J7 m H.length=true:=by rfl) (kU:(⟨0,m,m,B5 H l.strict m⟩:F9)=l2:=by rfl) (hx:rq T n rl x= .func f first caps:=by rfl)
  (ha:first++xs.map (rq T n rl)++caps=args:=by rfl) (dc:A.prom f=false:=by rfl) (hm:A.mode f=1:=by rfl):Ry A l b dr j4 (⟨.Z3 x xs,none,none,u⟩::ops) T H n rl n5 Q:=fun hn=>by
 obtain ⟨M,hc⟩:=hc;subst Mq;refine Rx.step (N1:=M) (rs:=[]) rfl rfl (fun k hk=> ?_) (fun rs=>by simp [J9]) (h2.to hn);have h3:A6 (J4 A k l b) rl.reverse.length f args ⟨T,H,rl.reverse++ .any::c9 ops.length .any,n5⟩=some (put ⟨T,H,rl.reverse++ .any::c9 ops.length .any,n5⟩ rl.reverse.length v) :=
  oT dc hm hcl (m6 hle) AY kU (hc k hk) Qb
 simp only [x9,u0,C5,s9.D5,if_true,E2,Y0 hn,hx,lN hn,ha,h3,s4,F8,put,F7]
theorem cv0 {f:FuncId}{x:r8}{xs:List r8}{u:List Nat}{v:b6}{first caps args:List b6}{m:Nat}{H0 HD H1 H2:o6}{l2:F9}(hc:Pm A f args H0 l2 v H1)(Qb:H1.length=m)(AY:W8 ((H.take m).drop l.strict)<=m:=by exact Nat.zero_le _)(hcl:G5 H l.strict 8 (y9 args)=m:=by rfl)
  (Mq:H.take m=H0:=by rfl) (hle:J7 m H.length=true:=by rfl) (kU:(⟨l.RS,l.RR,m,B5 H l.strict m⟩:F9)=l2:=by rfl) (hx:rq T n rl x= .func f first caps:=by rfl)
  (ha:first++xs.map (rq T n rl)++caps=args:=by rfl) (dc:A.prom f=false:=by rfl) (hm:A.mode f=0:=by rfl) (hD:H.drop m=HD:=by rfl) (hA:H1++HD=H2:=by first|(simp only [List.cons_append,List.nil_append]<;>rfl)|rfl)
  (h2:Ry A l b false j4 ops T H2 (n+1) (v::rl) (.below m::n5) Q):Ry A l b false j4 (⟨.Z3 x xs,none,none,u⟩::ops) T H n rl n5 Q:=fun hn=>by
 obtain ⟨M,hc⟩:=hc;subst Mq hD hA;refine Rx.stepT (N1:=M) (rs:=[]) rfl (fun k hk=> ?_) (h2.to hn);have h3:A6 (J4 A k l b) rl.reverse.length f args ⟨T,H,rl.reverse++ .any::c9 ops.length .any,n5⟩=some (put ⟨T,H1++H.drop m,rl.reverse++ .any::c9 ops.length .any,.below m::n5⟩ rl.reverse.length v) :=
  uP dc hm hcl (m6 hle) AY kU (hc k hk) Qb
 simp only [x9,u0,C5,s9.D5,if_true,E2,Y0 hn,hx,lN hn,ha,h3,s4,F8,put,F7]
end S
end
section
variable {A:Prog} {l:F9} {b:Nat}
def LC (j4:List n8)(na k:Nat)(e:iL):Prop :=
 na ∉ e.reads/\(k<rj j4->∀ rs,na ∉ rs->J9 e.CV rs=false)/\e.Bz<=na/\(∀ i,j4[k]? =some i->i.op.y3=true->e.id=na)/\(∀ i,j4[k]? =some i->i.op.QN=false->e.reads=[])
def Rz (A:Prog)(l:F9)(b:Nat)(j4 ops:List n8)(T:List b6)(H:o6)(n:Nat)(rl:List b6)(n5:List Touch)(na:Nat)(Q:List b6->o6->List b6->Prop):Prop :=
 rl.length=n->∃ r N,Q r.T r.H r.L/\∀ k,N<=k->∃ lg:List iL,O3 (J4 A k l b) j4 ops n na ⟨T,H,rl.reverse++c9 ops.length .any,n5⟩=some (r,lg)/\lg.length=ops.length/\∀ j e,lg[j]? =some e->LC j4 na (n+j) e
variable {j4 ops:List n8} {T:List b6} {H:o6} {n:Nat} {rl:List b6} {n5:List Touch} {na:Nat} {Q:List b6->o6->List b6->Prop}
theorem Rn.as3 {T:List b6}{H:o6}{s:Nat}(sO:X5 ops=[.dead])(vB:slotsOf ops=[.slot s])(hu:∀ i,i ∈ ops->∀ e,e ∈ i.cz->e<ops.length)(h:Rz A l b ops ops T (H++[.dead]) 0 [] [.slot s] H.length Q):Rn A l b ops true T H Q:=by
 obtain ⟨r,N,hq,h⟩:=h rfl;refine ⟨r,N,hq,fun n hn=> ?_⟩;obtain ⟨lg,e1,e2,e3⟩:=h n hn;simp only [List.reverse_nil,List.nil_append,Nat.zero_add] at e1 e3;have TL:sY ops lg=true:=by
  simp only [sY,List.all_eq_true];rintro ⟨i,le⟩ yh e he;obtain ⟨j,hj,hji⟩:=List.getElem_of_mem yh;simp only [List.length_zip] at hj;have Ql:j<ops.length:=by omega
  have hj2:j<lg.length:=by omega
  simp only [List.getElem_zip,Prod.mk.injEq] at hji;obtain ⟨rfl,rfl⟩:=hji;have hi:ops[j] ∈ ops:=List.getElem_mem Ql;have hlt:=hu _ hi e he;have he2:e<lg.length:=by omega
  rw [o7 he2];have c1:=e3 j _ (o7 hj2);have c2:=e3 e _ (o7 he2);cases hr:ops[j].op.QN with
  |true =>
   have hb:=uL hi hr he;have h5:=c2.2.1 hb _ c1.1;have ha:ops[j].op.y3=false:=by
    cases ho:ops[j].op<;>rw [ho] at hr<;>first|rfl|(cases hr)
   simp [h5,ha]
  |false =>
   have h5:=c1.2.2.2.2 _ (o7 Ql) hr;cases ha:ops[j].op.y3 with
   |false=>simp [h5,J9]
   |true =>
    have h7:=c1.2.2.2.1 _ (o7 Ql) ha;have h6:=c2.2.2.1;simp [h5,J9];omega
 simp only [O0,if_true,sO,vB,e1,TL]
theorem Rz.nil (h:Q T H rl.reverse):Rz A l b j4 [] T H n rl n5 na Q:=fun _=>⟨⟨T,H,rl.reverse,n5⟩,0,h,fun _ _=>⟨[],by simp [O3],rfl,fun j e h=>by simp at h⟩⟩
theorem Rz.step {i:n8}{T' :List b6}{H' :o6}{v:b6}{cV :List Touch}{rs:List Nat}{N1:Nat}(hk:∀ L,D8 ⟨T,H,L,n5⟩ i.op=false)(hi:j4[n]? =some i)
  (h:rl.length=n->∀ k,N1<=k->x9 (J4 A k l b) j4 (if i.op.y3 then some na else none) n i ⟨T,H,rl.reverse++ .any::c9 ops.length .any,n5⟩=some (⟨T',H',rl.reverse++v::c9 ops.length .any,cV⟩,rs))
  (hr:na ∉ rs) (ht:n<rj j4->∀ rs,na ∉ rs->J9 (jS (if i.op.y3 then some na else none)++cV.take (cV.length - n5.length)) rs=false) (HT:∀ k,K4 (J4 A k l b) ⟨T,H,rl.reverse++ .any::c9 ops.length .any,n5⟩ i.op<=na)
  (hn2:i.op.y3=true->∀ j,j ∈ ops->j.op.y3=false) (h2:∀ Yb,(i.op.y3=false->Yb =na)->Rz A l b j4 ops T' H' (n+1) (v::rl) cV na Q/\(i.op.y3=true->∀ k r lg,O3 (J4 A k l b) j4 ops (n+1) na ⟨T',H',(v::rl).reverse++c9 ops.length .any,cV⟩=some (r,lg)->O3 (J4 A k l b) j4 ops (n+1) (na+1) ⟨T',H',(v::rl).reverse++c9 ops.length .any,cV⟩=some (r,lg))) :
  Rz A l b j4 (i::ops) T H n rl n5 na Q:=fun hn=>by
 obtain ⟨h2,h2a⟩:=h2 na (fun _=>rfl);obtain ⟨r,N,hq,h2⟩:=h2 (by simp [hn]);refine ⟨r,max N N1,hq,fun k hkk=> ?_⟩;obtain ⟨lg,e1,e2,e3⟩:=h2 k (by omega);have h4:=h hn k (by omega);have Tw :O3 (J4 A k l b) j4 ops (n+1) (if i.op.y3 then na+1 else na) ⟨T',H',rl.reverse++v::c9 ops.length .any,cV⟩=some (r,lg):=by
  cases ha:i.op.y3 with
  |false=>simpa using e1
  |true=>simpa using h2a ha k r lg e1
 refine ⟨cr (J4 A k l b) i (if i.op.y3 then some na else none) ⟨T,H,rl.reverse++ .any::c9 ops.length .any,n5⟩ ⟨T',H',rl.reverse++v::c9 ops.length .any,cV⟩ rs::lg,?_,by simp [e2],?_⟩
 ·simp only [O3,List.length_cons,List.replicate_succ,gS,hk,Bool.false_and,b7,if_false,h4,Tw]
 ·intro j e he
  cases j with
  |zero =>
   simp only [List.getElem?_cons_zero,Option.some.injEq] at he;subst he;refine ⟨hr,fun hb=>ht (by omega),HT k,fun i' hi' ha=> ?_,fun i' hi' hr' => ?_⟩
   ·rw [Nat.add_zero,hi] at hi'
    cases hi';simp [cr,ha]
   ·rw [Nat.add_zero,hi] at hi'
    cases hi';exact wU h4 hr'
  |succ j =>
   simp only [List.getElem?_cons_succ] at he;have:=e3 j e he
   rwa [H9,Nat.add_comm 1 j] at this
theorem wA {E:Env}:∀ (ops:List n8) (k na Yb :Nat) (st:E1),(∀ j,j ∈ ops->j.op.y3=false)->O3 E j4 ops k na st=O3 E j4 ops k Yb st
 |[],_,_,_,_,_=>rfl
 |i::ops,k,na,Yb,st,h=>by
  have hi:=h i (List.mem_cons_self);simp only [O3,hi,b7,if_false];cases gS E j4 none k i st with
  |none=>rfl
  |some x=>simp only [wA ops (k+1) na Yb x.1 (fun j hj=>h j (List.mem_cons_of_mem _ hj))]
end
section
variable {A:Prog} {l:F9} {b:Nat}
variable {j4 ops:List n8} {T:List b6} {H:o6} {n:Nat} {rl:List b6} {n5:List Touch} {na:Nat} {Q:List b6->o6->List b6->Prop}
theorem Rz.simple {i:n8}{v:b6}{rs:List Nat}{N1:Nat}(ha:i.op.y3=false)(hk:∀ L,D8 ⟨T,H,L,n5⟩ i.op=false)(hi:j4[n]? =some i)
  (h:rl.length=n->∀ k,N1<=k->x9 (J4 A k l b) j4 none n i ⟨T,H,rl.reverse++ .any::c9 ops.length .any,n5⟩=some (⟨T,H,rl.reverse++v::c9 ops.length .any,n5⟩,rs))
  (hr:na ∉ rs) (hs:∀ k,K4 (J4 A k l b) ⟨T,H,rl.reverse++ .any::c9 ops.length .any,n5⟩ i.op<=na) (h2:Rz A l b j4 ops T H (n+1) (v::rl) n5 na Q):Rz A l b j4 (i::ops) T H n rl n5 na Q :=
 Rz.step (N1:=N1) hk hi (fun hn k hk=>by rw [ha];exact h hn k hk) hr (fun _ rs _=>by rw [ha];simp [jS,J9]) hs (fun h=>by rw [ha] at h;cases h) (fun _ _=>⟨h2,fun h=>by rw [ha] at h;cases h⟩)
namespace S
theorem zn (h:Q T H rl.reverse):Rz A l b j4 [] T H n rl n5 na Q:=Rz.nil h
theorem zp {op:s9}{u:List Nat}{rs:List Nat}(v:b6)(hp:k9 (rq T n rl) H op=some (v,rs))(h2:Rz A l b j4 ops T H (n+1) (v::rl) n5 na Q)(hr:na ∉ rs:=by simp)(hE:op.D5=false:=by rfl)(ha:op.y3=false:=by rfl)(hk:∀ L,D8 ⟨T,H,L,n5⟩ op=false:=by intro;rfl)(hi:j4[n]? =some ⟨op,none,none,u⟩:=by rfl)
  (hs:∀ k,K4 (J4 A k l b) ⟨T,H,rl.reverse++ .any::c9 ops.length .any,n5⟩ op<=na:=by intro;exact Nat.zero_le _):Rz A l b j4 (⟨op,none,none,u⟩::ops) T H n rl n5 na Q:=by
 refine Rz.simple (N1:=0) (rs:=rs) ha hk hi (fun hn k _=> ?_) hr hs h2;have XH:∀ x,op≠ .M9 x:=by
  rintro x rfl;simp [k9] at hp
 have h4:k9 (u7.F0 T (rl.reverse++ .any::c9 ops.length .any)) H op=some (v,rs):=by
  rw [show u7.F0 T (rl.reverse++ .any::c9 ops.length .any)=rq T n rl from funext fun x=>Y0 hn _ x];exact hp
 have Pz:∀ (a:b6) (r:List b6),(rl.reverse++a::r).set n v=rl.reverse++v::r:=fun a r=>by rw [<- hn,<- List.length_reverse];exact F7 _ _ _ _
 have h3:C5 (J4 A k l b) j4 none n op ⟨T,H,rl.reverse++ .any::c9 ops.length .any,n5⟩=some (⟨T,H,rl.reverse++v::c9 ops.length .any,n5⟩,rs):=by
  cases op<;>first
   |exact absurd rfl (XH _)
   |(simp only [C5,hE,b7,if_false,h4,put,Pz];done)
   |(simp [s9.D5] at hE;done)
 simp only [x9,u0,h3,s4,F8]
theorem zm {x:r8}{u:List Nat}{v:b6}(h2:Rz A l b j4 ops T H (n+1) (v::rl) n5 na Q)(hx:Oq T n rl x v:=by exact ⟨rfl,rfl⟩)(hi:j4[n]? =some ⟨.M9 x,none,none,u⟩:=by rfl):Rz A l b j4 (⟨.M9 x,none,none,u⟩::ops) T H n rl n5 na Q:=by
 refine Rz.simple (N1:=0) (rs:=[]) rfl (fun _=>rfl) hi (fun hn k _=> ?_) (by simp) (fun k=>Nat.zero_le _) h2;have Pz:∀ (a:b6) (r:List b6),(rl.reverse++a::r).set n v=rl.reverse++v::r:=fun a r=>by rw [<- hn,<- List.length_reverse];exact F7 _ _ _ _
 simp only [x9,u0,C5,s9.D5,b7,if_false,(hx.op hn).C6,put,Pz,s4,F8]
theorem zc {f:FuncId}{xs:List r8}{u:List Nat}{v:b6}{args:List b6}{m:Nat}{H0 H1:o6}{l2:F9}(hc:Pm A f args H0 l2 v H1)(Qb:H1.length=m)(h2:Rz A l b j4 ops T H (n+1) (v::rl) n5 na Q)(hmn:m<=na:=by decide)(AY:W8 ((H.take m).drop l.strict)<=m:=by exact Nat.zero_le _)(hcl:G5 H l.strict 8 (y9 args)=m:=by rfl)
  (Mq:H.take m=H0:=by rfl) (hle:J7 m H.length=true:=by rfl) (kU:(⟨0,m,m,B5 H l.strict m⟩:F9)=l2:=by rfl)
  (ha:xs.map (rq T n rl)=args:=by rfl) (dc:A.prom f=false:=by rfl) (hm:A.mode f=1:=by rfl) (hi:j4[n]? =some ⟨.call f xs,none,none,u⟩:=by rfl) (hn0:rl.length=n:=by rfl):Rz A l b j4 (⟨.call f xs,none,none,u⟩::ops) T H n rl n5 na Q:=by
 obtain ⟨M,hc⟩:=hc;subst Mq;have Gs :∀ k,(J4 A k l b).prom f=false:=fun _=>dc
 refine Rz.simple (N1:=M) (rs:=[]) rfl (fun _=>rfl) hi (fun hn k hk=> ?_) (by simp) (fun k=> ?_) h2
 ·have Pz:∀ (a:b6) (r:List b6),(rl.reverse++a::r).set n v=rl.reverse++v::r:=fun a r=>by rw [<- hn,<- List.length_reverse];exact F7 _ _ _ _
  have h3:A6 (J4 A k l b) n f args ⟨T,H,rl.reverse++ .any::c9 ops.length .any,n5⟩=some (put ⟨T,H,rl.reverse++ .any::c9 ops.length .any,n5⟩ n v) :=
   oT dc hm hcl (m6 hle) AY kU (hc k hk) Qb
  simp only [x9,u0,C5,s9.D5,if_true,E2,lN hn,ha,h3,s4,F8,put,Pz]
 ·have al7 :G5 H (J4 A k l b).lim.strict 8 (y9 args)=m:=hcl
  simp only [K4,Gs,b7,if_false,lN hn0,ha,al7];exact hmn
theorem za {zero:List b6}{u:List Nat}{s:Nat}{T2:List b6}{H2:o6}(hs:T[s]?.isSome=true:=by rfl)(htc:n5.any (Touch.Q1 s)=true:=by rfl)(hT:T.set s (.ptr na 0)=T2:=by simp only [List.set_cons_zero,List.set_cons_succ]<;>rfl)(hH:H.set na (.cells zero)=H2:=by simp only [List.set_cons_zero,List.set_cons_succ]<;>rfl)
  (hi:j4[n]? =some ⟨.alloc zero,some s,none,u⟩:=by rfl) (hno:ops.all (fun j=> !j.op.y3)=true:=by rfl) (h2:Rz A l b j4 ops T2 H2 (n+1) (.ptr na 0::rl) n5 na Q):Rz A l b j4 (⟨.alloc zero,some s,none,u⟩::ops) T H n rl n5 na Q:=by
 subst hT hH;have hs:s<T.length:=by
  rcases p7 s T.length with h|h
  ·exact h
  ·rw [q6 h] at hs;cases hs
 have XJ :∀ j,j ∈ ops->j.op.y3=false:=fun j hj=>by simpa using List.all_eq_true.1 hno j hj
 refine Rz.step (N1:=0) (rs:=[]) (fun _=>rfl) hi (fun hn k _=> ?_) (by simp) (fun _ rs hrs=> ?_) (fun k=>Nat.zero_le _) (fun _=>XJ) (fun _ _=>⟨h2,fun _ k r lg h=>by rw [wA ops _ (na+1) na _ XJ];exact h⟩)
 ·have Pz:∀ (a v:b6) (r:List b6),(rl.reverse++a::r).set n v=rl.reverse++v::r:=fun a v r=>by rw [<- hn,<- List.length_reverse];exact F7 _ _ _ _
  have h3:∀ r:List b6,(rl.reverse++ .ptr na 0::r)[n]? =some (.ptr na 0):=fun r=>by rw [<- hn,<- List.length_reverse];simp
  simp only [s9.y3,if_true,x9,u0,C5,s9.D5,E2,I4,newId,Option.getD_some,put,Pz,s4,W3,hs,htc,u7.C6,h3,decide_true,Bool.and_self];simp [u7.F0,b6.F2,h3]
 ·simp only [s9.y3,if_true,jS,Nat.sub_self,List.take_zero,List.append_nil,J9,List.any_cons,List.any_nil,Bool.or_false]
  simp only [Touch.J1];rw [List.any_eq_false];intro x hx;simp;rintro rfl;exact hrs hx
theorem zs {m:Nat}{x y:r8}{u:List Nat}{v:b6}{cs old:List b6}{H2:o6}(hd:J7 (rj j4) n=true:=by rfl)(hy:rq T n rl y= .ptr na 0:=by rfl)(hx:Oq T n rl x v:=by exact ⟨rfl,rfl⟩)(hc:v.cells? =some cs:=by rfl)(hm:cs.length=m:=by rfl)(hl:l.may na=true:=by rfl)(hb:y9 cs=0:=by rfl)
  (ho:H[na]? =some (.cells old):=by rfl) (hq:old.length=m:=by rfl) (hH:H.set na (.cells cs)=H2:=by simp only [List.set_cons_zero,List.set_cons_succ]<;>rfl) (hi:j4[n]? =some ⟨.store m y x,none,none,u⟩:=by rfl)
  (h2:Rz A l b j4 ops T H2 (n+1) (.any::rl) (.obj na::n5) na Q):Rz A l b j4 (⟨.store m y x,none,none,u⟩::ops) T H n rl n5 na Q:=by
 have hw:wr H na 0 cs=some H2:=by
  simp [wr,ho,hm,hq,splice,<- hH];rw [m7 (by omega)];simp
 refine Rz.step (N1:=0) (rs:=[]) (fun _=>rfl) hi (fun hn k _=> ?_) (by simp) (fun h=> ?_) (fun k=>Nat.zero_le _) (fun h=>by cases h) (fun _ _=>⟨h2,fun h=>by cases h⟩)
 ·have hl' :(J4 A k l b).lim.may na=true:=hl
  have hb' :y9 cs<=na+1:=by omega
  have Pz:∀ (a v:b6) (r:List b6),(rl.reverse++a::r).set n v=rl.reverse++v::r:=fun a v r=>by rw [<- hn,<- List.length_reverse];exact F7 _ _ _ _
  simp only [s9.y3,b7,if_false,x9,u0,C5,s9.D5,if_true,E2,Y0 hn,hy,O8,(hx.op hn).C6,hc,hm,hl',hb',true_or,and_self,hw,put,Pz,s4,F8]
 ·have:=m6 hd
  omega
end S
end
section
variable {A:Prog} {l:F9} {b:Nat}
variable {dr:Bool} {j4 ops:List n8} {T:List b6} {H:o6} {n:Nat} {rl:List b6} {n5:List Touch} {Q:List b6->o6->List b6->Prop}
namespace S
theorem o12 {x y:r8}{u:List Nat}{z1 z2:b6}{c d:Data}(h2:Ry A l b dr j4 ops T H (n+1) (.own 1 2 [c,d]::rl) n5 Q)(hx:rq T n rl x= .d c:=by rfl)(hy:rq T n rl y= .d d:=by rfl):Ry A l b dr j4 (⟨.y6 1 2 [z1,z2] [(0,1,x),(1,1,y)] false,none,none,u⟩::ops) T H n rl n5 Q :=
 Ry.pure (rs:=[]) rfl (by simp [k9,bg,hx,hy,b6.cells?,splice,L7,b6.data?,b6.one]) h2
theorem lq2 {α β:Type}{e1:α->List Data}{e2:β->List Data}{xs:List α}{ys:List β}{x:r8}{u:List Nat}{id z1 z2:Nat}(h2:Ry A l b dr j4 ops T H (n+1) (.agg [.d (y7 e1 xs),.d (y7 e2 ys)]::rl) n5 Q)(hx:rq T n rl x= .ptr id 0:=by rfl)(ho:H[id]? =some (.cells [A5 z1 e1 xs,A5 z2 e2 ys]):=by rfl) :
  Ry A l b dr j4 (⟨.load (some 2) x,none,none,u⟩::ops) T H n rl n5 Q :=
 Ry.pure (rs:=[id]) rfl (by simp [k9,hx,rd,ho,A5,y7,b6.F2]) h2
end S
end
section
variable {A:Prog} {l:F9} {b:Nat}
variable {j4 ops:List n8} {T:List b6} {H:o6} {n:Nat} {rl:List b6} {n5:List Touch} {na:Nat} {Q:List b6->o6->List b6->Prop}
namespace S
theorem zix {α:Type} [Inhabited α] {enc:α->List Data}{xs:List α}{sz:Nat}{e:Int}{x y:r8}{k:IntKind}{u:List Nat}(h0:0<=e/\e<xs.length)(h2:Rz A l b j4 ops T H (n+1) (.P9 (enc (nth xs e.toNat)++(xs.drop (e.toNat+1)).flatMap enc)::rl) n5 na Q)(hx:rq T n rl x= .d (y7 enc xs):=by rfl)(hy:rq T n rl y= .d (.int k e):=by rfl)(hs:∀ a,(enc a).length=sz:=by intro;rfl)
  (hi:j4[n]? =some ⟨.B7 sz x y,none,none,u⟩:=by rfl):Rz A l b j4 (⟨.B7 sz x y,none,none,u⟩::ops) T H n rl n5 na Q:=by
 refine zp (rs:=[]) _ ?_ h2 (hi:=hi);have hl:e.toNat<xs.length:=by omega
 have h3:=jJ hs xs e.toNat hl;rw [<- N6 hl] at h3;simp only [k9,hx,hy,y7,h0,and_self,if_true,h3]
theorem zle {cs rest:List Data}{x:r8}{m:Nat}{u:List Nat}(h2:Rz A l b j4 ops T H (n+1) (.agg (cs.map .d)::rl) n5 na Q)(hx:rq T n rl x= .P9 (cs++rest):=by rfl)(hm:cs.length=m:=by rfl)(hi:j4[n]? =some ⟨.load (some m) x,none,none,u⟩:=by rfl):Rz A l b j4 (⟨.load (some m) x,none,none,u⟩::ops) T H n rl n5 na Q:=by
 refine zp (rs:=[]) _ ?_ h2 (hi:=hi);subst hm;simp [k9,hx]
theorem soD {dr:Bool}{m id:Nat}{x y:r8}{u:List Nat}{v:b6}{cs old:List b6}{H2:o6}(hd:J7 (rj j4) n=true:=by rfl)(hy:rq T n rl y= .ptr id 0:=by rfl)(hx:Oq T n rl x v:=by exact ⟨rfl,rfl⟩)(hc:v.cells? =some cs:=by rfl)(hm:cs.length=m:=by rfl)(hl:l.may id=true:=by rfl)(hb:y9 cs=0:=by rfl)
  (ho:H[id]? =some (.cells old):=by rfl) (hq:old.length=m:=by rfl) (hH:H.set id (.cells cs)=H2:=by simp only [List.set_cons_zero,List.set_cons_succ]<;>rfl)
  (h2:Ry A l b dr j4 ops T H2 (n+1) (.any::rl) (.obj id::n5) Q):Ry A l b dr j4 (⟨.store m y x,none,none,u⟩::ops) T H n rl n5 Q :=
 Ho hd hy hx hc hm hl (by omega) (by simp [wr,ho,hm,hq,splice,<- hH];rw [m7 (by omega)];simp) h2
end S
end
section
variable {A:Prog} {l:F9} {b:Nat}
variable {dr:Bool} {j4 ops:List n8} {T:List b6} {H:o6} {n:Nat} {rl:List b6} {n5:List Touch} {Q:List b6->o6->List b6->Prop}
namespace S
theorem mk {u:List Nat}{id:Nat}{H2:o6}(hi:H.length=id:=by simp only [List.length_cons,List.length_nil,Nat.reduceAdd]<;>rfl)(hH:H++[.map []]=H2:=by simp only [List.cons_append,List.nil_append]<;>rfl)
  (h2:Ry A l b false j4 ops T H2 (n+1) (.map id::rl) n5 Q):Ry A l b false j4 (⟨.makeMap,none,none,u⟩::ops) T H n rl n5 Q:=fun hn=>by
 subst hi hH;refine Rx.stepT (N1:=0) (rs:=[]) rfl (fun n _=> ?_) (h2.to hn);simp only [x9,u0,C5,s9.D5,if_true,E2,I4,newId,Option.getD_none,put,F7,s4,F8]
theorem Ts {sz len:Nat}{zero:List b6}{parts:List (Nat×Nat×r8)}{u:List Nat}{id:Nat}{H2:o6}(cs:List b6)(hr:bg zero (parts.map fun p=>(p.1,p.2.1,rq T n rl p.2.2))=some cs)(h0:0<sz/\cs.length=len * sz)(hi:H.length=id:=by simp only [List.length_cons,List.length_nil,Nat.reduceAdd]<;>rfl)(hH:H++[.cells cs]=H2:=by simp only [List.cons_append,List.nil_append]<;>rfl)
  (h2:Ry A l b false j4 ops T H2 (n+1) (.D0 id sz 0 len::rl) n5 Q):Ry A l b false j4 (⟨.y6 sz len zero parts true,none,none,u⟩::ops) T H n rl n5 Q:=fun hn=>by
 subst hi hH;refine Rx.stepT (N1:=0) (rs:=[]) rfl (fun k _=> ?_) (h2.to hn);have hr' :bg zero (parts.map fun p=>(p.1,p.2.1,u7.F0 T (rl.reverse++ .any::c9 ops.length .any) p.2.2))=some cs:=by
  rw [show u7.F0 T (rl.reverse++ .any::c9 ops.length .any)=rq T n rl from funext fun x=>Y0 hn _ x];exact hr
 simp only [x9,u0,C5,s9.D5,if_true,E2,hr',h0,and_self,I4,newId,Option.getD_none,put,F7,s4,F8]
theorem lrT {x:r8}{u:List Nat}{id sz lo len s:Nat}{T2:List b6}(hx:rq T n rl x= .D0 id sz lo len:=by rfl)(hs:T[s]?.isSome=true:=by rfl)(hT:T.set s (.d (.int .i64 (len:Int)))=T2:=by simp only [List.set_cons_zero,List.set_cons_succ]<;>rfl)
  (h2:Ry A l b dr j4 ops T2 H (n+1) (.d (.int .i64 (len:Int))::rl) (.slot s::n5) Q):Ry A l b dr j4 (⟨.len x,some s,none,u⟩::ops) T H n rl n5 Q :=
 Ry.wq (v:= .d (.int .i64 (len:Int))) (rs:=[]) rfl (by simp only [k9,hx,i64]) rfl rfl hs (by rw [hT];exact h2)
theorem ixs {x y:r8}{u:List Nat}{id sz lo len i:Nat}{k:IntKind}(hi:i<len)(h2:Ry A l b dr j4 ops T H (n+1) (.ptr id (lo+i * sz)::rl) n5 Q)(hx:rq T n rl x= .D0 id sz lo len:=by rfl)(hy:rq T n rl y= .d (.int k ((i:Nat):Int)):=by rfl):Ry A l b dr j4 (⟨.B7 sz x y,none,none,u⟩::ops) T H n rl n5 Q :=
 Ry.pure (rs:=[]) rfl (by
  have h1:(i:Int)<len:=by omega
  simp [k9,hx,hy,h1]) h2
theorem lqV {x:r8}{u:List Nat}{id o m:Nat}{vs:List b6}(hr:rd H id o m=some vs)(hv:vs.map b6.F2=vs)(h2:Ry A l b dr j4 ops T H (n+1) (.agg vs::rl) n5 Q)(hx:rq T n rl x= .ptr id o:=by rfl):Ry A l b dr j4 (⟨.load (some m) x,none,none,u⟩::ops) T H n rl n5 Q :=
 Ry.pure (rs:=[id]) rfl (by simp only [k9,hx,hr,hv]) h2
theorem soB {m id:Nat}{x y:r8}{u:List Nat}{v:b6}{cs old:List b6}{H2:o6}(hb:y9 cs<=id+1)(hy:rq T n rl y= .ptr id 0:=by rfl)(hx:Oq T n rl x v:=by exact ⟨rfl,rfl⟩)(hc:v.cells? =some cs:=by rfl)(hm:cs.length=m:=by rfl)(hl:l.may id=true:=by rfl)
  (ho:H[id]? =some (.cells old):=by rfl) (hq:old.length=m:=by rfl) (hH:H.set id (.cells cs)=H2:=by simp only [List.set_cons_zero,List.set_cons_succ]<;>rfl)
  (h2:Ry A l b false j4 ops T H2 (n+1) (.any::rl) (.obj id::n5) Q):Ry A l b false j4 (⟨.store m y x,none,none,u⟩::ops) T H n rl n5 Q :=
 su hy hx hc hm hl hb (by simp [wr,ho,hm,hq,splice,<- hH];rw [m7 (by omega)];simp) h2
end S
theorem uX {mask:List Bool}{strict m:Nat}{T:List b6}{H:o6}(h1:y9 (R0 mask T)<=m)(h2:W8 ((H.take m).drop strict)<=m):clean mask strict m ⟨T,H⟩=⟨R0 mask T,H.take m⟩:=by
 simp [clean,h1,h2]
end
section
variable {A:Prog} {l:F9} {b:Nat}
variable {j4 ops:List n8} {T:List b6} {H:o6} {n:Nat} {rl:List b6} {n5:List Touch} {Q:List b6->o6->List b6->Prop}
namespace S
theorem cp {f:FuncId}{xs:List r8}{u:List Nat}{v:b6}{args:List b6}{H1:o6}(hc:Pm A f args H l v H1)(hle:H.length<=H1.length)(h2:Ry A l b false j4 ops T H1 (n+1) (v::rl) (.below H1.length::n5) Q)(ha:xs.map (rq T n rl)=args:=by rfl)(dc:A.prom f=true:=by rfl) :
  Ry A l b false j4 (⟨.call f xs,none,none,u⟩::ops) T H n rl n5 Q:=fun hn=>by
 obtain ⟨M,hc⟩:=hc;refine Rx.stepT (N1:=M) (rs:=[]) rfl (fun k hk=> ?_) (h2.to hn);have Gs :(J4 A k l b).prom f=true:=dc;have pH :(J4 A k l b).cf f args H (J4 A k l b).lim=some (v,H1):=hc k hk;have h3:A6 (J4 A k l b) rl.reverse.length f args ⟨T,H,rl.reverse++ .any::c9 ops.length .any,n5⟩=some (put ⟨T,H1,rl.reverse++ .any::c9 ops.length .any,.below H1.length::n5⟩ rl.reverse.length v):=by
  simp only [A6,Gs,if_true,pH,hle]
 simp only [x9,u0,C5,s9.D5,if_true,E2,lN hn,ha,h3,s4,F8,put,F7]
end S
end
theorem yY (id:Nat):∀ l:List b6,H7 id l=l.map (b6.kill id)
 |[]=>rfl
 |v::l=>by simp [H7,yY id l]
theorem KE {id m:Nat}(rl:List b6):H7 id (rl.reverse++ .any::c9 m .any)=(H7 id rl).reverse++ .any::c9 m .any:=by
 simp [yY,b6.kill]
theorem Pm.ga {A:Prog}{f:FuncId}{args:List b6}{H H1:o6}{l:F9}{v:b6}{p:List b6->o6->F9->Option (b6×o6)}(hp:A.ga f=some p)(h:p args H l=some (v,H1)):Pm A f args H l v H1 :=
 ⟨1,fun n hn=>by
  obtain ⟨n,rfl⟩:∃ j,n=j+1:=⟨n - 1,by omega⟩;simp only [call,hp,h]⟩
section
variable {A:Prog} {l:F9} {b:Nat}
variable {dr:Bool} {j4 ops:List n8} {T:List b6} {H:o6} {n:Nat} {rl:List b6} {n5:List Touch} {Q:List b6->o6->List b6->Prop}
theorem Ry.WU {j s sz bytes id off:Nat}{y:r8}{u u' :List Nat}{d' :Option Nat}{g' :Option (Nat×Bool)}{n' len m:Nat}{cs' cells new:List Data}{old:List b6}
  (hj:lk n rl j=some (.d (.slice n' cs'))) (ha:j4[j]? =some ⟨.load none (.slot s),d',g',u'⟩) (hk:T[s]? =some (.ptr id off)) (hts:n5.any (Touch.Q1 s)=false) (ht:n5.any (Touch.aj id off)=false) (hl:l.may id=true) (ho:H[id]? =some (.cells old)) (hc:old[off]? =some (.own sz len cells))
  (hy:rq T n rl y= .d (.slice m new)) (hn' :new.length=m * sz) (hr:roomFor (len+m) bytes=true) (h0:0<sz)
  (h2:Ry A l b dr j4 ops T (H.set id (.cells (old.set off (.d (.slice len cells))))) (n+1) (.own sz (len+m) (cells++new)::rl) (.cell id off::n5) Q):Ry A l b dr j4 (⟨.append sz bytes false (.loc j) y,none,none,u⟩::ops) T H n rl n5 Q:=fun hn=>by
 have hjl:rl.reverse[j]? =some (.d (.slice n' cs')):=by rw [eX hn];exact hj
 have hL:∀ r:List b6,(rl.reverse++ .any::r)[j]? =some (.d (.slice n' cs')):=fun r=>oy hjl _
 have vz:u7.F0 T (rl.reverse++ .any::c9 ops.length .any) (.loc j)= .d (.slice n' cs'):=by simp [u7.F0,hL,b6.F2]
 refine Rx.step (N1:=0) (rs:=[]) (by simp only [D8,vz]) rfl (fun q _=> ?_) (yF id off n5) (h2.to hn);have hl' :(J4 A q l b).lim.may id=true:=hl;have hs:I8 H sz (.d (.slice m new))=some (m,new.map .d):=by simp only [I8,hn',if_true]
 simp only [x9,u0,C5,s9.D5,if_true,E2,vz,J5,Y0 hn,hy,hs,fH,b7,if_false,O4,hL,ha,U2,Y6,hk,hts,ht,hl',Bool.not_true,Bool.or_self,ho,hc,hr,h0,and_self,put,F7,s4,F8]
theorem S.ab9 {α:Type}{enc:α->List Data}{xs:List α}{a:α}{j s bytes id off:Nat}{y:r8}{u u' :List Nat}{d' :Option Nat}{g' :Option (Nat×Bool)}{n' :Nat}{cs' :List Data}{c:Data}{old new:List b6}{H2:o6}
  (hr:roomFor (xs.length+1) bytes=true) (he:enc a=[c]) (hj:lk n rl j=some (.d (.slice n' cs')):=by rfl) (ha:j4[j]? =some ⟨.load none (.slot s),d',g',u'⟩:=by rfl) (hk:T[s]? =some (.ptr id off):=by rfl) (hts:n5.any (Touch.Q1 s)=false:=by rfl) (ht:n5.any (Touch.aj id off)=false:=by rfl) (hl:l.may id=true:=by rfl) (ho:H[id]? =some (.cells old):=by rfl) (hc:old[off]? =some (A5 1 enc xs):=by rfl)
  (hy:rq T n rl y= .d (.slice 1 [c]):=by rfl) (hN:old.set off (.d (y7 enc xs))=new:=by rfl) (hH:H.set id (.cells new)=H2:=by simp only [List.set_cons_zero,List.set_cons_succ]<;>rfl)
  (h2:Ry A l b dr j4 ops T H2 (n+1) (A5 1 enc (xs++[a])::rl) (.cell id off::n5) Q):Ry A l b dr j4 (⟨.append 1 bytes false (.loc j) y,none,none,u⟩::ops) T H n rl n5 Q :=
 Ry.WU hj ha hk hts ht hl ho hc hy rfl hr (by decide) (by
  have e1:A5 1 enc (xs++[a])= .own 1 (xs.length+1) (xs.flatMap enc++[c]):=by simp [A5,he]
  rw [e1] at h2;subst hH hN;exact h2)
end
section
variable {A:Prog} {l:F9} {b:Nat}
variable {j4 ops:List n8} {T:List b6} {H:o6} {n:Nat} {rl:List b6} {n5:List Touch} {Q:List b6->o6->List b6->Prop}
namespace S
theorem mn {dr:Bool}{s:Nat}{T2:List b6}{u:List Nat}(hs:T[s]?.isSome=true:=by rfl)(hT:T.set s (.d (.slice 0 []))=T2:=by simp only [List.set_cons_zero,List.set_cons_succ]<;>rfl)(h2:Ry A l b dr j4 ops T2 H (n+1) (.I5::rl) (.slot s::n5) Q) :
  Ry A l b dr j4 (⟨.M9 (.const .I5),some s,none,u⟩::ops) T H n rl n5 Q:=fun hn=>by
 subst hT;have hs' :s<T.length:=by
  rcases p7 s T.length with h|h
  ·exact h
  ·rw [q6 h] at hs;cases hs
 refine Rx.step (N1:=0) (rs:=[]) rfl rfl (fun n _=> ?_) (fM s n5) (h2.to hn);have h5:∀ r:List b6,(rl.reverse++ .I5::r)[rl.reverse.length]? =some .I5:=fun r=>by simp
 have h6:∀ r:List b6,u7.F0 T (rl.reverse++ .I5::r) (.loc rl.reverse.length)= .d (.slice 0 []):=fun r=>by simp [u7.F0,b6.F2]
 simp only [x9,u0,C5,s9.D5,b7,if_false,u7.C6,put,F7,s4,F8,hs',if_true,h5,h6]
theorem zsb {na:Nat}{x y:r8}{c d:Int}{u:List Nat}(h0: -9223372036854775808<=c - d/\c - d<9223372036854775808)(h2:Rz A l b j4 ops T H (n+1) (.d (.int .i64 (c - d))::rl) n5 na Q)(hx:rq T n rl x= .d (.int .i64 c):=by rfl)(hy:rq T n rl y= .d (.int .i64 d):=by rfl)
  (hi:j4[n]? =some ⟨.bin .sub x y,none,none,u⟩:=by rfl):Rz A l b j4 (⟨.bin .sub x y,none,none,u⟩::ops) T H n rl n5 na Q :=
 zp (rs:=[]) _ (by simp only [k9,hx,hy,AE (Or.inr ⟨rfl,rfl⟩) h0.1 h0.2]) h2 (hi:=hi)
theorem apo {x y:r8}{u:List Nat}{sz bytes id len m k2:Nat}{old cs T2 Zb:List b6}{H2:o6}(hr:roomFor (len+m) bytes=true)(hc:I8 H sz (rq T n rl y)=some (m,cs))(XK:len * sz=old.length)(hone:cs.all b6.one=true)(hbc:y9 cs=0)
  (hx:rq T n rl x= .D0 id sz 0 len:=by rfl) (hid:J7 l.base id=true:=by rfl) (Qe:J7 b id=true:=by rfl) (hl:l.may id=true:=by rfl) (ho:H[id]? =some (.cells old):=by rfl) (hsz:J7 1 sz=true:=by rfl)
  (hT:H7 id T=T2:=by rfl) (hL:H7 id rl=Zb:=by rfl) (hH:(H.take l.base++(H.drop l.base).map (u5.kill id)).set id (.cells (H7 id old++cs))=H2:=by rfl)
  (hk2:len+m=k2:=by rfl) (h2:Ry A l b false j4 ops T2 H2 (n+1) (.D0 id sz 0 k2::Zb) (.obj id::n5) Q):Ry A l b false j4 (⟨.append sz bytes true x y,none,none,u⟩::ops) T H n rl n5 Q:=fun hn=>by
 subst hT hH hL hk2;have hid:=m6 hid;have Qe:=m6 Qe;have hsz:0<sz:=m6 hsz;have hn2:(H7 id rl).length=n:=by rw [L4];exact hn
 refine Rx.stepT (N1:=0) (rs:=[]) (by simp [L4]) (fun k _=> ?_) (h2.to hn2);have hl' :(J4 A k l b).lim.may id=true:=hl;have he:(J4 A k l b).lim.base<=id/\(J4 A k l b).entry<=id/\(J4 A k l b).lim.may id=true:=⟨hid,Qe,hl'⟩;have hk:y9 cs<=id:=by omega
 have h5:V8 (J4 A k l b) rl.reverse.length sz bytes ⟨T,H,rl.reverse++ .any::c9 ops.length .any,n5⟩ id 0 len (rq T n rl y)=some (put ⟨H7 id T,(H.take l.base++(H.drop l.base).map (u5.kill id)).set id (.cells (H7 id old++cs)),(H7 id rl).reverse++ .any::c9 ops.length .any,.obj id::n5⟩ rl.reverse.length (.D0 id sz 0 (len+m))):=by
  simp only [V8,he,and_self,if_true,ho,hc,XK,hr,hk,hone,hsz,KE];rfl
 have hln:rl.reverse.length=(H7 id rl).reverse.length:=by simp [L4]
 simp only [x9,u0,C5,s9.D5,if_true,E2,Y0 hn,hx,h5,s4,F8,put];rw [hln,F7]
end S
end
end Go.u7
namespace Go.u7.S
theorem gx {Γ Δ:Prop}(k:Δ)(h:PLift Δ->Γ:=by intro K;(first|refine Ex.seq ?_|refine Ex.region (Rn.text ?_)|refine Ex.region (Rn.draw ?_)|refine Ex.block ?_|refine nl ?_|refine Ex.skip ?_|refine Ex.exit ?_|refine Ex.ret ?_|refine wa ?_|refine sk ?_|refine st ?_|refine mv ?_|refine mt (h2:= ?_)|refine mo ?_|refine lp ?_|refine lpo ?_|refine fp ?_|refine ld ?_|refine lf ?_|refine ln ?_|refine li ?_|refine lo ?_|refine gi ?_|refine go ?_|refine ei ?_|refine ni ?_|refine es ?_|refine ns ?_|refine ad ?_|refine sb ?_|refine ng ?_|refine lt ?_|refine le ?_|refine lq ?_|refine lq3 ?_|refine lq2 ?_|refine o12 ?_|refine et ?_|refine ix (h2:= ?_)|refine pt ?_|refine pk ?_|refine mw (h2:= ?_)|refine ow (h2:= ?_)|refine bx (h2:= ?_)|refine bxn (h2:= ?_)|refine nk ?_|refine nki ?_|refine ac (h2:= ?_)|refine so (h2:= ?_)|refine sp1 (h2:= ?_)|refine o1 ?_|refine o1z ?_|refine ap1 (h2:= ?_)|refine e0 ?_|refine apN (h2:= ?_)|refine al1 (h2:= ?_)|refine alN (h2:= ?_)|refine alE (h2:= ?_)|refine xs (h2:= ?_)|refine xsN (h2:= ?_)|refine ixN (h2:= ?_)|refine ixZ (h2:= ?_)|refine ls ?_|refine lnT (h2:= ?_)|refine lsT (h2:= ?_)|refine ldT (h2:= ?_)|refine lpT (h2:= ?_)|refine qs ?_|refine qb ?_|refine mm ?_|refine ip ?_|refine ipN ?_|refine ipM ?_|refine ar0 ?_|refine df ?_|refine mf ?_|refine AD ?_|refine svh (h2:= ?_)|refine svl (h2:= ?_)|refine svb (h2:= ?_)|fail);exact K.down):Γ:=h ⟨k⟩
theorem gr {Γ Δ:Prop}(k:Δ)(h:PLift Δ->Γ:=by intro K;(repeat' (first|refine gx ?_|fail));exact K.down):Γ:=h ⟨k⟩
theorem cc {p:Prop}(h:p:=by first|(simp [*,b9];done)|(simp_all [b9];done)|(simp_all [b9,o9,o5,j5,A3];done)|(simp_all [b9,o9,o5,j5,A3]<;>omega)):p:=h
section
variable {A:Prog} {l:F9} {b:Nat}
theorem tB {ops:List n8}{draw:Bool}{c:r8}{d e:p5}{T:List b6}{H:o6}{Q:D2->St->Prop}{Δ:Prop}(t:Bool)(k:Δ)(h2:t=true->Ex A l b d ⟨T,H⟩ Q)(h3:t=false->Ex A l b e ⟨T,H⟩ Q)
  (h:PLift Δ->Rn A l b ops draw T H fun T' H' L=>T' =T/\H' =H/\∃ t',F0 T' L c= .d (.bool t')/\t' =t:=by intro K;first|exact Rn.text K.down|exact Rn.draw K.down):Ex A l b (.test ops draw c d e) ⟨T,H⟩ Q:=Ex.Oj t (h ⟨k⟩) h2 h3
theorem tb {ops:List n8}{draw:Bool}{c:r8}{d e:p5}{T:List b6}{H:o6}{Q:D2->St->Prop}(t:Bool)(h2:t=true->Ex A l b d ⟨T,H⟩ Q)(h3:t=false->Ex A l b e ⟨T,H⟩ Q)
  (h:Rn A l b ops draw T H fun T' H' L=>T' =T/\H' =H/\∃ t',F0 T' L c= .d (.bool t')/\t' =t:=by (first|refine Rn.text ?_|refine Rn.draw ?_|fail);(repeat' (first|refine gx ?_|refine fk (h1:=fun hw=> ?_) (h2:=fun hw=> ?_)|refine M8 (h1:=fun hw=> ?_) (h2:=fun hw=> ?_)|refine ⟨rfl,rfl,_,rfl,?_⟩|refine ⟨rfl,rfl⟩|fail));all_goals exact cc) :
  Ex A l b (.test ops draw c d e) ⟨T,H⟩ Q:=Ex.Oj t h h2 h3
end
end Go.u7.S
namespace Go.u7
def kJ (op:Int):Int :=
 if o8 op 1||o8 op 2 then 0 else if o8 op 3||o8 op 9||o8 op 13||o8 op 16 then 1 else if o8 op 18 then 3 else if X4 1 op&&X4 op 18 then 2 else -1
def fc (k n:Int)(s:C7):Bool :=
 if o8 k 0 then o8 n 0&&I9 s [] else if o8 k 1 then X4 (-4294967296) n&&X4 n 4294967296&&I9 s [] else if o8 k 2 then o8 n 0&&X4 s.length 32 else false
def zeroV (t:Z2):Bool:=o8 t.kind 0&&o8 t.int 0&&I9 t.text []
def cM (t:Z2):Bool :=
 if o8 t.op 1 then fc t.kind t.int t.text&& !o8 t.kind 0&&o8 t.col 0 else if o8 t.op 2 then zeroV t&&X4 0 t.col else zeroV t&&o8 t.col 0
def vS (t:Z2):Bool:= !C2 (kJ t.op) 0&&cM t
theorem mM (op:Int):kJ op<=3:=by
 unfold kJ
 repeat' split
 all_goals omega
inductive Z7 where
 |node (t:Z2) (l:List Z7)
mutual
def Z7.flat:Z7->List Z2
 | .node t l=>t::K1 l
def K1:List Z7->List Z2
 |[]=>[]
 |a::l=>a.flat++K1 l
end
mutual
def Z7.dep:Z7->Nat
 | .node _ l=>jF l+1
def jF:List Z7->Nat
 |[]=>0
 |a::l=>max a.dep (jF l)
end
mutual
def Z7.wf:Z7->Prop
 | .node t l=>vS t=true/\(kJ t.op).toNat=l.length/\RC l
def RC:List Z7->Prop
 |[]=>True
 |a::l=>a.wf/\RC l
end
def cq (f:List Z2->Option (Z7×List Z2)):Nat->List Z2->Option (List Z7×List Z2)
 |0,r=>some ([],r)
 |k+1,r=>match f r with
  |none=>none
  |some (a,r')=>match cq f k r' with
   |none=>none
   |some (l,r2)=>some (a::l,r2)
def K3:Nat->List Z2->Option (Z7×List Z2)
 |0,_=>none
 |_+1,[]=>none
 |d+1,t::r=>if vS t then match cq (K3 d) (kJ t.op).toNat r with
   |none=>none
   |some (l,r')=>some (.node t l,r')
  else none
theorem vF {f:List Z2->Option (Z7×List Z2)}{d:Nat}(hf:∀ r a r',f r=some (a,r')->r=a.flat++r' /\a.wf/\a.dep<=d):∀ (k:Nat) (r:List Z2) (l:List Z7) (r' :List Z2),cq f k r=some (l,r')->r=K1 l++r' /\RC l/\jF l<=d/\l.length=k
 |0,r,l,r',h=>by
  simp only [cq,Option.some.injEq,Prod.mk.injEq] at h;obtain ⟨rfl,rfl⟩:=h;simp [K1,RC,jF]
 |k+1,r,l,r',h=>by
  simp only [cq] at h;split at h
  ·cases h
  ·rename_i a r1 h1
   split at h
   ·cases h
   ·rename_i l2 r2 h2
    simp only [Option.some.injEq,Prod.mk.injEq] at h;obtain ⟨rfl,rfl⟩:=h;obtain ⟨e1,e2,e3⟩:=hf _ _ _ h1;obtain ⟨g1,g2,g3,g4⟩:=vF hf k _ _ _ h2;refine ⟨?_,⟨e2,g2⟩,?_,by simp [g4]⟩
    ·rw [e1,g1];simp [K1]
    ·simp only [jF];omega
theorem Q5:∀ (d:Nat) (r:List Z2) (a:Z7) (r' :List Z2),K3 d r=some (a,r')->r=a.flat++r' /\a.wf/\a.dep<=d
 |0,r,a,r',h=>by simp [K3] at h
 |d+1,[],a,r',h=>by simp [K3] at h
 |d+1,t::r,a,r',h=>by
  simp only [K3] at h;split at h
  ·rename_i ht
   split at h
   ·cases h
   ·rename_i l r1 h1
    simp only [Option.some.injEq,Prod.mk.injEq] at h;obtain ⟨rfl,rfl⟩:=h;obtain ⟨g1,g2,g3,g4⟩:=vF (Q5 d) _ _ _ _ h1;refine ⟨?_,⟨ht,g4.symm,g2⟩,?_⟩
    ·rw [g1];simp [Z7.flat]
    ·simp only [Z7.dep];omega
  ·cases h
mutual
theorem U9:∀ (a:Z7) (d:Nat) (r:List Z2),a.wf->a.dep<=d->K3 d (a.flat++r)=some (a,r)
 | .node t l,0,r,_,h=>by simp [Z7.dep] at h
 | .node t l,d+1,r,hw,h=>by
  simp only [Z7.dep] at h;obtain ⟨h1,h2,h3⟩:=hw;have h4:=nI l d r h3 (by omega);simp only [Z7.flat,List.cons_append,K3,h1,if_true,h2,h4]
theorem nI:∀ (l:List Z7) (d:Nat) (r:List Z2),RC l->jF l<=d->cq (K3 d) l.length (K1 l++r)=some (l,r)
 |[],d,r,_,_=>by simp [K1,cq]
 |a::l,d,r,hw,h=>by
  simp only [jF] at h;have h1:=U9 a d (K1 l++r) hw.1 (by omega);have h2:=nI l d r hw.2 (by omega);simp only [K1,List.append_assoc,List.length_cons,cq,h1,h2]
end
mutual
theorem kR:∀ a:Z7,a.dep<=a.flat.length
 | .node t l=>by
  have:=yJ l;simp only [Z7.dep,Z7.flat,List.length_cons];omega
theorem yJ:∀ l:List Z7,jF l<=(K1 l).length
 |[]=>by simp [jF]
 |a::l=>by
  have h1:=kR a;have h2:=yJ l;simp only [jF,K1,List.length_append];omega
end
theorem fT (a:Z7):0<a.flat.length:=by
 cases a;simp [Z7.flat]
theorem rH:∀ l:List Z7,l.length<=(K1 l).length
 |[]=>by simp
 |a::l=>by
  have:=fT a;have:=rH l;simp only [K1,List.length_append,List.length_cons];omega
theorem Bn {d d' :Nat}{r:List Z2}(h:r.length<=d)(h' :r.length<=d'):K3 d r=K3 d' r:=by
 cases h1:K3 d r with
 |some p =>
  obtain ⟨a,r'⟩:=p;obtain ⟨e,w,_⟩:=Q5 d r a r' h1;have hd:=kR a;have hl:a.flat.length<=r.length:=by rw [e];simp
  rw [e,U9 a d' r' w (by omega)]
 |none =>
  cases h2:K3 d' r with
  |none=>rfl
  |some p =>
   obtain ⟨a,r'⟩:=p;obtain ⟨e,w,_⟩:=Q5 d' r a r' h2;have hd:=kR a;have hl:a.flat.length<=r.length:=by rw [e];simp
   rw [e,U9 a d r' w (by omega)] at h1;cases h1
def eZ (op:Int)(t:List Int):Int :=
 if o8 op 3||o8 op 13 then (if o8 (nth t 0) 1 then 1 else 0)
 else if o8 op 8 then (if o8 (nth t 0) 2&&o8 (nth t 1) 2 then 2 else 0)
 else if o8 op 9 then (if o8 (nth t 0) 2 then 1 else 0)
 else if o8 op 10 then (if o8 (nth t 0) 2&&o8 (nth t 1) 1 then 2 else 0)
 else if o8 op 11||o8 op 12 then (if o8 (nth t 0) (nth t 1) then 1 else 0)
 else if o8 op 16 then 1
 else if o8 op 17 then (if o8 (nth t 0) (nth t 1) then nth t 0 else 0)
 else if o8 op 18 then (if o8 (nth t 0) 1&&o8 (nth t 1) (nth t 2) then nth t 1 else 0)
 else (if o8 (nth t 0) 1&&o8 (nth t 1) 1 then 1 else 0)
def yu (ty:List Int)(t:Z2)(ts:List Int):Int×Int :=
 if o8 t.op 1 then (t.kind,0) else if o8 t.op 2 then (if X4 ty.length t.col then (0,3) else (nth ty t.col.toNat,0))
 else if o8 (eZ t.op ts) 0 then (0,5) else (eZ t.op ts,0)
mutual
def Z7.typ (ty:List Int):Z7->Int×Int
 | .node t l=>if o8 (fA ty l).2 0 then yu ty t (fA ty l).1 else (0,(fA ty l).2)
def fA (ty:List Int):List Z7->List Int×Int
 |[]=>([],0)
 |a::l=>if o8 (a.typ ty).2 0 then ((a.typ ty).1::(fA ty l).1,(fA ty l).2) else ([],(a.typ ty).2)
end
def aC (ty:List Int):Bool:=ty.all fun t=>o8 t 1||o8 t 2
def eo (e:List Z2):Option Z7:=if X4 1 e.length&&X4 e.length 64 then match K3 16 e with
  |some (a,[])=>some a
  |_=>none
 else none
def E4 (e:List Z2)(ty:List Int):Int×Int:=match eo e with
 |none=>(0,1)
 |some a=>if aC ty then a.typ ty else (0,1)
theorem uo {α:Type} [Inhabited α] (i:Nat):nth ([]:List α) i=default:=by simp [nth]
def Bs (ty:List Int)(t:Z2)(a b c:Int):Int×Bool :=
 if o8 t.op 1 then (t.kind,true) else if o8 t.op 2 then (nth ty t.col.toNat,true)
 else if o8 t.op 3||o8 t.op 13 then (1,o8 a 1)
 else if o8 t.op 8 then (2,o8 a 2&&o8 b 2)
 else if o8 t.op 9 then (1,o8 a 2)
 else if o8 t.op 10 then (2,o8 a 2&&o8 b 1)
 else if o8 t.op 11||o8 t.op 12 then (1,o8 a b)
 else if o8 t.op 16 then (1,true)
 else if o8 t.op 17 then (a,o8 a b)
 else if o8 t.op 18 then (b,o8 a 1&&o8 b c)
 else (1,o8 a 1&&o8 b 1)
def good (x:Int):Prop:=x=1\/x=2
theorem Dv {l:List Int}(h:∀ x,x ∈ l->good x){i:Nat}(hn:nth l i≠0):good (nth l i):=by
 rcases p7 i l.length with hi|hi
 ·exact h _ (S1 hi)
 ·exfalso;apply hn;simp [nth,hi]
theorem Gk {ty:List Int}(h:aC ty=true):∀ x,x ∈ ty->good x:=by
 intro x hx;have:=List.all_eq_true.1 h x hx;simpa [j5,good] using this
theorem Er {op:Int}{ts:List Int}(h:∀ x,x ∈ ts->good x)(hn:eZ op ts≠0):good (eZ op ts):=by
 unfold eZ at hn ⊢;split
 ·rename_i h1;rw [if_pos h1] at hn;split at hn<;>simp_all [good]
 rename_i h1;rw [if_neg h1] at hn;split
 ·rename_i h1;rw [if_pos h1] at hn;split at hn<;>simp_all [good]
 rename_i h1;rw [if_neg h1] at hn;split
 ·rename_i h1;rw [if_pos h1] at hn;split at hn<;>simp_all [good]
 rename_i h1;rw [if_neg h1] at hn;split
 ·rename_i h1;rw [if_pos h1] at hn;split at hn<;>simp_all [good]
 rename_i h1;rw [if_neg h1] at hn;split
 ·rename_i h1;rw [if_pos h1] at hn;split at hn<;>simp_all [good]
 rename_i h1;rw [if_neg h1] at hn;split
 ·exact Or.inl rfl
 rename_i h1;rw [if_neg h1] at hn;split
 ·rename_i h1;rw [if_pos h1] at hn
  split at hn
  ·rename_i h2;rw [if_pos h2];exact Dv h hn
  ·exact absurd rfl hn
 rename_i h1;rw [if_neg h1] at hn;split
 ·rename_i h1;rw [if_pos h1] at hn
  split at hn
  ·rename_i h2;rw [if_pos h2];exact Dv h hn
  ·exact absurd rfl hn
 rename_i h1;rw [if_neg h1] at hn;split at hn<;>simp_all [good]
mutual
theorem Ep {ty:List Int}(dy:aC ty=true):∀ a:Z7,a.wf->o8 (a.typ ty).2 0=true->good (a.typ ty).1
 | .node t l,hw,h=>by
  obtain ⟨hok,Xj,TV⟩:=hw;simp only [Z7.typ] at h ⊢;split
  ·rename_i h1
   rw [if_pos h1] at h;have hl:=sw dy l TV;simp only [yu] at h ⊢;split
   ·rename_i h2
    simp only [vS,cM,h2,if_true,Bool.and_eq_true,Bool.not_eq_true'] at hok;have h3:=hok.2.1.1;have h4:=hok.2.1.2;unfold fc at h3;simp only [h4,b7,if_false] at h3;unfold good;split at h3
    ·rename_i h5;exact Or.inl (X2 h5)
    ·split at h3
     ·rename_i h5;exact Or.inr (X2 h5)
     ·cases h3
   ·rename_i h2
    rw [if_neg h2] at h;split
    ·rename_i h3
     rw [if_pos h3] at h;split
     ·rename_i h4
      rw [if_pos h4] at h;simp [j5] at h
     ·rename_i h4
      have h5:=zd (Bool.not_eq_true _ ▸ h4);have h6:0<=t.col:=by
       simp only [vS,cM,h2,h3,if_true,b7,if_false,Bool.and_eq_true] at hok;exact pO hok.2.2
      exact Gk dy _ (S1 (by omega))
    ·rename_i h3
     rw [if_neg h3] at h;split
     ·rename_i h4
      rw [if_pos h4] at h;simp [j5] at h
     ·rename_i h4
      exact Er hl (by simpa [j5] using h4)
  ·rename_i h1
   rw [if_neg h1] at h;exact absurd h h1
theorem sw {ty:List Int}(dy:aC ty=true):∀ l:List Z7,RC l->∀ x,x ∈ (fA ty l).1->good x
 |[],_,x,h=>by simp [fA] at h
 |a::l,hw,x,h=>by
  simp only [fA] at h;split at h
  ·rename_i h1
   rcases B8.1 h with rfl|h
   ·exact Ep dy a hw.1 h1
   ·exact sw dy l hw.2 x h
  ·cases h
end
theorem Rw {ty:List Int}{t:Z2}{ts:List Int}(hts:∀ x,x ∈ ts->good x)(hc:o8 t.op 2=true->X4 ty.length t.col=false)
  (h17:o8 t.op 17=true->0<ts.length) (h18:o8 t.op 18=true->1<ts.length) :
  yu ty t ts=if (Bs ty t (nth ts 0) (nth ts 1) (nth ts 2)).2 then ((Bs ty t (nth ts 0) (nth ts 1) (nth ts 2)).1,0) else (0,5):=by
 unfold yu Bs;cases d1:o8 t.op 1 with
 |true=>simp only [if_true]
 |false =>
 simp only [b7,if_false];cases d2:o8 t.op 2 with
 |true=>simp only [if_true,hc d2,b7,if_false]
 |false =>
 simp only [b7,if_false];have z1:o8 1 0=false:=by simp [j5]
 have z2:o8 2 0=false:=by simp [j5]
 have z0:o8 0 0=true:=by simp [j5]
 have SM:∀ (b:Bool) (x:Int),(b=true->o8 x 0=false)->(if o8 (if b=true then x else 0) 0=true then ((0:Int),(5:Int)) else (if b=true then x else 0,0))=if b=true then (x,0) else (0,5):=by
  intro b x h;cases b with
  |true=>simp [h rfl]
  |false=>simp [z0]
 have gz:∀ {i:Nat},i<ts.length->o8 (nth ts i) 0=false:=fun {i} hi=>by
  have:=hts _ (S1 hi);unfold good at this;simp [j5];omega
 unfold eZ;cases c1:(o8 t.op 3||o8 t.op 13) with
 |true=>simp only [if_true];exact SM _ _ fun _=>z1
 |false =>
 simp only [b7,if_false];cases c2:o8 t.op 8 with
 |true=>simp only [if_true];exact SM _ _ fun _=>z2
 |false =>
 simp only [b7,if_false];cases c3:o8 t.op 9 with
 |true=>simp only [if_true];exact SM _ _ fun _=>z1
 |false =>
 simp only [b7,if_false];cases c4:o8 t.op 10 with
 |true=>simp only [if_true];exact SM _ _ fun _=>z2
 |false =>
 simp only [b7,if_false];cases c5:(o8 t.op 11||o8 t.op 12) with
 |true=>simp only [if_true];exact SM _ _ fun _=>z1
 |false =>
 simp only [b7,if_false];cases c6:o8 t.op 16 with
 |true=>simp [z1]
 |false =>
 simp only [b7,if_false];cases c7:o8 t.op 17 with
 |true=>simp only [if_true];exact SM _ _ fun _=>gz (h17 c7)
 |false =>
 simp only [b7,if_false];cases c8:o8 t.op 18 with
 |true=>simp only [if_true];exact SM _ _ fun _=>gz (h18 c8)
 |false =>
 simp only [b7,if_false];exact SM _ _ fun _=>z1
end Go.u7


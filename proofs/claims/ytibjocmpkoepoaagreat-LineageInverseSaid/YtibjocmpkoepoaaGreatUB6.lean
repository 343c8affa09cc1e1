import Derived.Test.YtibjocmpkoepoaaGreatUB4
set_option linter.all false
open Bool renaming false_eq_true → j3, or_eq_false_iff → F3
open List renaming all_eq_true → L9, append_assoc → E8, drop_of_length_le → l5, getElem?_append_left → A7, getElem?_append_right → s5, getElem?_eq_getElem → l6, map_cons → F4, mem_append → M4, mem_cons → B4, mem_singleton → q6, replicate → c9, take_of_length_le → B5
open Nat renaming ble → E3, le_of_ble_eq_true → j5, le_refl → o5, lt_or_ge → y4
namespace Go.x9
def xU (x:Int):List Int->List Int
 |[]=>[x]
 |y::l=>if x<=y then x::y::l else y::xU x l
def bZ:List Int->List Int
 |[]=>[]
 |x::l=>xU x (bZ l)
def jA :List c8->Option (List Int)
 |[]=>some []
 | .d (.int .i64 n)::r=>match jA r with
  |some xs=>some (n::xs)
  |none=>none
 |_=>none
def Dt:List c8->o9->F2->Option (c8×o9)
 |[.N7,.d (.int .i64 n)],H,_=>if 0<=n/\n<=1000000 then some (.own 1 0 [],H) else none
 |_,_,_=>none
def Du:List c8->o9->F2->Option (c8×o9)
 |[.A8 id 1 lo len],H,l=>if l.may id&&E3 len 1000000 then match rd H id lo len with
   |some vs=>match jA vs with
    |some xs=>match wr H id lo ((bZ xs).map fun n=> .d (.int .i64 n)) with
     |some H1=>some (.tuple [],H1)
     |none=>none
    |none=>none
   |none=>none
  else none
 |[.d (.slice 0 _)],H,_=>some (.tuple [],H)
 |_,_,_=>none
def aP:List Int->List Int
 |[]=>[]
 |[x]=>[x]
 |x::y::l=>if x=y then aP (y::l) else x::aP (y::l)
def kR:List c8->o9->F2->Option (c8×o9)
 |[.A8 id 1 lo len],H,l=>if l.may id&&E3 len 1000000 then match rd H id lo len with
   |some vs=>match jA vs with
    |some xs=>match wr H id lo ((aP xs++c9 (xs.length - (aP xs).length) 0).map fun n=> .d (.int .i64 n)) with
     |some H1=>some (.A8 id 1 lo (aP xs).length,H1)
     |none=>none
    |none=>none
   |none=>none
  else none
 |_,_,_=>none
section
variable {A:Prog} {l:F2} {b:Nat}
variable {dr:Bool} {j9 ops:List p6} {T:List c8} {H:o9} {n:Nat} {rl:List c8} {o7:List Touch} {Q:List c8->o9->List c8->Prop}
def Ex.VT {ops:List p6}{draw:Bool}{c:y6}{d e:q9}{T:List c8}{H:o9}{Q:F7->St->Prop}(t:Bool)
  (h:Rn A l b ops draw T H fun T' H' L=>T' =T/\H' =H/\∃ t',I5 T' L c= .d (.bool t')/\t' =t)
  (h2:t=true->Ex A l b d ⟨T,H⟩ Q) (h3:t=false->Ex A l b e ⟨T,H⟩ Q):Ex A l b (.test ops draw c d e) ⟨T,H⟩ Q:=by
 obtain ⟨r,N,⟨e1,e2,t',e3,rfl⟩,h⟩:=h;subst e1;subst e2;exact Ex.test ⟨r,N,⟨t',e3,h2,h3⟩,h⟩
def Ex.nT {c:q9}{T T2:List c8}{H:o9}{Q:F7->St->Prop}(h:Ex A l b c ⟨T2,H⟩ Q)(hT:T=T2:=by simp only [U9]<;>rfl):Ex A l b c ⟨T,H⟩ Q:=hT ▸ h
def Pf.run {f:FuncId}{af:s6}{args:List c8}{v:c8}(T:List c8)(hp:A.cw f=none)(hf:A.fn f=some af)(hn:args.length=af.nparams)
  (hT:args++c9 (af.names.length - args.length) .any=T) (h:Ex A S8 0 af.body ⟨T,[]⟩ fun x s=>∃ w,iK af 0 (some (x,s))=some (w,[])/\w=v):Pf A f args v :=
 Pf.aF9 T hp hf hn hT (h.mono fun _ _ ⟨_,h1,h2⟩=>h2 ▸ h1)
theorem Z1 {α:Type}:∀ {l:List α} {j:Nat} {v:α},l[j]? =some v->l.set j v=l
 |[],_,_,_=>rfl
 |a::l,0,v,h=>by simp_all
 |a::l,j+1,v,h=>by simp at h;simp [Z1 h]
def Rx.Vx {pre:List c8}{op:z6}{j:Nat}{want:Bool}{u:List Nat}(h:pre[j]? =some (.tuple []))(hk:F1 ⟨T,H,pre++ .any::c9 ops.length .any,o7⟩ op=false)(ha:op.z7=false)
  (h2:Rx A l b dr j9 ops T H (pre++[.tuple []]) o7 Q):Rx A l b dr j9 (⟨op,none,some (j,want),u⟩::ops) T H pre o7 Q:=by
 refine Rx.step (N1:=0) (rs:=[]) hk ha (fun n _=> ?_) (fun rs=>by simp [G9]) h2
 grind [u9,u5,ve,put,K6,r9,E5]
instance:Inhabited Y6:=⟨⟨0,0,0,[],0⟩⟩
instance:Inhabited aG:=⟨⟨[],0,[],[],[],0,0⟩⟩
instance:Inhabited mO:=⟨⟨[],[],0,0⟩⟩
instance:Inhabited GL:=⟨⟨[],[]⟩⟩
instance:Inhabited Ce:=⟨⟨[],0,[]⟩⟩
instance:Inhabited Vw:=⟨⟨[],0,[],[],[],[],[],false,[]⟩⟩
instance:Inhabited Qd:=⟨⟨[],[],0⟩⟩
instance:Inhabited Qi:=⟨⟨[],[],0,0,0,0⟩⟩
instance:Inhabited Qb:=⟨⟨[],[],0,0⟩⟩
instance:Inhabited Qh:=⟨⟨[],[],0⟩⟩
instance:Inhabited Qj:=⟨⟨[],[]⟩⟩
instance:Inhabited PZ:=⟨⟨[],[],0⟩⟩
@[irreducible] def nth {α:Type} [Inhabited α] (l:List α) (i:Nat):α:=l[i]?.getD default
theorem I9 {α:Type} [Inhabited α] {l:List α}{i:Nat}(h:i<l.length):nth l i=l[i]:=by simp [nth,h]
def V0 {α:Type} [Inhabited α] (a:α)(l:List α):nth (a::l) 0=a:=by simp [nth]
def oq {α:Type} [Inhabited α] (a:α)(l:List α)(i:Nat):nth (a::l) (i+1)=nth l i:=by simp [nth]
theorem O7 {α:Type} [Inhabited α] {l:List α}{i:Nat}(h:i<l.length):nth l i ∈ l:=by grind [I9,List.getElem_mem]
theorem B9 {α:Type} [Inhabited α] {l:List α}{i:Nat}(h:i<l.length):l.drop i=nth l i::l.drop (i+1):=by grind [I9,List.drop_eq_getElem_cons]
def J3 {α:Type} [Inhabited α] {l:List α}{i:Nat}(h:i<l.length):l.take (i+1)=l.take i++[nth l i]:=by rw [I9 h,List.take_append_getElem]
def qK {α:Type} [Inhabited α] {l:List α}{i j:Nat}(h:j<i)(hi:i<=l.length):(l.take i).drop j=nth l j::(l.take i).drop (j+1):=by
 grind [B9,I9]
@[irreducible] def F0 (a b:Int):Bool:=decide (a<b)
@[irreducible] def ah (a b:Int):Bool:=decide (a<=b)
@[irreducible] def s8 (a b:Int):Bool:=a==b
@[irreducible] def M0 (a b:List UInt8):Bool:=a==b
theorem y3 (a b:Int):F0 a b=decide (a<b):=by unfold F0;rfl
theorem s9 (a b:Int):ah a b=decide (a<=b):=by unfold ah;rfl
theorem o6 (a b:Int):s8 a b=(a==b):=by unfold s8;rfl
theorem H7 (a b:List UInt8):M0 a b=(a==b):=by unfold M0;rfl
def A9 {a b:Int}(h:F0 a b=true):a<b:=by grind [y3]
def B8 {a b:Int}(h:F0 a b=false):b<=a:=by grind [y3]
def qD {a b:Int}(h:ah a b=true):a<=b:=by grind [s9]
def Ac {a b:Int}(h:ah a b=false):b<a:=by grind [s9]
theorem aQ {a b:Int}(h:s8 a b=true):a=b:=by grind [o6]
def CQ {a b:Int}(h:s8 a b=false):a≠b:=by grind [o6]
def aM1 {a b:List UInt8}(h:M0 a b=true):a=b:=by grind [H7]
theorem af6 {a b:List UInt8}(h:M0 a b=false):a≠b:=by grind [H7]
def y7 (n a b:Int):Bool:=ah a n&&ah n b
def Ry (A:Prog)(l:F2)(b:Nat)(dr:Bool)(j9 ops:List p6)(T:List c8)(H:o9)(n:Nat)(rl:List c8)(o7:List Touch)(Q:List c8->o9->List c8->Prop):Prop :=
 rl.length=n->Rx A l b dr j9 ops T H rl.reverse o7 Q
def lk (n:Nat)(rl:List c8)(j:Nat):Option c8:=match E3 (j+1) n with
 |true=>rl[n - (j+1)]?
 |false=>none
theorem gK (hn:rl.length=n)(j:Nat):rl.reverse[j]? =lk n rl j:=by
 grind [lk,j5,Nat.ble_eq_true_of_le,List.getElem?_eq_none]
def opw (T:List c8)(n:Nat)(rl:List c8):y6->Option c8
 | .slot s=>T[s]?
 | .loc j=>lk n rl j
 | .const v=>some v
def Oq (T:List c8)(n:Nat)(rl:List c8)(x:y6)(v:c8):Prop:=opw T n rl x=some v/\v.J2=v
def Oq.op {x:y6}{v:c8}(h:Oq T n rl x v)(hn:rl.length=n):Op T rl.reverse x v:=by
 obtain ⟨h1,h2⟩:=h;refine ⟨?_,h2⟩;cases x with
 |slot s=>exact h1
 |loc j=>simp [opv,gK hn];exact h1
 |const u=>exact h1
def rq (T:List c8)(n:Nat)(rl:List c8):y6->c8
 | .const v=>v.Qq
 |x=>((opw T n rl x).getD .any).J2
theorem Oq.rq {x:y6}{v:c8}(h:Oq T n rl x v):x9.rq T n rl x=v:=by
 obtain ⟨h1,h2⟩:=h;cases x with
 |const u=>simp_all [opw,Option.some.injEq,x9.rq,SN]
 |_=>grind [x9.rq]
def W6 (hn:rl.length=n)(m:Nat)(x:y6):x9.I5 T (rl.reverse++ .any::c9 m .any) x=rq T n rl x:=by
 cases x with
 |slot s=>rfl
 |const v=>rfl
 |loc j =>
  grind [x9.I5,rq,opw,gK,y4,A7,s5,List.getElem?_eq_none,List.getElem?_cons_succ]
def Ry.to {v:c8}(h:Ry A l b dr j9 ops T H (n+1) (v::rl) o7 Q)(hn:rl.length=n):Rx A l b dr j9 ops T H (rl.reverse++[v]) o7 Q:=by
 have:=h (by simp [hn]);simp_all
def Rn.text {T:List c8}{H:o9}(h:Ry A l b false ops ops T H 0 [] [] Q):Rn A l b ops false T H Q:=Rn.YM (h rfl)
def Rn.draw {T:List c8}{H:o9}(h:Ry A l b true ops ops T H 0 [] [] Q)(hp:rj ops=true:=by rfl):Rn A l b ops true T H Q:=Rn.YL hp (h rfl)
theorem Ry.pure {op:z6}{u:List Nat}{v:c8}{rs:List Nat}(hE:op.C8=false)(hp:n9 (rq T n rl) H op=some (v,rs))
  (h2:Ry A l b dr j9 ops T H (n+1) (v::rl) o7 Q):Ry A l b dr j9 (⟨op,none,none,u⟩::ops) T H n rl o7 Q:=fun hn=>by
 refine Rx.pure (rs:=rs) hE (fun m=> ?_) (h2.to hn);rw [show x9.I5 T (rl.reverse++ .any::c9 m .any)=rq T n rl from funext fun x=>W6 hn m x];exact hp
def Ry.vv {op:z6}{u:List Nat}{v:c8}{rs:List Nat}{s:Nat}(hE:op.C8=false)(hp:n9 (rq T n rl) H op=some (v,rs))(hv:v.J2=v)(hm:op.z7=false)(hs:T[s]?.isSome=true)
  (h2:Ry A l b dr j9 ops (T.set s v) H (n+1) (v::rl) (.slot s::o7) Q):Ry A l b dr j9 (⟨op,some s,none,u⟩::ops) T H n rl o7 Q:=fun hn=>by
 have hs:s<T.length:=by
  simp_all
 have TC:∀ x,op≠ .Q3 x:=by
  grind [n9]
 refine Rx.step (N1:=0) (rs:=rs) ?_ hm (fun m _=> ?_) (dJ s o7) (h2.to hn)
 .cases op<;>first|rfl|grind [z6.C8]
 .have h3:D6 (K8 A m l b) j9 none rl.reverse.length op ⟨T,H,rl.reverse++ .any::c9 ops.length .any,o7⟩=some (⟨T,H,rl.reverse++v::c9 ops.length .any,o7⟩,rs):=by
   have h4:n9 (x9.I5 T (rl.reverse++ .any::c9 ops.length .any)) H op=some (v,rs):=by
    rw [show x9.I5 T (rl.reverse++ .any::c9 ops.length .any)=rq T n rl from funext fun x=>W6 hn _ x];exact hp
   simp_all [absurd,D6,j3,if_false,put,K6,z6.C8]
  have h5:x9.E1 ⟨T,H,rl.reverse++v::c9 ops.length .any,o7⟩ (.loc rl.reverse.length)=(v,⟨T,H,rl.reverse++v::c9 ops.length .any,o7⟩):=by
   grind [x9.E1,c8.J2,x9.I5]
  simp_all [u9,u5,r9,E5,if_true]
def Ry.fork {j:Nat}{w:Bool}(h:lk n rl j=some (.d (.bool w)))(hj:E3 (j+1) n=true)(h1:w=true->Ry A l b dr j9 ops T H n (rl.set (n - (j+1)) (.d (.bool true))) o7 Q)
  (h2:w=false->Ry A l b dr j9 ops T H n (rl.set (n - (j+1)) (.d (.bool false))) o7 Q):Ry A l b dr j9 ops T H n rl o7 Q:=by
 simp [lk,hj] at h;cases w with
 |true=>simp_all [Z1]
 |false=>simp_all [Z1]
theorem DT {α:Type}{enc:α->List Data}{sz:Nat}(hs:∀ a,(enc a).length=sz):∀ (l:List α) (i:Nat),(l.flatMap enc).take (i * sz)=(l.take i).flatMap enc
 |[],i=>by simp
 |a::l,0=>by simp
 |a::l,i+1=>by
  have h1:=DT hs l i;simp_all [List.flatMap_cons,List.take_succ_cons,List.take_append,Nat.succ_mul,Nat.add_sub_cancel,B5]
theorem au {α:Type}{enc:α->List Data}{sz:Nat}(hs:∀ a,(enc a).length=sz):∀ (l:List α),(l.flatMap enc).length=l.length * sz
 |[]=>by simp
 |a::l=>by simp [hs a,au hs l,Nat.succ_mul,Nat.add_comm]
theorem uN {α:Type}{enc:α->List Data}{sz:Nat}(hs:∀ a,(enc a).length=sz):∀ (l:List α) (i:Nat),(l.flatMap enc).drop (i * sz)=(l.drop i).flatMap enc
 |[],i=>by simp
 |a::l,0=>by simp
 |a::l,i+1=>by
  have h1:=uN hs l i;simp_all [List.flatMap_cons,List.drop_succ_cons,List.drop_append,Nat.succ_mul,Nat.add_sub_cancel,List.drop_eq_nil_of_le]
def AS {α:Type}{enc:α->List Data}{sz:Nat}(hs:∀ a,(enc a).length=sz)(l:List α)(lo hi:Nat)(h1:lo<=hi)(h2:hi<=l.length) :
  Data.slice ((hi:Int) - lo).toNat (((l.flatMap enc).take (hi * sz)).drop (lo * sz))=z8 enc ((l.take hi).drop lo):=by
 simp_all [DT,uN,z8]
def C4 {α:Type}(sz:Nat)(enc:α->List Data)(xs:List α):c8:= .own sz xs.length (xs.flatMap enc)
def FO {j:Nat}(hn:rl.length=n)(hb:E3 (j+1) n=true)(v:c8):rl.reverse.set j v=(rl.set (n - (j+1)) v).reverse:=by
 have hb' :j+1<=rl.length:=by simp_all
 apply List.ext_getElem?;intro i
 rcases y4 i rl.length with hi|hi
 .grind
 simp_all
def Rx.XB {pre:List c8}{j sz bytes:Nat}{y:y6}{u:List Nat}{len m:Nat}{cells new:List Data}{vy:c8}{cs:List c8}
  (hj:pre[j]? =some (.own sz len cells)) (hy:∀ m,x9.I5 T (pre++ .any::c9 m .any) y=vy) (hc:N4 H sz vy=some (m,cs)) (hd:M6 cs=some new) (hr:roomFor (len+m) bytes=true) (h0:0<sz)
  (h2:Rx A l b dr j9 ops T H (pre.set j (.d (.slice len cells))++[.own sz (len+m) (cells++new)]) o7 Q):Rx A l b dr j9 (⟨.append sz bytes false (.loc j) y,none,none,u⟩::ops) T H pre o7 Q:=by
 have hjl:j<pre.length:=by
  grind
 have hL:∀ r:List c8,(pre++ .any::r)[j]? =some (.own sz len cells):=fun r=>by grind
 have al7:x9.I5 T (pre++ .any::c9 ops.length .any) (.loc j)= .d (.slice len cells):=by simp [x9.I5,hL,c8.J2]
 have hl:(pre.set j (.d (.slice len cells))).length=pre.length:=by simp
 have h4:∀ (a v:c8) (r:List c8),(pre.set j (.d (.slice len cells))++a::r).set pre.length v=pre.set j (.d (.slice len cells))++v::r:=fun a v r=>by simp_all
 refine Rx.stepG (N1:=0) (rs:=[]) hl (by simp_all [F1]) rfl (fun n _=> ?_) (fun rs=>by simp [G9]) h2;simp_all [u9,u5,D6,z6.C8,if_true,E6,M8,j3,if_false,O8,and_self,put,r9,E5]
theorem aZ:∀ l:List Data,M6 (l.map .d)=some l
 |[]=>rfl
 |a::l=>by simp [M6,c8.data?,aZ l]
def Ry.ay5 {j s sz bytes:Nat}{y:y6}{u u' :List Nat}{d' :Option Nat}{g' :Option (Nat×Bool)}{n' len m:Nat}{cs' cells new:List Data}
  (hj:lk n rl j=some (.d (.slice n' cs'))) (ha:j9[j]? =some ⟨.Q3 (.slot s),d',g',u'⟩) (ht:o7.any (Touch.S4 s)=false) (hT:T[s]? =some (.own sz len cells))
  (hy:rq T n rl y= .d (.slice m new)) (hl:new.length=m * sz) (hr:roomFor (len+m) bytes=true) (h0:0<sz)
  (h2:Ry A l b dr j9 ops (T.set s (.d (.slice len cells))) H (n+1) (.own sz (len+m) (cells++new)::rl) (.slot s::o7) Q):Ry A l b dr j9 (⟨.append sz bytes false (.loc j) y,none,none,u⟩::ops) T H n rl o7 Q:=fun hn =>
 Rx.append (vy:= .d (.slice m new)) (by rw [gK hn];exact hj) ha ht hT (fun k=>by simp_all [W6]) (by simp_all [N4]) (aZ new) hr h0 (h2.to hn)
def Ry.aZ7 {j sz bytes:Nat}{y:y6}{u:List Nat}{len m:Nat}{cells new:List Data}(hj:lk n rl j=some (.own sz len cells))(hb:E3 (j+1) n=true)
  (hy:rq T n rl y= .d (.slice m new)) (hl:new.length=m * sz) (hr:roomFor (len+m) bytes=true) (h0:0<sz)
  (h2:Ry A l b dr j9 ops T H (n+1) (.own sz (len+m) (cells++new)::rl.set (n - (j+1)) (.d (.slice len cells))) o7 Q):Ry A l b dr j9 (⟨.append sz bytes false (.loc j) y,none,none,u⟩::ops) T H n rl o7 Q:=fun hn=>by
 refine Rx.XB (vy:= .d (.slice m new)) (by rw [gK hn];exact hj) (fun k=>by simp_all [W6]) (by simp_all [N4]) (aZ new) hr h0 ?_;have h3:=h2.to (by simp [hn]);simp_all [FO]
namespace S
def nl (h:Q T H rl.reverse):Ry A l b dr j9 [] T H n rl o7 Q:=fun _=>Rx.nil h
def mv {x:y6}{v:c8}{u:List Nat}(h2:Ry A l b dr j9 ops T H (n+1) (v::rl) o7 Q)(hx:Oq T n rl x (v):=by exact ⟨rfl,rfl⟩) :
  Ry A l b dr j9 (⟨.Q3 x,none,none,u⟩::ops) T H n rl o7 Q:=fun hn=>Rx.Q3 (hx.op hn) (h2.to hn)
def mt {x:y6}{v:c8}{s:Nat}{T2:List c8}{u:List Nat}(hx:Oq T n rl x (v):=by exact ⟨rfl,rfl⟩)(hs:T[s]?.isSome=true:=by rfl)(hT:T.set s v=T2:=by simp only [List.set_cons_zero,List.set_cons_succ]<;>rfl)(h2:Ry A l b dr j9 ops T2 H (n+1) (v::rl) (.slot s::o7) Q) :
  Ry A l b dr j9 (⟨.Q3 x,some s,none,u⟩::ops) T H n rl o7 Q:=fun hn=>Rx.aF0 (hx.op hn) hs (by rw [hT];exact h2.to hn)
theorem mo {s z n0:Nat}{cs:List Data}{u:List Nat}(h2:Ry A l b dr j9 ops T H (n+1) (.d (.slice n0 cs)::rl) o7 Q)(hx:T[s]? =some (.own z n0 cs):=by rfl) :
  Ry A l b dr j9 (⟨.Q3 (.slot s),none,none,u⟩::ops) T H n rl o7 Q:=fun hn=>Rx.an1 hx (h2.to hn)
def mw {j s z n0:Nat}{cs:List Data}{u:List Nat}{T2:List c8}(hj:lk n rl j=some (.own z n0 cs):=by rfl)(hb:E3 (j+1) n=true:=by rfl)(hs:T[s]?.isSome=true:=by rfl)(hT:T.set s (.own z n0 cs)=T2:=by simp only [List.set_cons_zero,List.set_cons_succ]<;>rfl)
  (h2:Ry A l b dr j9 ops T2 H (n+1) (.d (.slice n0 cs)::rl.set (n - (j+1)) (.d (.slice n0 cs))) (.slot s::o7) Q):Ry A l b dr j9 (⟨.Q3 (.loc j),some s,none,u⟩::ops) T H n rl o7 Q:=fun hn=>by
 refine Rx.Un (by rw [gK hn];exact hj) hs ?_;have h3:=h2.to (by simp [hn]);simp_all [FO]
def ow {s z n0:Nat}{cs:List Data}{T2:List c8}{u:List Nat}(hs:T[s]?.isSome=true:=by rfl)(hT:T.set s (.own z n0 cs)=T2:=by simp only [List.set_cons_zero,List.set_cons_succ]<;>rfl)(h2:Ry A l b dr j9 ops T2 H (n+1) (.d (.slice n0 cs)::rl) (.slot s::o7) Q) :
  Ry A l b dr j9 (⟨.Q3 (.const (.own z n0 cs)),some s,none,u⟩::ops) T H n rl o7 Q:=fun hn=>Rx.aG1 hs (by rw [hT];exact h2.to hn)
def ad {x y:y6}{c d:Int}{u:List Nat}(h2:Ry A l b dr j9 ops T H (n+1) (.d (.int .i64 (c+d))::rl) o7 Q)(hx:rq T n rl x= .d (.int .i64 c):=by rfl)(hy:rq T n rl y= .d (.int .i64 d):=by rfl)(h0: -9223372036854775808<=c+d/\c+d<9223372036854775808:=by first|omega|(simp only [y7,Bool.and_eq_true,y3,s9,o6,beq_eq_false_iff_ne,beq_iff_eq,decide_eq_true_eq,decide_eq_false_iff_not,Bool.not_eq_true',Bool.not_eq_false'] at *;omega)) :
  Ry A l b dr j9 (⟨.bin .add x y,none,none,u⟩::ops) T H n rl o7 Q:=Ry.pure (rs:=[]) rfl (by simp_all [n9,EN]) h2
def sb {x y:y6}{c d:Int}{u:List Nat}(h2:Ry A l b dr j9 ops T H (n+1) (.d (.int .i64 (c - d))::rl) o7 Q)(hx:rq T n rl x= .d (.int .i64 c):=by rfl)(hy:rq T n rl y= .d (.int .i64 d):=by rfl)(h0: -9223372036854775808<=c - d/\c - d<9223372036854775808:=by first|omega|(simp only [y7,Bool.and_eq_true,y3,s9,o6,beq_eq_false_iff_ne,beq_iff_eq,decide_eq_true_eq,decide_eq_false_iff_not,Bool.not_eq_true',Bool.not_eq_false'] at *;omega)) :
  Ry A l b dr j9 (⟨.bin .sub x y,none,none,u⟩::ops) T H n rl o7 Q:=Ry.pure (rs:=[]) rfl (by simp_all [n9,EN]) h2
def li {x y:y6}{k:IntKind}{c d:Int}{u:List Nat}(h2:Ry A l b dr j9 ops T H (n+1) (.d (.bool (F0 c d))::rl) o7 Q)(hx:rq T n rl x= .d (.int k c):=by rfl)(hy:rq T n rl y= .d (.int k d):=by rfl) :
  Ry A l b dr j9 (⟨.bin .lss x y,none,none,u⟩::ops) T H n rl o7 Q:=Ry.pure (rs:=[]) rfl (by grind [n9,J8,U6,ak,y3,s9,o6,bne]) h2
def lo {x y:y6}{k:IntKind}{c d:Int}{u:List Nat}(h2:Ry A l b dr j9 ops T H (n+1) (.d (.bool (ah c d))::rl) o7 Q)(hx:rq T n rl x= .d (.int k c):=by rfl)(hy:rq T n rl y= .d (.int k d):=by rfl) :
  Ry A l b dr j9 (⟨.bin .leq x y,none,none,u⟩::ops) T H n rl o7 Q:=Ry.pure (rs:=[]) rfl (by grind [n9,J8,U6,ak,y3,s9,o6,bne]) h2
def gi {x y:y6}{k:IntKind}{c d:Int}{u:List Nat}(h2:Ry A l b dr j9 ops T H (n+1) (.d (.bool (F0 d c))::rl) o7 Q)(hx:rq T n rl x= .d (.int k c):=by rfl)(hy:rq T n rl y= .d (.int k d):=by rfl) :
  Ry A l b dr j9 (⟨.bin .gtr x y,none,none,u⟩::ops) T H n rl o7 Q:=Ry.pure (rs:=[]) rfl (by grind [n9,J8,U6,ak,y3,s9,o6,bne]) h2
def go {x y:y6}{k:IntKind}{c d:Int}{u:List Nat}(h2:Ry A l b dr j9 ops T H (n+1) (.d (.bool (ah d c))::rl) o7 Q)(hx:rq T n rl x= .d (.int k c):=by rfl)(hy:rq T n rl y= .d (.int k d):=by rfl) :
  Ry A l b dr j9 (⟨.bin .geq x y,none,none,u⟩::ops) T H n rl o7 Q:=Ry.pure (rs:=[]) rfl (by grind [n9,J8,U6,ak,y3,s9,o6,bne]) h2
def ei {x y:y6}{k:IntKind}{c d:Int}{u:List Nat}(h2:Ry A l b dr j9 ops T H (n+1) (.d (.bool (s8 c d))::rl) o7 Q)(hx:rq T n rl x= .d (.int k c):=by rfl)(hy:rq T n rl y= .d (.int k d):=by rfl) :
  Ry A l b dr j9 (⟨.bin .eql x y,none,none,u⟩::ops) T H n rl o7 Q:=Ry.pure (rs:=[]) rfl (by grind [n9,J8,U6,ak,y3,s9,o6,bne]) h2
def ni {x y:y6}{k:IntKind}{c d:Int}{u:List Nat}(h2:Ry A l b dr j9 ops T H (n+1) (.d (.bool (!s8 c d))::rl) o7 Q)(hx:rq T n rl x= .d (.int k c):=by rfl)(hy:rq T n rl y= .d (.int k d):=by rfl) :
  Ry A l b dr j9 (⟨.bin .neq x y,none,none,u⟩::ops) T H n rl o7 Q:=Ry.pure (rs:=[]) rfl (by grind [n9,J8,U6,ak,y3,s9,o6,bne]) h2
def es {x y:y6}{c d:List UInt8}{u:List Nat}(h2:Ry A l b dr j9 ops T H (n+1) (.d (.bool (M0 c d))::rl) o7 Q)(hx:rq T n rl x= .d (.str c):=by rfl)(hy:rq T n rl y= .d (.str d):=by rfl) :
  Ry A l b dr j9 (⟨.bin .eql x y,none,none,u⟩::ops) T H n rl o7 Q:=Ry.pure (rs:=[]) rfl (by grind [n9,J8,uC,H7]) h2
theorem ns {x y:y6}{c d:List UInt8}{u:List Nat}(h2:Ry A l b dr j9 ops T H (n+1) (.d (.bool (!M0 c d))::rl) o7 Q)(hx:rq T n rl x= .d (.str c):=by rfl)(hy:rq T n rl y= .d (.str d):=by rfl) :
  Ry A l b dr j9 (⟨.bin .neq x y,none,none,u⟩::ops) T H n rl o7 Q:=Ry.pure (rs:=[]) rfl (by grind [n9,J8,uC,H7]) h2
def ng {x:y6}{t:Bool}{u:List Nat}(h2:Ry A l b dr j9 ops T H (n+1) (.d (.bool (!t))::rl) o7 Q)(hx:rq T n rl x= .d (.bool t):=by rfl) :
  Ry A l b dr j9 (⟨.un .not x,none,none,u⟩::ops) T H n rl o7 Q:=Ry.pure (rs:=[]) rfl (by grind [n9,Bv]) h2
def ln {α:Type}{enc:α->List Data}{xs:List α}{x:y6}{u:List Nat}(h2:Ry A l b dr j9 ops T H (n+1) (.d (.int .i64 (xs.length:Int))::rl) o7 Q)(hx:rq T n rl x= .d (z8 enc xs):=by rfl) :
  Ry A l b dr j9 (⟨.len x,none,none,u⟩::ops) T H n rl o7 Q:=Ry.pure (rs:=[]) rfl (by grind [n9,z8,i64]) h2
def ls {x:y6}{m:Nat}{cs:List Data}{u:List Nat}(h2:Ry A l b dr j9 ops T H (n+1) (.d (.int .i64 (m:Int))::rl) o7 Q)(hx:rq T n rl x= .d (.slice m cs):=by rfl) :
  Ry A l b dr j9 (⟨.len x,none,none,u⟩::ops) T H n rl o7 Q:=Ry.pure (rs:=[]) rfl (by grind [n9,i64]) h2
def lnT {α:Type}{enc:α->List Data}{xs:List α}{x:y6}{s:Nat}{T2:List c8}{u:List Nat}(hx:rq T n rl x= .d (z8 enc xs):=by rfl)(hs:T[s]?.isSome=true:=by rfl)(hT:T.set s (.d (.int .i64 (xs.length:Int)))=T2:=by simp only [List.set_cons_zero,List.set_cons_succ]<;>rfl)(h2:Ry A l b dr j9 ops T2 H (n+1) (.d (.int .i64 (xs.length:Int))::rl) (.slot s::o7) Q) :
  Ry A l b dr j9 (⟨.len x,some s,none,u⟩::ops) T H n rl o7 Q:=Ry.vv (v:= .d (.int .i64 (xs.length:Int))) (rs:=[]) rfl (by grind [n9,z8,i64]) rfl rfl hs (by simp_all)
def ldT {c:Data}{cs:List Data}{x:y6}{s:Nat}{T2:List c8}{u:List Nat}(hx:rq T n rl x= .S7 (c::cs):=by rfl)(hs:T[s]?.isSome=true:=by rfl)(hT:T.set s (.d c)=T2:=by simp only [List.set_cons_zero,List.set_cons_succ]<;>rfl)(h2:Ry A l b dr j9 ops T2 H (n+1) (.d c::rl) (.slot s::o7) Q) :
  Ry A l b dr j9 (⟨.load none x,some s,none,u⟩::ops) T H n rl o7 Q:=Ry.vv (v:= .d c) (rs:=[]) rfl (by grind [n9]) rfl rfl hs (by simp_all)
def lpT {v:c8}{id o:Nat}{x:y6}{s:Nat}{T2:List c8}{u:List Nat}(hx:rq T n rl x= .ptr id o:=by rfl)(hr:rd H id o 1=some [v]:=by rfl)(hv:v.J2=v:=by rfl)(hs:T[s]?.isSome=true:=by rfl)(hT:T.set s v=T2:=by simp only [List.set_cons_zero,List.set_cons_succ]<;>rfl)(h2:Ry A l b dr j9 ops T2 H (n+1) (v::rl) (.slot s::o7) Q) :
  Ry A l b dr j9 (⟨.load none x,some s,none,u⟩::ops) T H n rl o7 Q:=Ry.vv (v:=v) (rs:=[id]) rfl (by simp_all [n9]) hv rfl hs (by simp_all)
def lt {x:y6}{s:List UInt8}{u:List Nat}(h2:Ry A l b dr j9 ops T H (n+1) (.d (.int .i64 (s.length:Int))::rl) o7 Q)(hx:rq T n rl x= .d (.str s):=by rfl) :
  Ry A l b dr j9 (⟨.V5 x,none,none,u⟩::ops) T H n rl o7 Q:=Ry.pure (rs:=[]) rfl (by grind [n9,i64]) h2
def ix {α:Type} [Inhabited α] {enc:α->List Data}{xs:List α}{sz i:Nat}{x y:y6}{k:IntKind}{u:List Nat}(hx:rq T n rl x= .d (z8 enc xs):=by rfl)(hy:rq T n rl y= .d (.int k ((i:Nat):Int)):=by rfl)(hs:∀ a,(enc a).length=sz:=by intro;rfl)(hi:i<xs.length:=by first|omega|(simp only [y7,Bool.and_eq_true,y3,s9,o6,beq_eq_false_iff_ne,beq_iff_eq,decide_eq_true_eq,decide_eq_false_iff_not,Bool.not_eq_true',Bool.not_eq_false'] at *;omega))(h2:Ry A l b dr j9 ops T H (n+1) (.S7 (enc (nth xs i)++(xs.drop (i+1)).flatMap enc)::rl) o7 Q) :
  Ry A l b dr j9 (⟨.D5 sz x y,none,none,u⟩::ops) T H n rl o7 Q:=Ry.pure (rs:=[]) rfl (by
  have h3:=Te hs xs i hi;simp_all [I9,n9,z8,Int.natCast_nonneg,and_self,if_true]) h2
def ixN {α:Type} [Inhabited α] {enc:α->List Data}{xs:List α}{sz i:Nat}{x y:y6}{k:IntKind}{u:List Nat}(hx:rq T n rl x= .d (z8 enc xs):=by rfl)(hy:rq T n rl y= .d (.int k (OfNat.ofNat i)):=by rfl)(hs:∀ a,(enc a).length=sz:=by intro;rfl)(hi:i<xs.length:=by first|omega|(simp only [y7,Bool.and_eq_true,y3,s9,o6,beq_eq_false_iff_ne,beq_iff_eq,decide_eq_true_eq,decide_eq_false_iff_not,Bool.not_eq_true',Bool.not_eq_false'] at *;omega))(h2:Ry A l b dr j9 ops T H (n+1) (.S7 (enc (nth xs i)++(xs.drop (i+1)).flatMap enc)::rl) o7 Q) :
  Ry A l b dr j9 (⟨.D5 sz x y,none,none,u⟩::ops) T H n rl o7 Q:=ix hx hy hs hi h2
def ixI {α:Type} [Inhabited α] {enc:α->List Data}{xs:List α}{sz:Nat}{e:Int}{x y:y6}{k:IntKind}{u:List Nat}(i:Nat)(he:e=i:=by first|omega|(simp only [y7,Bool.and_eq_true,y3,s9,o6,beq_eq_false_iff_ne,beq_iff_eq,decide_eq_true_eq,decide_eq_false_iff_not,Bool.not_eq_true',Bool.not_eq_false'] at *;omega))(hx:rq T n rl x= .d (z8 enc xs):=by rfl)(hy:rq T n rl y= .d (.int k e):=by rfl)(hs:∀ a,(enc a).length=sz:=by intro;rfl)(hi:i<xs.length:=by first|omega|(simp only [y7,Bool.and_eq_true,y3,s9,o6,beq_eq_false_iff_ne,beq_iff_eq,decide_eq_true_eq,decide_eq_false_iff_not,Bool.not_eq_true',Bool.not_eq_false'] at *;omega))(h2:Ry A l b dr j9 ops T H (n+1) (.S7 (enc (nth xs i)++(xs.drop (i+1)).flatMap enc)::rl) o7 Q) :
  Ry A l b dr j9 (⟨.D5 sz x y,none,none,u⟩::ops) T H n rl o7 Q:=ix hx (he ▸ hy) hs hi h2
def ixZ {α:Type} [Inhabited α] {enc:α->List Data}{xs:List α}{sz:Nat}{e:Int}{x y:y6}{k:IntKind}{u:List Nat}(hx:rq T n rl x= .d (z8 enc xs):=by rfl)(hy:rq T n rl y= .d (.int k e):=by rfl)(hs:∀ a,(enc a).length=sz:=by intro;rfl)(hi:0<=e/\e<xs.length:=by first|omega|(simp only [y7,Bool.and_eq_true,y3,s9,o6,beq_eq_false_iff_ne,beq_iff_eq,decide_eq_true_eq,decide_eq_false_iff_not,Bool.not_eq_true',Bool.not_eq_false'] at *;omega))(h2:Ry A l b dr j9 ops T H (n+1) (.S7 (enc (nth xs e.toNat)++(xs.drop (e.toNat+1)).flatMap enc)::rl) o7 Q) :
  Ry A l b dr j9 (⟨.D5 sz x y,none,none,u⟩::ops) T H n rl o7 Q:=ix hx (by rw [hy,Int.toNat_of_nonneg hi.1]) hs (by omega) h2
def ld {x:y6}{c:Data}{cs:List Data}{u:List Nat}(h2:Ry A l b dr j9 ops T H (n+1) (.d c::rl) o7 Q)(hx:rq T n rl x= .S7 (c::cs):=by rfl) :
  Ry A l b dr j9 (⟨.load none x,none,none,u⟩::ops) T H n rl o7 Q:=Ry.pure (rs:=[]) rfl (by grind [n9]) h2
def le {x:y6}{cs rest:List Data}{m:Nat}{u:List Nat}(h2:Ry A l b dr j9 ops T H (n+1) (.agg (cs.map .d)::rl) o7 Q)(hx:rq T n rl x= .S7 (cs++rest):=by rfl)(hm:cs.length=m:=by rfl) :
  Ry A l b dr j9 (⟨.load (some m) x,none,none,u⟩::ops) T H n rl o7 Q:=Ry.pure (rs:=[]) rfl (by simp_all [n9]) h2
def lf {x:y6}{k:Nat}{cs:List Data}{u:List Nat}(h2:Ry A l b dr j9 ops T H (n+1) (.S7 (cs.drop k)::rl) o7 Q)(hx:rq T n rl x= .S7 cs:=by rfl) :
  Ry A l b dr j9 (⟨.off k x,none,none,u⟩::ops) T H n rl o7 Q:=Ry.pure (rs:=[]) rfl (by grind [n9]) h2
def fp {x:y6}{k id o:Nat}{u:List Nat}(h2:Ry A l b dr j9 ops T H (n+1) (.ptr id (o+k)::rl) o7 Q)(hx:rq T n rl x= .ptr id o:=by rfl) :
  Ry A l b dr j9 (⟨.off k x,none,none,u⟩::ops) T H n rl o7 Q:=Ry.pure (rs:=[]) rfl (by grind [n9]) h2
def lp {x:y6}{id o:Nat}{v:c8}{u:List Nat}(h2:Ry A l b dr j9 ops T H (n+1) (v::rl) o7 Q)(hx:rq T n rl x= .ptr id o:=by rfl)(hr:rd H id o 1=some [v]:=by rfl)(hv:v.J2=v:=by rfl) :
  Ry A l b dr j9 (⟨.load none x,none,none,u⟩::ops) T H n rl o7 Q:=Ry.pure (rs:=[id]) rfl (by simp_all [n9]) h2
def lpo {x:y6}{id o z m:Nat}{cs:List Data}{u:List Nat}(h2:Ry A l b dr j9 ops T H (n+1) (.d (.slice m cs)::rl) o7 Q)(hx:rq T n rl x= .ptr id o:=by rfl)(hr:rd H id o 1=some [.own z m cs]:=by rfl) :
  Ry A l b dr j9 (⟨.load none x,none,none,u⟩::ops) T H n rl o7 Q:=Ry.pure (rs:=[id]) rfl (by simp_all [n9,c8.J2]) h2
def lq {x:y6}{m id:Nat}{cs:List c8}{u:List Nat}(h2:Ry A l b dr j9 ops T H (n+1) (.agg cs::rl) o7 Q)(hx:rq T n rl x= .ptr id 0:=by rfl)(hr:H[id]? =some (.cells cs):=by rfl)(hm:cs.length=m:=by rfl)(hv:cs.map c8.J2=cs:=by rfl) :
  Ry A l b dr j9 (⟨.load (some m) x,none,none,u⟩::ops) T H n rl o7 Q:=Ry.pure (rs:=[id]) rfl (by simp_all [n9,rd]<;>grind) h2
def et {x:y6}{i:Nat}{vs:List c8}{v:c8}{u:List Nat}(h2:Ry A l b dr j9 ops T H (n+1) (v::rl) o7 Q)(hx:rq T n rl x= .tuple vs:=by rfl)(hv:vs[i]? =some v:=by rfl) :
  Ry A l b dr j9 (⟨.extract x i,none,none,u⟩::ops) T H n rl o7 Q:=Ry.pure (rs:=[]) rfl (by simp_all [n9]) h2
def wa {op:z6}{dst:Option Nat}{j:Nat}{want:Bool}{u:List Nat}(h2:Ry A l b dr j9 (⟨op,dst,none,u⟩::ops) T H n rl o7 Q)(h:lk n rl j=some (.d (.bool want)):=by rfl) :
  Ry A l b dr j9 (⟨op,dst,some (j,want),u⟩::ops) T H n rl o7 Q:=fun hn=>Rx.wanted (by rw [gK hn];exact h) (by simp) (h2 hn)
def sk {op:z6}{j:Nat}{want:Bool}{u:List Nat}(h2:Ry A l b dr j9 ops T H (n+1) (.tuple []::rl) o7 Q)(h:lk n rl j=some (.d (.bool (!want))):=by rfl)(hk:∀ L,F1 ⟨T,H,L,o7⟩ op=false:=by intro;rfl)(ha:op.z7=false:=by rfl) :
  Ry A l b dr j9 (⟨op,none,some (j,want),u⟩::ops) T H n rl o7 Q:=fun hn=>Rx.Zu (by rw [gK hn];exact h) (by simp_all) (hk _) ha (h2.to hn)
def st {op:z6}{j:Nat}{want:Bool}{u:List Nat}(h2:Ry A l b dr j9 ops T H (n+1) (.tuple []::rl) o7 Q)(h:lk n rl j=some (.tuple []):=by rfl)(hk:∀ L,F1 ⟨T,H,L,o7⟩ op=false:=by intro;rfl)(ha:op.z7=false:=by rfl) :
  Ry A l b dr j9 (⟨op,none,some (j,want),u⟩::ops) T H n rl o7 Q:=fun hn=>Rx.Vx (by simp_all [gK]) (hk _) ha (h2.to hn)
def fk {op:z6}{dst:Option Nat}{j:Nat}{want w:Bool}{r1 r2:List c8}{u:List Nat}(h:lk n rl j=some (.d (.bool w)):=by rfl)(hj:E3 (j+1) n=true:=by rfl)(ht:rl.set (n - (j+1)) (.d (.bool true))=r1:=by simp only [Nat.reduceAdd,Nat.reduceSub,List.set_cons_zero,List.set_cons_succ]<;>rfl)(hf:rl.set (n - (j+1)) (.d (.bool false))=r2:=by simp only [Nat.reduceAdd,Nat.reduceSub,List.set_cons_zero,List.set_cons_succ]<;>rfl)(h1:w=true->Ry A l b dr j9 (⟨op,dst,some (j,want),u⟩::ops) T H n r1 o7 Q)(h2:w=false->Ry A l b dr j9 (⟨op,dst,some (j,want),u⟩::ops) T H n r2 o7 Q) :
  Ry A l b dr j9 (⟨op,dst,some (j,want),u⟩::ops) T H n rl o7 Q:=Ry.fork h hj (fun e=>by simp_all) (fun e=>by simp_all)
def pt {c x y:y6}{v:c8}{u:List Nat}(h2:Ry A l b dr j9 ops T H (n+1) (v::rl) o7 Q)(hc:rq T n rl c= .d (.bool true):=by rfl)(hx:Oq T n rl x (v):=by exact ⟨rfl,rfl⟩) :
  Ry A l b dr j9 (⟨.pick c x y,none,none,u⟩::ops) T H n rl o7 Q:=Ry.pure (rs:=[]) rfl (by simp [n9,hc,hx.rq]) h2
def pk {c x y:y6}{v:c8}{u:List Nat}(h2:Ry A l b dr j9 ops T H (n+1) (v::rl) o7 Q)(hc:rq T n rl c= .d (.bool false):=by rfl)(hy:Oq T n rl y (v):=by exact ⟨rfl,rfl⟩) :
  Ry A l b dr j9 (⟨.pick c x y,none,none,u⟩::ops) T H n rl o7 Q:=Ry.pure (rs:=[]) rfl (by simp [n9,hc,hy.rq]) h2
def bx {x:y6}{u:List Nat}{v:c8}{cs:List c8}{s id:Nat}{T2:List c8}{H2:o9}(hx:Oq T n rl x v:=by exact ⟨rfl,rfl⟩)(hc:v.cells? =some cs:=by rfl)(hs:T[s]?.isSome=true:=by rfl)
  (hi:H.length=id:=by simp only [List.length_cons,List.length_nil,Nat.reduceAdd]<;>rfl) (hT:T.set s (.ptr id 0)=T2:=by simp only [List.set_cons_zero,List.set_cons_succ]<;>rfl) (hH:H++[.cells cs]=H2:=by simp only [List.cons_append,List.nil_append]<;>rfl)
  (h2:Ry A l b false j9 ops T2 H2 (n+1) (.ptr id 0::rl) (.slot s::o7) Q):Ry A l b false j9 (⟨.box x,some s,none,u⟩::ops) T H n rl o7 Q:=fun hn=>by
 subst hi;exact Rx.ay7 (hx.op hn) hc hs (by rw [hT,hH];exact h2.to hn)
def ac {zero:List c8}{u:List Nat}{s id:Nat}{T2:List c8}{H2:o9}(hs:T[s]?.isSome=true:=by rfl)
  (hi:H.length=id:=by simp only [List.length_cons,List.length_nil,Nat.reduceAdd]<;>rfl) (hT:T.set s (.ptr id 0)=T2:=by simp only [List.set_cons_zero,List.set_cons_succ]<;>rfl) (hH:H++[.cells zero]=H2:=by simp only [List.cons_append,List.nil_append]<;>rfl)
  (h2:Ry A l b false j9 ops T2 H2 (n+1) (.ptr id 0::rl) (.slot s::o7) Q):Ry A l b false j9 (⟨.alloc zero,some s,none,u⟩::ops) T H n rl o7 Q:=fun hn=>by
 have hs:s<T.length:=by
  simp_all
 have h2:=h2.to hn;refine Rx.stepT (N1:=0) (rs:=[]) rfl (fun n _=> ?_) h2;simp_all [u9,u5,D6,z6.C8,if_true,E6,L7,newId,Option.getD_none,put,K6,r9,E5,x9.E1,x9.I5,c8.J2]
def kV {m id off:Nat}{x y:y6}{u:List Nat}{v:c8}{cs:List c8}{H2:o9}(hy:rq T n rl y= .ptr id off)(hx:Oq T n rl x v)(hc:v.cells? =some cs)(hm:cs.length=m)(hl:l.may id=true)(hb:A4 cs<=id+1)
  (hw:wr H id off cs=some H2) (h2:Ry A l b false j9 ops T H2 (n+1) (.any::rl) (.obj id::o7) Q):Ry A l b false j9 (⟨.store m y x,none,none,u⟩::ops) T H n rl o7 Q:=fun hn=>by
 refine Rx.stepT (N1:=0) (rs:=[]) rfl (fun k _=> ?_) (h2.to hn);have hl' :(K8 A k l b).lim.may id=true:=hl;simp [u9,u5,D6,z6.C8,if_true,E6,W6 hn,hy,Q8,(hx.op hn).E1,hc,hm,hl',hb,true_or,and_self,hw,put,K6,r9,E5]
def so {m id:Nat}{x y:y6}{u:List Nat}{v:c8}{cs old:List c8}{H2:o9}(hy:rq T n rl y= .ptr id 0:=by rfl)(hx:Oq T n rl x v:=by exact ⟨rfl,rfl⟩)(hc:v.cells? =some cs:=by rfl)(hm:cs.length=m:=by rfl)(hl:l.may id=true:=by rfl)(hb:A4 cs=0:=by rfl)
  (ho:H[id]? =some (.cells old):=by rfl) (hq:old.length=m:=by rfl) (hH:H.set id (.cells cs)=H2:=by simp only [List.set_cons_zero,List.set_cons_succ]<;>rfl)
  (h2:Ry A l b false j9 ops T H2 (n+1) (.any::rl) (.obj id::o7) Q):Ry A l b false j9 (⟨.store m y x,none,none,u⟩::ops) T H n rl o7 Q :=
 kV hy hx hc hm hl (by omega) (by simp_all [wr,splice,l5]) h2
def MV {m id off:Nat}{x y:y6}{u:List Nat}{v:c8}{cs:List c8}{H2:o9}(hd:E3 (uF j9) n=true)(hy:rq T n rl y= .ptr id off)(hx:Oq T n rl x v)(hc:v.cells? =some cs)(hm:cs.length=m)(hl:l.may id=true)(hb:A4 cs<=id+1)
  (hw:wr H id off cs=some H2) (h2:Ry A l b dr j9 ops T H2 (n+1) (.any::rl) (.obj id::o7) Q):Ry A l b dr j9 (⟨.store m y x,none,none,u⟩::ops) T H n rl o7 Q:=fun hn=>by
 refine Rx.JB (N1:=0) (rs:=[]) rfl rfl rfl (fun k _=> ?_) (fun h=> ?_) (h2.to hn)
 .have hl' :(K8 A k l b).lim.may id=true:=hl
  simp [u9,u5,D6,z6.C8,if_true,E6,W6 hn,hy,Q8,(hx.op hn).E1,hc,hm,hl',hb,true_or,and_self,hw,put,K6,r9,E5]
 simp_all<;>omega
def so1 {id off:Nat}{x y:y6}{u:List Nat}{v:c8}{old new:List c8}{H2:o9}(hy:rq T n rl y= .ptr id off:=by rfl)(hx:Oq T n rl x v:=by exact ⟨rfl,rfl⟩)(hc:v.cells? =some [v]:=by rfl)(hl:l.may id=true:=by rfl)(hb:v.K5<=id+1:=by decide)
  (ho:H[id]? =some (.cells old):=by rfl) (hq:off<old.length:=by decide) (hN:old.set off v=new:=by first|(simp only [List.set_cons_zero,List.set_cons_succ];done)|rfl) (hH:H.set id (.cells new)=H2:=by simp only [List.set_cons_zero,List.set_cons_succ]<;>rfl)
  (h2:Ry A l b false j9 ops T H2 (n+1) (.any::rl) (.obj id::o7) Q):Ry A l b false j9 (⟨.store 1 y x,none,none,u⟩::ops) T H n rl o7 Q :=
 kV hy hx hc rfl hl (by simp_all [A4]) (by
  have h1:splice old off [v]=old.set off v:=by
   simp_all [splice,List.length_singleton,List.set_eq_take_append_cons_drop,if_pos]
  grind [wr]) h2
def o1 {x:y6}{z c:Data}{u:List Nat}(h2:Ry A l b dr j9 ops T H (n+1) (.own 1 1 [c]::rl) o7 Q)(hx:rq T n rl x= .d c:=by rfl) :
  Ry A l b dr j9 (⟨.A2 1 1 [.d z] [(0,1,x)] false,none,none,u⟩::ops) T H n rl o7 Q:=Ry.pure (rs:=[]) rfl (by simp [n9,bA,hx,c8.cells?,splice,M6,c8.data?,c8.one]) h2
def ap1 {α:Type}{enc:α->List Data}{xs:List α}{j s bytes n' :Nat}{y:y6}{u' :List Nat}{d' :Option Nat}{g' :Option (Nat×Bool)}{cs' :List Data}{T2:List c8}{a:α}{c:Data}{u:List Nat}(hj:lk n rl j=some (.d (.slice n' cs')):=by rfl)(ha:j9[j]? =some ⟨.Q3 (.slot s),d',g',u'⟩:=by rfl)(ht:o7.any (Touch.S4 s)=false:=by rfl)(hT:T[s]? =some (C4 1 enc xs):=by rfl)(hy:rq T n rl y= .d (.slice 1 [c]):=by rfl)(he:enc a=[c]:=by rfl)(hr:roomFor (xs.length+1) bytes=true:=by simp only [roomFor,decide_eq_true_eq,List.length_append,List.length_cons,List.length_nil,List.length_take,List.length_drop,List.length_map] at * <;>omega)(hS:T.set s (.d (z8 enc xs))=T2:=by simp only [List.set_cons_zero,List.set_cons_succ]<;>rfl)(h2:Ry A l b dr j9 ops T2 H (n+1) (C4 1 enc (xs++[a])::rl) (.slot s::o7) Q) :
  Ry A l b dr j9 (⟨.append 1 bytes false (.loc j) y,none,none,u⟩::ops) T H n rl o7 Q:=Ry.ay5 hj ha ht hT hy rfl hr (by decide) (by
  simp_all [C4,z8])
def ZY {α:Type}{enc:α->List Data}{xs:List α}{j s sz bytes n' :Nat}{y:y6}{u' :List Nat}{d' :Option Nat}{g' :Option (Nat×Bool)}{cs' :List Data}{T2:List c8}{ys:List α}{u:List Nat}(hj:lk n rl j=some (.d (.slice n' cs')):=by rfl)(ha:j9[j]? =some ⟨.Q3 (.slot s),d',g',u'⟩:=by rfl)(ht:o7.any (Touch.S4 s)=false:=by rfl)(hT:T[s]? =some (C4 sz enc xs):=by rfl)(hy:rq T n rl y= .d (z8 enc ys):=by rfl)(hs:∀ a,(enc a).length=sz:=by intro;rfl)(h0:0<sz:=by decide)(hr:roomFor (xs.length+ys.length) bytes=true:=by simp only [roomFor,decide_eq_true_eq,List.length_append,List.length_cons,List.length_nil,List.length_take,List.length_drop,List.length_map] at * <;>omega)(hS:T.set s (.d (z8 enc xs))=T2:=by simp only [List.set_cons_zero,List.set_cons_succ]<;>rfl)(h2:Ry A l b dr j9 ops T2 H (n+1) (C4 sz enc (xs++ys)::rl) (.slot s::o7) Q) :
  Ry A l b dr j9 (⟨.append sz bytes false (.loc j) y,none,none,u⟩::ops) T H n rl o7 Q:=Ry.ay5 hj ha ht hT hy (au hs ys) hr h0 (by
  simp_all [C4,z8])
theorem e0 {u:List Nat}(h2:Ry A l b dr j9 ops T H (n+1) (.own 1 0 []::rl) o7 Q) :
  Ry A l b dr j9 (⟨.A2 1 0 [] [] false,none,none,u⟩::ops) T H n rl o7 Q:=Ry.pure (rs:=[]) rfl (by rfl) h2
def cl {f:FuncId}{xs:List y6}{u:List Nat}{v:c8}{args:List c8}(hc:Pf A f args v)(h2:Ry A l b dr j9 ops T H (n+1) (v::rl) o7 Q)(ha:xs.map (rq T n rl)=args:=by rfl)(gj:A.prom f=false:=by rfl)(hm:A.mode f=1:=by rfl)
  (hb:A4 args=0:=by rfl):Ry A l b dr j9 (⟨.call f xs,none,none,u⟩::ops) T H n rl o7 Q:=fun hn =>
 Rx.call gj hm (fun m=>by rw [show x9.I5 T (rl.reverse++ .any::c9 m .any)=rq T n rl from funext fun x=>W6 hn m x];exact ha) hb hc (h2.to hn)
def rV {zero:List c8}{parts:List (Nat×Nat×y6)}{cs:List c8}{u:List Nat}(h2:Ry A l b dr j9 ops T H (n+1) (.agg cs::rl) o7 Q)(hr:bA zero (parts.map fun p=>(p.1,p.2.1,rq T n rl p.2.2))=some cs:=by rfl) :
  Ry A l b dr j9 (⟨.build zero parts,none,none,u⟩::ops) T H n rl o7 Q:=Ry.pure (rs:=[]) rfl (by grind [n9]) h2
def xs {s:List UInt8}{i:Nat}{x y:y6}{k:IntKind}{u:List Nat}(hx:rq T n rl x= .d (.str s):=by rfl)(hy:rq T n rl y= .d (.int k ((i:Nat):Int)):=by rfl)(hi:i<s.length:=by first|omega|(simp only [y7,Bool.and_eq_true,y3,s9,o6,beq_eq_false_iff_ne,beq_iff_eq,decide_eq_true_eq,decide_eq_false_iff_not,Bool.not_eq_true',Bool.not_eq_false'] at *;omega))(h2:Ry A l b dr j9 ops T H (n+1) (.d (.int .u8 ((nth s i).toNat:Int))::rl) o7 Q) :
  Ry A l b dr j9 (⟨.J6 x y,none,none,u⟩::ops) T H n rl o7 Q:=Ry.pure (rs:=[]) rfl (by simp_all [n9,l6,I9]) h2
def qs {neg t:Bool}{ks:List CK}{x y:y6}{va vb:List c8}{u:List Nat}(h2:Ry A l b dr j9 ops T H (n+1) (.d (.bool (neg != t))::rl) o7 Q)(hx:rq T n rl x= .agg va:=by rfl)(hy:rq T n rl y= .agg vb:=by rfl)(hr:P5 ks va vb=some t:=by rfl) :
  Ry A l b dr j9 (⟨.Hv neg ks x y,none,none,u⟩::ops) T H n rl o7 Q:=Ry.pure (rs:=[]) rfl (by simp_all [n9]) h2
def qb {neg s t:Bool}{x y:y6}{u:List Nat}(h2:Ry A l b dr j9 ops T H (n+1) (.d (.bool (neg != (s==t)))::rl) o7 Q)(hx:rq T n rl x= .d (.bool s):=by rfl)(hy:rq T n rl y= .d (.bool t):=by rfl) :
  Ry A l b dr j9 (⟨.s8 neg x y,none,none,u⟩::ops) T H n rl o7 Q:=Ry.pure (rs:=[]) rfl (by simp_all [n9]) h2
def mm {isMax:Bool}{xs:List y6}{c d:Data}{r:List c8}{u:List Nat}(h2:Ry A l b dr j9 ops T H (n+1) (.d d::rl) o7 Q)(ha:xs.map (rq T n rl)= .d c::r:=by rfl)(hr:ey isMax c r=some d:=by rfl) :
  Ry A l b dr j9 (⟨.gL isMax xs,none,none,u⟩::ops) T H n rl o7 Q:=Ry.pure (rs:=[]) rfl (by simp_all [n9]) h2
def ip {m sz i:Nat}{x y:y6}{k:IntKind}{cs:List Data}{u:List Nat}(h2:Ry A l b dr j9 ops T H (n+1) (.S7 (cs.drop (i * sz))::rl) o7 Q)(hx:rq T n rl x= .S7 cs:=by rfl)(hy:rq T n rl y= .d (.int k ((i:Nat):Int)):=by rfl)(hi:i<m:=by omega) :
  Ry A l b dr j9 (⟨.gJ m sz x y,none,none,u⟩::ops) T H n rl o7 Q:=Ry.pure (rs:=[]) rfl (by
  simp_all [n9]) h2
def svh {α:Type} [Inhabited α] {enc:α->List Data}{xs:List α}{sz i:Nat}{x y:y6}{k:IntKind}{u:List Nat}(hx:rq T n rl x= .d (z8 enc xs):=by rfl)(hy:rq T n rl y= .d (.int k ((i:Nat):Int)):=by rfl)(hs:∀ a,(enc a).length=sz:=by intro;rfl)(hi:i<=xs.length:=by first|omega|(simp only [y7,Bool.and_eq_true,y3,s9,o6,beq_eq_false_iff_ne,beq_iff_eq,decide_eq_true_eq,decide_eq_false_iff_not,Bool.not_eq_true',Bool.not_eq_false'] at *;omega))(h2:Ry A l b dr j9 ops T H (n+1) (.d (z8 enc (xs.take i))::rl) o7 Q) :
  Ry A l b dr j9 (⟨.Y8 sz x none (some y),none,none,u⟩::ops) T H n rl o7 Q:=Ry.pure (rs:=[]) rfl (by
  have h1:=AS hs xs 0 i (Nat.zero_le _) hi
  grind [au,z8,n9,W7]) h2
def svb {α:Type} [Inhabited α] {enc:α->List Data}{xs:List α}{sz i j:Nat}{x y z:y6}{k k' :IntKind}{u:List Nat}(hx:rq T n rl x= .d (z8 enc xs):=by rfl)(hy:rq T n rl y= .d (.int k ((i:Nat):Int)):=by rfl)(hz:rq T n rl z=(.d (.int k' ((j:Nat):Int))):=by rfl)(hs:∀ a,(enc a).length=sz:=by intro;rfl)(hij:i<=j/\j<=xs.length:=by first|omega|(simp only [y7,Bool.and_eq_true,y3,s9,o6,beq_eq_false_iff_ne,beq_iff_eq,decide_eq_true_eq,decide_eq_false_iff_not,Bool.not_eq_true',Bool.not_eq_false'] at *;omega))(h2:Ry A l b dr j9 ops T H (n+1) (.d (z8 enc ((xs.take j).drop i))::rl) o7 Q) :
  Ry A l b dr j9 (⟨.Y8 sz x (some y) (some z),none,none,u⟩::ops) T H n rl o7 Q:=Ry.pure (rs:=[]) rfl (by
  have h1:=AS hs xs i j hij.1 hij.2;have h3:(xs.flatMap enc).length=xs.length * sz:=au hs xs;simp_all [z8,n9,W7,Int.natCast_nonneg,and_self,if_true,Int.toNat_natCast]) h2
end S
end
def vq (z:Nat):List c8->o9->F2->Option (c8×o9)
 |[.N7,.d (.int .i64 n)],H,_=>if 0<n/\n<=1000000 then some (.own z 0 [],H) else none
 |_,_,_=>none
def rowOf (z:Nat)(H:o9):c8->Option (Nat×List Data)
 | .d (.slice n cs)=>if cs.length=n * z then some (n,cs) else none
 | .A8 id z' lo n=>if z' =z then match rd H id lo (n * z) with
   |some vs=>match M6 vs with
    |some cs=>some (n,cs)
    |none=>none
   |none=>none
  else none
 |_=>none
def Mt (z:Nat):List c8->o9->F2->Option (c8×o9)
 |[x],H,_=>match rowOf z H x with
  |some (0,_)=>some (.d (.slice 0 []),H)
  |some (n+1,cs)=>if n<1000000 then some (.own z (n+1) cs,H) else none
  |none=>none
 |_,_,_=>none
def rK:List (Key×c8)->Option (List (Int×Int))
 |[]=>some []
 |(.st [.i .i64 a,.i .i64 b],_)::r=>match rK r with
  |some l=>some ((a,b)::l)
  |none=>none
 |_=>none
def cU:List (Int×Int)->List Data
 |[]=>[]
 |(a,b)::r=> .int .i64 a:: .int .i64 b::cU r
def ints (l:List Int):Data:=z8 (fun n=>[num n]) l
def hasB (l:List Int)(n:Int):Bool:=l.any fun x=>s8 x n
section
variable {A:Prog} {l:F2} {b:Nat}
variable {dr:Bool} {j9 ops:List p6} {T:List c8} {H:o9} {n:Nat} {rl:List c8} {o7:List Touch} {Q:List c8->o9->List c8->Prop}
namespace S
def bxn {x:y6}{u:List Nat}{v:c8}{cs:List c8}{id:Nat}{H2:o9}(hx:Oq T n rl x v:=by exact ⟨rfl,rfl⟩)(hc:v.cells? =some cs:=by rfl)
  (hi:H.length=id:=by simp only [List.length_cons,List.length_nil,Nat.reduceAdd]<;>rfl) (hH:H++[.cells cs]=H2:=by simp only [List.cons_append,List.nil_append]<;>rfl)
  (h2:Ry A l b false j9 ops T H2 (n+1) (.ptr id 0::rl) o7 Q):Ry A l b false j9 (⟨.box x,none,none,u⟩::ops) T H n rl o7 Q:=fun hn=>by
 subst hi;have h2:=h2.to hn;rw [<- hH] at h2;refine Rx.stepT (N1:=0) (rs:=[]) rfl (fun n _=> ?_) h2;simp only [u9,u5,D6,z6.C8,if_true,E6,(hx.op hn).I5,hc,L7,newId,Option.getD_none,put,K6,r9,E5]
def nk {x:y6}{u:List Nat}{id o:Nat}(h2:Ry A l b dr j9 ops T H (n+1) (.ptr id o::rl) o7 Q)(hx:rq T n rl x= .ptr id o:=by rfl):Ry A l b dr j9 (⟨.aU x,none,none,u⟩::ops) T H n rl o7 Q :=
 Ry.pure (rs:=[]) rfl (by simp only [n9,hx]) h2
def mu {x y:y6}{u:List Nat}{c d:Int}(h2:Ry A l b dr j9 ops T H (n+1) (.d (.int .i64 (c * d))::rl) o7 Q)(h0: -9223372036854775808<=c * d/\c * d<9223372036854775808)(hx:rq T n rl x= .d (.int .i64 c):=by rfl)(hy:rq T n rl y= .d (.int .i64 d):=by rfl) :
  Ry A l b dr j9 (⟨.bin .mul x y,none,none,u⟩::ops) T H n rl o7 Q :=
 Ry.pure (rs:=[]) rfl (by simp [n9,hx,hy,J8,U6,ak,wrap_small h0.1 h0.2]) h2
def ipM {m sz i:Nat}{x y:y6}{u:List Nat}{k:IntKind}{cs:List Data}(h2:Ry A l b dr j9 ops T H (n+1) (.S7 (cs.drop (i * sz))::rl) o7 Q)(hx:rq T n rl x= .S7 cs:=by rfl)(hy:rq T n rl y= .d (.int k (OfNat.ofNat i)):=by rfl)
  (hi:i<m:=by decide):Ry A l b dr j9 (⟨.gJ m sz x y,none,none,u⟩::ops) T H n rl o7 Q:=ip h2 hx hy hi
end S
def Ex.T7 {mask:List Bool}{body:q9}{R:F7->St->Prop}(Inv:Nat->List c8->o9->Prop)
  (hb:∀ k T' H',Inv k T' H' ->Ex A l b body ⟨T',H'⟩ (zV R fun s=>∃ k',k' <k/\∃ T2 H2,clean mask l.strict H.length s=⟨T2,H2⟩/\Inv k' T2 H2)) {k:Nat} (h:Inv k (U9 mask T) H):Ex A l b (.loop mask body) ⟨T,H⟩ R:=by
 refine Ex.loop (fun k s=>∃ T2 H2,clean mask l.strict H.length s=⟨T2,H2⟩/\Inv k T2 H2) (fun k s ⟨T2,H2,e,hs⟩=> ?_) (k:=k) ⟨U9 mask T,H,CJ rfl,h⟩;rw [e];exact hb k T2 H2 hs
end
section
variable {A:Prog} {l:F2} {b:Nat}
variable {dr:Bool} {j9 ops:List p6} {T:List c8} {H:o9} {n:Nat} {rl:List c8} {o7:List Touch} {Q:List c8->o9->List c8->Prop}
def Ex.O6 {c:y6}{d e:q9}{t:Bool}{Q:F7->St->Prop}(h2:Ex A l b d ⟨T,H⟩ Q)(h1:I5 T [] c= .d (.bool t):=by rfl)(ht:t=true:=by assumption):Ex A l b (.cond c d e) ⟨T,H⟩ Q :=
 Ex.cond h1 (fun _=>h2) (fun h=>by rw [ht] at h;cases h)
namespace S
def lq3 {x:y6}{u:List Nat}{id o:Nat}{v1 v2 v3:Data}(h2:Ry A l b dr j9 ops T H (n+1) (.agg [.d v1,.d v2,.d v3]::rl) o7 Q)(hx:rq T n rl x= .ptr id o:=by rfl)(hr:rd H id o 3=some [.d v1,.d v2,.d v3]:=by rfl) :
  Ry A l b dr j9 (⟨.load (some 3) x,none,none,u⟩::ops) T H n rl o7 Q :=
 Ry.pure (rs:=[id]) rfl (by simp only [n9,hx,hr,F4,List.map_nil,c8.J2]) h2
def o1z {x:y6}{u:List Nat}{z:c8}{c:Data}(h2:Ry A l b dr j9 ops T H (n+1) (.own 1 1 [c]::rl) o7 Q)(hx:rq T n rl x= .d c:=by rfl):Ry A l b dr j9 (⟨.A2 1 1 [z] [(0,1,x)] false,none,none,u⟩::ops) T H n rl o7 Q :=
 Ry.pure (rs:=[]) rfl (by simp [n9,bA,hx,c8.cells?,splice,M6,c8.data?,c8.one]) h2
def clT {f:FuncId}{xs:List y6}{u:List Nat}{v:c8}{args:List c8}{s:Nat}{T2:List c8}(hc:Pf A f args v)(ha:xs.map (rq T n rl)=args:=by rfl)(gj:A.prom f=false:=by rfl)(hm:A.mode f=1:=by rfl)
  (hb:A4 args=0:=by rfl) (hv:v.J2=v:=by rfl) (hs:T[s]?.isSome=true:=by rfl) (hT:T.set s v=T2:=by simp only [List.set_cons_zero,List.set_cons_succ]<;>rfl)
  (h2:Ry A l b dr j9 ops T2 H (n+1) (v::rl) (.slot s::o7) Q):Ry A l b dr j9 (⟨.call f xs,some s,none,u⟩::ops) T H n rl o7 Q:=fun hn=>by
 obtain ⟨M,hc⟩:=hc;have hs:s<T.length:=by
  rcases y4 s T.length with h|h
  .exact h
  .rw [List.getElem?_eq_none h] at hs;cases hs
 have h2:=h2.to hn;rw [<- hT] at h2;refine Rx.step (N1:=M) (rs:=[]) rfl rfl (fun k hk=> ?_) (dJ s o7) h2;have h3:C6 (K8 A k l b) rl.reverse.length f args ⟨T,H,rl.reverse++ .any::c9 ops.length .any,o7⟩=some (put ⟨T,H,rl.reverse++ .any::c9 ops.length .any,o7⟩ rl.reverse.length v) :=
  fM gj hm hb (hc k hk)
 have ha' :xs.map (x9.I5 T (rl.reverse++ .any::c9 ops.length .any))=args:=by
  rw [show x9.I5 T (rl.reverse++ .any::c9 ops.length .any)=rq T n rl from funext fun x=>W6 hn _ x];exact ha
 have h5:x9.E1 ⟨T,H,rl.reverse++v::c9 ops.length .any,o7⟩ (.loc rl.reverse.length)=(v,⟨T,H,rl.reverse++v::c9 ops.length .any,o7⟩):=by
  simp only [x9.E1,s5 (o5 _),Nat.sub_self,List.getElem?_cons_zero];split
  .rename_i heq
   cases heq;simp [c8.J2] at hv
  .rename_i heq
   cases heq;simp [c8.J2] at hv
  .simp [x9.I5,hv]
 simp only [u9,u5,D6,z6.C8,if_true,E6,ha',h3,r9,E5,put,K6,hs,h5]
end S
end
section
variable {A:Prog} {l:F2} {b:Nat}
variable {dr:Bool} {j9 ops:List p6} {T:List c8} {H:o9} {n:Nat} {rl:List c8} {o7:List Touch} {Q:List c8->o9->List c8->Prop}
namespace S
def df {f:FuncId}{a c:List c8}{u:List Nat}(h2:Ry A l b dr j9 ops T H (n+1) (.any::rl) o7 Q)(hi:A.idle f=true:=by rfl):Ry A l b dr j9 (⟨.defer (.const (.func f a c)),none,none,u⟩::ops) T H n rl o7 Q:=fun hn=>by
 refine Rx.step (N1:=0) (rs:=[]) rfl rfl (fun k _=> ?_) (fun rs=>by simp [G9]) (h2.to hn);have hi' :(K8 A k l b).idle f=true:=hi;simp only [u9,u5,D6,z6.C8,if_true,E6,x9.I5,c8.Qq,c8.J2,hi',put,K6,r9,E5]
def dfl {f:FuncId}{x:y6}{a c:List c8}{u:List Nat}(h2:Ry A l b dr j9 ops T H (n+1) (.any::rl) o7 Q)(hx:rq T n rl x= .func f a c:=by rfl)(hi:A.idle f=true:=by rfl):Ry A l b dr j9 (⟨.defer x,none,none,u⟩::ops) T H n rl o7 Q:=fun hn=>by
 refine Rx.step (N1:=0) (rs:=[]) rfl rfl (fun k _=> ?_) (fun rs=>by simp [G9]) (h2.to hn);have hi' :(K8 A k l b).idle f=true:=hi;simp only [u9,u5,D6,z6.C8,if_true,E6,W6 hn,hx,hi',put,K6,r9,E5]
def ipp {m sz o id o2:Nat}{x y:y6}{u:List Nat}{k:IntKind}{e:Int}(i:Nat)(he:e=i)(ho:o+i * sz=o2)(hi:i<m)(h2:Ry A l b dr j9 ops T H (n+1) (.ptr id o2::rl) o7 Q)(hx:rq T n rl x= .ptr id o:=by rfl)(hy:rq T n rl y= .d (.int k e):=by rfl) :
  Ry A l b dr j9 (⟨.gJ m sz x y,none,none,u⟩::ops) T H n rl o7 Q:=by
 subst he;subst ho;refine Ry.pure (rs:=[]) rfl ?_ h2;have h1:(i:Int)<m:=by omega
 simp [n9,hx,hy,h1]
def mf {f:FuncId}{a c:List y6}{u:List Nat}{va vc:List c8}(h2:Ry A l b dr j9 ops T H (n+1) (.func f va vc::rl) o7 Q)(ha:a.map (rq T n rl)=va:=by rfl)(hc:c.map (rq T n rl)=vc:=by rfl):Ry A l b dr j9 (⟨.ay f a c,none,none,u⟩::ops) T H n rl o7 Q :=
 Ry.pure (rs:=[]) rfl (by simp only [n9,ha,hc]) h2
end S
end
section
variable {A:Prog} {l:F2} {b:Nat}
variable {dr:Bool} {j9 ops:List p6} {T:List c8} {H:o9} {n:Nat} {rl:List c8} {o7:List Touch} {Q:List c8->o9->List c8->Prop}
namespace S
def bi9 {m sz i o id:Nat}{x y:y6}{u:List Nat}{k:IntKind}(h2:Ry A l b dr j9 ops T H (n+1) (.ptr id (o+i * sz)::rl) o7 Q)(hx:rq T n rl x= .ptr id o:=by rfl)(hy:rq T n rl y= .d (.int k (OfNat.ofNat i)):=by rfl)(hi:i<m:=by decide) :
  Ry A l b dr j9 (⟨.gJ m sz x y,none,none,u⟩::ops) T H n rl o7 Q:=ipp i rfl rfl hi h2 hx hy
end S
end
section
variable {A:Prog} {l:F2} {b:Nat}
variable {dr:Bool} {j9 ops:List p6} {T:List c8} {H:o9} {n:Nat} {rl:List c8} {o7:List Touch} {Q:List c8->o9->List c8->Prop}
namespace S
def sp1 {id off:Nat}{x y:y6}{u:List Nat}{v:c8}{old new:List c8}{H2:o9}(hy:rq T n rl y= .ptr id off:=by rfl)(hx:Oq T n rl x v:=by exact ⟨rfl,rfl⟩)(hc:v.cells? =some [v]:=by rfl)(hl:l.may id=true:=by rfl)(hb:v.K5<=id+1:=by exact Nat.zero_le _)
  (ho:H[id]? =some (.cells old):=by rfl) (hq:off<old.length:=by simp) (hN:old.set off v=new:=by first|(simp only [List.set_cons_zero,List.set_cons_succ];done)|rfl) (hH:H.set id (.cells new)=H2:=by simp only [List.set_cons_zero,List.set_cons_succ]<;>rfl)
  (h2:Ry A l b false j9 ops T H2 (n+1) (.any::rl) (.obj id::o7) Q):Ry A l b false j9 (⟨.store 1 y x,none,none,u⟩::ops) T H n rl o7 Q:=so1 hy hx hc hl hb ho hq hN hH h2
end S
end
section
variable {A:Prog} {l:F2} {b:Nat}
variable {dr:Bool} {j9 ops:List p6} {T:List c8} {H:o9} {n:Nat} {rl:List c8} {o7:List Touch} {Q:List c8->o9->List c8->Prop}
namespace S
def alE {α:Type}{enc:α->List Data}{ys:List α}{j sz bytes:Nat}{y:y6}{u:List Nat}{r2:List c8}(hj:lk n rl j=some (.own sz 0 []):=by rfl)(hb:E3 (j+1) n=true:=by rfl)(hy:rq T n rl y= .d (z8 enc ys):=by rfl)
  (hs:∀ a,(enc a).length=sz:=by intro;rfl) (h0:0<sz:=by decide) (hr:roomFor (0+ys.length) bytes=true:=by simp only [roomFor,decide_eq_true_eq,List.length_append,List.length_cons,List.length_nil,List.length_take,List.length_drop,List.length_map] at * <;>omega)
  (hS:rl.set (n - (j+1)) (.d (.slice 0 []))=r2:=by simp only [Nat.reduceAdd,Nat.reduceSub,List.set_cons_zero,List.set_cons_succ]<;>rfl) (h2:Ry A l b dr j9 ops T H (n+1) (C4 sz enc ys::r2) o7 Q) :
  Ry A l b dr j9 (⟨.append sz bytes false (.loc j) y,none,none,u⟩::ops) T H n rl o7 Q :=
 Ry.aZ7 hj hb hy (au hs ys) hr h0 (by
  have e1:C4 sz enc ys= .own sz (0+ys.length) ([]++ys.flatMap enc):=by simp [C4]
  rw [e1] at h2;rw [hS];exact h2)
end S
end
section
variable {A:Prog} {l:F2} {b:Nat}
def Ex.MZ {c:q9}{st:St}{R:F7->St->Prop}{go:St->Prop}(P:St->Prop)(h1:Ex A l b c st (zV (fun _ _=>False) P))(h2:∀ s,P s->go s):Ex A l b c st (zV R go):=by
 refine h1.mono fun x s h=> ?_
 cases x with
 |normal=>exact h2 s h
 |exit i=>exact h.elim
 |ret=>exact h.elim
end
section
variable {A:Prog} {l:F2} {b:Nat}
variable {dr:Bool} {j9 ops:List p6} {T:List c8} {H:o9} {n:Nat} {rl:List c8} {o7:List Touch} {Q:List c8->o9->List c8->Prop}
namespace S
def mvS {s:Nat}{u:List Nat}{w v:c8}(hv:w.J2=v)(h2:Ry A l b dr j9 ops T H (n+1) (v::rl) o7 Q)(hx:T[s]? =some w:=by rfl):Ry A l b dr j9 (⟨.Q3 (.slot s),none,none,u⟩::ops) T H n rl o7 Q:=fun hn=>by
 refine Rx.step (N1:=0) (rs:=[]) rfl rfl (fun k _=> ?_) (fun rs=>by simp [G9]) (h2.to hn);have h1:x9.I5 T (rl.reverse++ .any::c9 ops.length .any) (.slot s)=v:=by simp [x9.I5,hx,hv]
 simp only [u9,u5,D6,z6.C8,j3,if_false,x9.E1,h1,put,K6,r9,E5]
end S
end
def Pm (A:Prog)(f:FuncId)(args:List c8)(H:o9)(l:F2)(v:c8)(H1:o9):Prop:=∃ N,∀ n,N<=n->call A n f args H l=some (v,H1)
def Pq (A:Prog)(f:FuncId)(args:List c8)(H:o9)(l:F2)(Post:c8->o9->Prop):Prop:=∃ v H1,Post v H1/\Pm A f args H l v H1
section
variable {A:Prog} {l:F2} {b:Nat}
def Pq.run {f:FuncId}{af:s6}{args:List c8}{H:o9}{Post:c8->o9->Prop}(T:List c8)(hp:A.cw f=none)(hf:A.fn f=some af)(hn:args.length=af.nparams)(hb:H.length=b)
  (hT:args++c9 (af.names.length - args.length) .any=T) (h:Ex A l b af.body ⟨T,H⟩ fun x s=>∃ w H1,iK af b (some (x,s))=some (w,H1)/\Post w H1):Pq A f args H l Post:=by
 obtain ⟨x,s,N,⟨w,H1,hq,hP⟩,h⟩:=h;refine ⟨w,H1,hP,N+1,fun n hn' => ?_⟩;obtain ⟨n,rfl⟩:∃ j,n=j+1:=⟨n - 1,by omega⟩;simp_all [ES,sA,K8]
def bS {H:o9}{s k n:Nat}(h:L8 ((H.take n).drop s)<=n):E9 H s (k+1) n=n:=by
 simp_all [E9,if_pos]
def nC {E:Env}{k m:Nat}{f:FuncId}{args:List c8}{st:G4}{v:c8}{H1:o9}{l2:F2}(gj:E.prom f=false)(hm:E.mode f=0)(hc:E9 st.H E.lim.strict 8 (A4 args)=m)(hle:m<=st.H.length)(pN:L8 ((st.H.take m).drop E.lim.strict)<=m)
  (mY:(⟨E.lim.Tm,E.lim.Ti,m,C9 st.H E.lim.strict m⟩:F2)=l2) (h:E.cf f args (st.H.take m) l2=some (v,H1)) (hH:H1.length=m) :
  C6 E k f args st=some (put { st with H:=H1++st.H.drop m,o7:= .below m::st.o7 } k v):=by
 simp_all [C6,and_self,if_true,j3,if_false]
def kz {E:Env}{k m:Nat}{f:FuncId}{args:List c8}{st:G4}{v:c8}{H1:o9}{l2:F2}(gj:E.prom f=false)(hm:E.mode f=1)(hc:E9 st.H E.lim.strict 8 (A4 args)=m)(hle:m<=st.H.length)(pN:L8 ((st.H.take m).drop E.lim.strict)<=m)
  (mY:(⟨0,m,m,C9 st.H E.lim.strict m⟩:F2)=l2) (h:E.cf f args (st.H.take m) l2=some (v,H1)) (hH:H1.length=m) :
  C6 E k f args st=some (put st k v):=by
 simp_all [C6,and_self,if_true,j3,if_false]
variable {dr:Bool} {j9 ops:List p6} {T:List c8} {H:o9} {n:Nat} {rl:List c8} {o7:List Touch} {Q:List c8->o9->List c8->Prop}
def fE (hn:rl.length=n)(xs:List y6):xs.map (x9.I5 T (rl.reverse++ .any::c9 ops.length .any))=xs.map (rq T n rl):=by
 rw [show x9.I5 T (rl.reverse++ .any::c9 ops.length .any)=rq T n rl from funext fun x=>W6 hn _ x]
namespace S
def c0 {f:FuncId}{xs:List y6}{u:List Nat}{v:c8}{args:List c8}{m:Nat}{H0 HD H1 H2:o9}{l2:F2}(hc:Pm A f args H0 l2 v H1)(Xl:H1.length=m)(pN:L8 ((H.take m).drop l.strict)<=m:=by exact Nat.zero_le _)(hcl:E9 H l.strict 8 (A4 args)=m:=by rfl)
  (RX:H.take m=H0:=by rfl) (hle:E3 m H.length=true:=by rfl) (mY:(⟨l.Tm,l.Ti,m,C9 H l.strict m⟩:F2)=l2:=by rfl) (hd:dr=true->E3 (uF j9) n=true:=by intro;rfl)
  (ha:xs.map (rq T n rl)=args:=by rfl) (gj:A.prom f=false:=by rfl) (hm:A.mode f=0:=by rfl) (hD:H.drop m=HD:=by rfl) (hA:H1++HD=H2:=by first|(simp only [List.cons_append,List.nil_append]<;>rfl)|rfl)
  (h2:Ry A l b dr j9 ops T H2 (n+1) (v::rl) (.below m::o7) Q):Ry A l b dr j9 (⟨.call f xs,none,none,u⟩::ops) T H n rl o7 Q:=fun hn=>by
 obtain ⟨M,hc⟩:=hc;subst RX hD hA;have h2:=h2.to hn;have e1:∀ k,M<=k->u9 (K8 A k l b) j9 none rl.reverse.length ⟨.call f xs,none,none,u⟩ ⟨T,H,rl.reverse++ .any::c9 ops.length .any,o7⟩=some (⟨T,H1++H.drop m,rl.reverse++v::c9 ops.length .any,.below m::o7⟩,[]):=fun k hk=>by
  have h3:C6 (K8 A k l b) rl.reverse.length f args ⟨T,H,rl.reverse++ .any::c9 ops.length .any,o7⟩=some (put ⟨T,H1++H.drop m,rl.reverse++ .any::c9 ops.length .any,.below m::o7⟩ rl.reverse.length v) :=
   nC gj hm hcl (j5 hle) pN mY (hc k hk) Xl
  simp_all [u9,u5,D6,z6.C8,if_true,E6,fE,r9,E5,put,K6]
 cases dr with
 |false=>exact Rx.stepT (N1:=M) (rs:=[]) rfl e1 h2
 |true =>
  refine Rx.JB (N1:=M) (rs:=[]) rfl rfl rfl e1 (fun h=> ?_) h2;simp_all<;>omega
def c1 {f:FuncId}{xs:List y6}{u:List Nat}{v:c8}{args:List c8}{m:Nat}{H0 H1:o9}{l2:F2}(hc:Pm A f args H0 l2 v H1)(Xl:H1.length=m)(h2:Ry A l b dr j9 ops T H (n+1) (v::rl) o7 Q)(pN:L8 ((H.take m).drop l.strict)<=m:=by exact Nat.zero_le _)(hcl:E9 H l.strict 8 (A4 args)=m:=by rfl)
  (RX:H.take m=H0:=by rfl) (hle:E3 m H.length=true:=by rfl) (mY:(⟨0,m,m,C9 H l.strict m⟩:F2)=l2:=by rfl)
  (ha:xs.map (rq T n rl)=args:=by rfl) (gj:A.prom f=false:=by rfl) (hm:A.mode f=1:=by rfl):Ry A l b dr j9 (⟨.call f xs,none,none,u⟩::ops) T H n rl o7 Q:=fun hn=>by
 obtain ⟨M,hc⟩:=hc;refine Rx.step (N1:=M) (rs:=[]) rfl rfl (fun k hk=> ?_) (fun rs=>by simp [G9]) (h2.to hn);simp_all [C6,K8,c9,put,kz,j5,u9,u5,D6,z6.C8,if_true,E6,fE,r9,E5,K6]
def cv {f:FuncId}{x:y6}{xs:List y6}{u:List Nat}{v:c8}{first caps args:List c8}(hc:Pf A f args v)(h2:Ry A l b dr j9 ops T H (n+1) (v::rl) o7 Q)(hx:rq T n rl x= .func f first caps:=by rfl)(ha:first++xs.map (rq T n rl)++caps=args:=by rfl)(gj:A.prom f=false:=by rfl)(hm:A.mode f=1:=by rfl)
  (hb:A4 args=0:=by rfl):Ry A l b dr j9 (⟨.an x xs,none,none,u⟩::ops) T H n rl o7 Q:=fun hn=>by
 obtain ⟨M,hc⟩:=hc;refine Rx.step (N1:=M) (rs:=[]) rfl rfl (fun k hk=> ?_) (fun rs=>by simp [G9]) (h2.to hn);have h3:C6 (K8 A k l b) rl.reverse.length f args ⟨T,H,rl.reverse++ .any::c9 ops.length .any,o7⟩=some (put ⟨T,H,rl.reverse++ .any::c9 ops.length .any,o7⟩ rl.reverse.length v) :=
  fM gj hm hb (hc k hk)
 simp_all [u9,u5,D6,z6.C8,if_true,E6,W6,fE,r9,E5,put,K6]
def lk1 {kk:KK}{zero:c8}{x y:y6}{u:List Nat}{id:Nat}{key:Key}{es:List (Key×c8)}{r:Option c8}{v:c8}(hr:bB kk key es=some r)(hv:r.getD zero=v)(h2:Ry A l b dr j9 ops T H (n+1) (v::rl) o7 Q)
  (hx:rq T n rl x= .map id:=by rfl) (hy:(rq T n rl y).Mg =some key:=by rfl) (ho:H[id]? =some (.map es):=by rfl) (hf:kk.fits key=true:=by rfl):Ry A l b dr j9 (⟨.lookup kk zero false x y,none,none,u⟩::ops) T H n rl o7 Q :=
 Ry.pure (rs:=[id]) rfl (by simp_all [n9]) h2
def lk2 {kk:KK}{zero:c8}{x y:y6}{u:List Nat}{id:Nat}{key:Key}{es:List (Key×c8)}{r:Option c8}{v:c8}{t:Bool}(hr:bB kk key es=some r)(hv:r.getD zero=v)(ht:r.isSome=t)(h2:Ry A l b dr j9 ops T H (n+1) (.tuple [v,.d (.bool t)]::rl) o7 Q)
  (hx:rq T n rl x= .map id:=by rfl) (hy:(rq T n rl y).Mg =some key:=by rfl) (ho:H[id]? =some (.map es):=by rfl) (hf:kk.fits key=true:=by rfl):Ry A l b dr j9 (⟨.lookup kk zero true x y,none,none,u⟩::ops) T H n rl o7 Q :=
 Ry.pure (rs:=[id]) rfl (by simp_all [n9]) h2
def mp {kk:KK}{x y z:y6}{u:List Nat}{id:Nat}{key:Key}{es es' :List (Key×c8)}{v:c8}{H2:o9}(hr:de kk key v es=some es')(hk:Data.aT kk key key=some true)(hx:rq T n rl x= .map id:=by rfl)(hy:(rq T n rl y).Mg =some key:=by rfl)(hz:rq T n rl z=v:=by rfl)(hbv:v.K5<=id+1:=by exact Nat.zero_le _)(hl:l.may id=true:=by rfl)
  (ho:H[id]? =some (.map es):=by rfl) (hd:dr=true->E3 (uF j9) n=true:=by intro;rfl) (hH:H.set id (.map es')=H2:=by simp only [List.set_cons_zero,List.set_cons_succ]<;>rfl)
  (h2:Ry A l b dr j9 ops T H2 (n+1) (.any::rl) (.obj id::o7) Q):Ry A l b dr j9 (⟨.dg kk x y z,none,none,u⟩::ops) T H n rl o7 Q:=fun hn=>by
 subst hH;have e1:∀ k,0<=k->u9 (K8 A k l b) j9 none rl.reverse.length ⟨.dg kk x y z,none,none,u⟩ ⟨T,H,rl.reverse++ .any::c9 ops.length .any,o7⟩=some (⟨T,H.set id (.map es'),rl.reverse++ .any::c9 ops.length .any,.obj id::o7⟩,[]):=fun k _=>by
  simp_all [K8,u9,u5,D6,z6.C8,if_true,E6,W6,U3,and_self,put,K6,r9,E5]
 cases dr with
 |false=>exact Rx.stepT (N1:=0) (rs:=[]) rfl e1 (h2.to hn)
 |true =>
  refine Rx.JB (N1:=0) (rs:=[]) rfl rfl rfl e1 (fun h=> ?_) (h2.to hn);simp_all<;>omega
end S
end
def dmap (ds:List (List UInt8)):List (Key×c8):=ds.map fun s=>(.str s,.d (.bool true))
def X3:List (List UInt8)->Nat->List (Key×c8)
 |[],_=>[]
 |s::l,i=>(.str s,.d (.int .i64 (i:Int)))::X3 l (i+1)
theorem uM (s:List UInt8):∀ ds,bB .s (.str s) (dmap ds)=some (if ds.any fun y=>M0 y s then some (.d (.bool true)) else none)
 |[]=>by rfl
 |d::ds=>by
  have h1:=uM s ds
  grind [dmap,bB,Data.aT,M0]
theorem zA (s:List UInt8):∀ ds,(ds.any fun y=>M0 y s)=false->de .s (.str s) (.d (.bool true)) (dmap ds)=some (dmap (ds++[s]))
 |[],_=>by rfl
 |d::ds,h=>by
  simp only [List.any_cons,F3] at h;have h1:=zA s ds h.2
  grind [af6,dmap,de,Data.aT]
theorem Av (s:List UInt8):∀ (l:List (List UInt8)) (i:Nat),(l.any fun y=>M0 y s)=false->de .s (.str s) (.d (.int .i64 ((i+l.length:Nat):Int))) (X3 l i)=some (X3 (l++[s]) i)
 |[],i,_=>by rfl
 |d::l,i,h=>by
  simp only [List.any_cons,F3] at h;have h1:=Av s l (i+1) h.2
  grind [af6,X3,de,Data.aT]
theorem iQ:∀ (l:List (List UInt8)) (i:Nat),A4 ((X3 l i).map (·.2))=0
 |[],_=>rfl
 |_::l,i=>by simp [X3,A4,c8.K5,iQ l (i+1)]
theorem iH:∀ l:List (List UInt8),A4 ((dmap l).map (·.2))=0
 |[]=>rfl
 |_::l=>by
  have:=iH l;simp_all [dmap,F4,A4,c8.K5,Nat.zero_max]
section
variable {A:Prog} {l:F2} {b:Nat}
variable {dr:Bool} {j9 ops:List p6} {T:List c8} {H:o9} {n:Nat} {rl:List c8} {o7:List Touch} {Q:List c8->o9->List c8->Prop}
def Qp (id off:Nat)(o7:List Touch)(rs:List Nat):G9 ((Touch.cell id off::o7).take ((Touch.cell id off::o7).length - o7.length)) rs=false:=by
 simp_all [G9,Touch.K0]
def Ry.ah7 {j k sz bytes id off:Nat}{y:y6}{u u' :List Nat}{d' :Option Nat}{g' :Option (Nat×Bool)}{n' len m:Nat}{cs' cells new:List Data}{old:List c8}
  (hj:lk n rl j=some (.d (.slice n' cs'))) (ha:j9[j]? =some ⟨.load none (.loc k),d',g',u'⟩) (hk:lk n rl k=some (.ptr id off)) (ht:o7.any (Touch.bP id off)=false) (hl:l.may id=true) (ho:H[id]? =some (.cells old)) (hc:old[off]? =some (.own sz len cells))
  (hy:rq T n rl y= .d (.slice m new)) (hn' :new.length=m * sz) (hr:roomFor (len+m) bytes=true) (h0:0<sz)
  (h2:Ry A l b dr j9 ops T (H.set id (.cells (old.set off (.d (.slice len cells))))) (n+1) (.own sz (len+m) (cells++new)::rl) (.cell id off::o7) Q):Ry A l b dr j9 (⟨.append sz bytes false (.loc j) y,none,none,u⟩::ops) T H n rl o7 Q:=fun hn=>by
 have hjl:rl.reverse[j]? =some (.d (.slice n' cs')):=by simp_all [gK]
 have aF:rl.reverse[k]? =some (.ptr id off):=by simp_all [gK]
 have hL:∀ r:List c8,(rl.reverse++ .any::r)[j]? =some (.d (.slice n' cs')):=fun r=>ve hjl _
 have hK:∀ r:List c8,(rl.reverse++ .any::r)[k]? =some (.ptr id off):=fun r=>ve aF _
 have al7:x9.I5 T (rl.reverse++ .any::c9 ops.length .any) (.loc j)= .d (.slice n' cs'):=by simp [x9.I5,hL,c8.J2]
 refine Rx.step (N1:=0) (rs:=[]) (by simp_all [F1]) rfl (fun q _=> ?_) (Qp id off o7) (h2.to hn);have hl' :(K8 A q l b).lim.may id=true:=hl;have hs:N4 H sz (.d (.slice m new))=some (m,new.map .d):=by simp_all [N4,if_true]
 simp [u9,u5,D6,z6.C8,if_true,E6,al7,M8,W6 hn,hy,hs,aZ,j3,if_false,O8,hL,ha,W8,aV,hK,ht,hl',Bool.not_true,Bool.or_self,ho,hc,hr,h0,and_self,put,K6,r9,E5]
namespace S
def o2 {x:y6}{u:List Nat}{z1 z2:c8}{c d:Data}(h2:Ry A l b dr j9 ops T H (n+1) (.own 2 1 [c,d]::rl) o7 Q)(hx:rq T n rl x= .agg [.d c,.d d]:=by rfl):Ry A l b dr j9 (⟨.A2 2 1 [z1,z2] [(0,2,x)] false,none,none,u⟩::ops) T H n rl o7 Q :=
 Ry.pure (rs:=[]) rfl (by simp [n9,bA,hx,c8.cells?,splice,M6,c8.data?,c8.one]) h2
def ac2 {α:Type}{enc:α->List Data}{xs:List α}{a:α}{j k bytes id off:Nat}{y:y6}{u u' :List Nat}{d' :Option Nat}{g' :Option (Nat×Bool)}{n' :Nat}{cs' :List Data}{c d:Data}{old new:List c8}{H2:o9}
  (hr:roomFor (xs.length+1) bytes=true) (he:enc a=[c,d]) (hj:lk n rl j=some (.d (.slice n' cs')):=by rfl) (ha:j9[j]? =some ⟨.load none (.loc k),d',g',u'⟩:=by rfl) (hk:lk n rl k=some (.ptr id off):=by rfl) (ht:o7.any (Touch.bP id off)=false:=by rfl) (hl:l.may id=true:=by rfl) (ho:H[id]? =some (.cells old):=by rfl) (hc:old[off]? =some (C4 2 enc xs):=by rfl)
  (hy:rq T n rl y= .d (.slice 1 [c,d]):=by rfl) (hN:old.set off (.d (z8 enc xs))=new:=by rfl) (hH:H.set id (.cells new)=H2:=by simp only [List.set_cons_zero,List.set_cons_succ]<;>rfl)
  (h2:Ry A l b dr j9 ops T H2 (n+1) (C4 2 enc (xs++[a])::rl) (.cell id off::o7) Q):Ry A l b dr j9 (⟨.append 2 bytes false (.loc j) y,none,none,u⟩::ops) T H n rl o7 Q :=
 Ry.ah7 hj ha hk ht hl ho hc hy rfl hr (by decide) (by
  have e1:C4 2 enc (xs++[a])= .own 2 (xs.length+1) (xs.flatMap enc++[c,d]):=by simp [C4,he]
  rw [e1] at h2;subst hH hN;exact h2)
def ac1 {α:Type}{enc:α->List Data}{xs:List α}{a:α}{j k bytes id off:Nat}{y:y6}{u u' :List Nat}{d' :Option Nat}{g' :Option (Nat×Bool)}{n' :Nat}{cs' :List Data}{c:Data}{old new:List c8}{H2:o9}
  (hr:roomFor (xs.length+1) bytes=true) (he:enc a=[c]) (hj:lk n rl j=some (.d (.slice n' cs')):=by rfl) (ha:j9[j]? =some ⟨.load none (.loc k),d',g',u'⟩:=by rfl) (hk:lk n rl k=some (.ptr id off):=by rfl) (ht:o7.any (Touch.bP id off)=false:=by rfl) (hl:l.may id=true:=by rfl) (ho:H[id]? =some (.cells old):=by rfl) (hc:old[off]? =some (C4 1 enc xs):=by rfl)
  (hy:rq T n rl y= .d (.slice 1 [c]):=by rfl) (hN:old.set off (.d (z8 enc xs))=new:=by rfl) (hH:H.set id (.cells new)=H2:=by simp only [List.set_cons_zero,List.set_cons_succ]<;>rfl)
  (h2:Ry A l b dr j9 ops T H2 (n+1) (C4 1 enc (xs++[a])::rl) (.cell id off::o7) Q):Ry A l b dr j9 (⟨.append 1 bytes false (.loc j) y,none,none,u⟩::ops) T H n rl o7 Q :=
 Ry.ah7 hj ha hk ht hl ho hc hy rfl hr (by decide) (by
  have e1:C4 1 enc (xs++[a])= .own 1 (xs.length+1) (xs.flatMap enc++[c]):=by simp [C4,he]
  rw [e1] at h2;subst hH hN;exact h2)
def soO {id off j z n0:Nat}{y:y6}{u:List Nat}{cs:List Data}{old new:List c8}{H2:o9}{r2:List c8}(hy:rq T n rl y= .ptr id off:=by rfl)(hj:lk n rl j=some (.own z n0 cs):=by rfl)(hjb:E3 (j+1) n=true:=by rfl)(hl:l.may id=true:=by rfl)
  (ho:H[id]? =some (.cells old):=by rfl) (hq:E3 (off+1) old.length=true:=by rfl) (hd:dr=true->E3 (uF j9) n=true:=by intro;rfl) (hN:old.set off (.own z n0 cs)=new:=by rfl) (hH:H.set id (.cells new)=H2:=by simp only [List.set_cons_zero,List.set_cons_succ]<;>rfl)
  (hS:rl.set (n - (j+1)) (.d (.slice n0 cs))=r2:=by simp only [Nat.reduceAdd,Nat.reduceSub,List.set_cons_zero,List.set_cons_succ]<;>rfl)
  (h2:Ry A l b dr j9 ops T H2 (n+1) (.any::r2) (.obj id::o7) Q):Ry A l b dr j9 (⟨.store 1 y (.loc j),none,none,u⟩::ops) T H n rl o7 Q:=fun hn=>by
 subst hH hN hS;have hq' :off<old.length:=j5 hq;have hjl:rl.reverse[j]? =some (.own z n0 cs):=by simp_all [gK]
 have hL:∀ r:List c8,(rl.reverse++ .any::r)[j]? =some (.own z n0 cs):=fun r=>ve hjl _
 have hjn:j<rl.reverse.length:=by grind
 have hlen:(rl.reverse.set j (.d (.slice n0 cs))).length=rl.reverse.length:=by simp
 have h4:∀ (a v:c8) (r:List c8),(rl.reverse.set j (.d (.slice n0 cs))++a::r).set rl.reverse.length v=rl.reverse.set j (.d (.slice n0 cs))++v::r:=fun a v r=>by simp_all
 have h1:splice old off [.own z n0 cs]=old.set off (.own z n0 cs):=by
  simp_all [splice,List.length_singleton,List.set_eq_take_append_cons_drop,if_pos]
 have hw:wr H id off [.own z n0 cs]=some (H.set id (.cells (old.set off (.own z n0 cs)))):=by
  simp_all [wr,List.length_singleton,if_pos]
 have Yd :=h2.to (by simp [hn]);rw [<- FO hn hjb] at Yd;have e1:∀ k,0<=k->u9 (K8 A k l b) j9 none rl.reverse.length ⟨.store 1 y (.loc j),none,none,u⟩ ⟨T,H,rl.reverse++ .any::c9 ops.length .any,o7⟩=some (⟨T,H.set id (.cells (old.set off (.own z n0 cs))),rl.reverse.set j (.d (.slice n0 cs))++ .any::c9 ops.length .any,.obj id::o7⟩,[]):=fun k _=>by
  have hl' :(K8 A k l b).lim.may id=true:=hl;have hx:x9.E1 ⟨T,H,rl.reverse++ .any::c9 ops.length .any,o7⟩ (.loc j)=(.own z n0 cs,⟨T,H,rl.reverse.set j (.d (.slice n0 cs))++ .any::c9 ops.length .any,o7⟩):=by
   simp_all [x9.E1]
  have hb0:A4 [c8.own z n0 cs]<=id+1:=Nat.zero_le _;have hc1:(c8.own z n0 cs).cells? =some [.own z n0 cs]:=rfl;simp_all [u9,u5,D6,z6.C8,if_true,E6,W6,Q8,List.length_singleton,true_or,and_self,put,r9,E5]
 cases dr with
 |false=>exact Rx.stepT (N1:=0) (rs:=[]) hlen e1 Yd
 |true =>
  refine Rx.JB (N1:=0) (rs:=[]) hlen rfl rfl e1 (fun h=> ?_) Yd;simp_all<;>omega
end S
end
section
variable {A:Prog} {l:F2} {b:Nat}
variable {dr:Bool} {j9 ops:List p6} {T:List c8} {H:o9} {n:Nat} {rl:List c8} {o7:List Touch} {Q:List c8->o9->List c8->Prop}
namespace S
def cv1 {f:FuncId}{x:y6}{xs:List y6}{u:List Nat}{v:c8}{first caps args:List c8}{m:Nat}{H0 H1:o9}{l2:F2}(hc:Pm A f args H0 l2 v H1)(Xl:H1.length=m)(h2:Ry A l b dr j9 ops T H (n+1) (v::rl) o7 Q)(pN:L8 ((H.take m).drop l.strict)<=m:=by exact Nat.zero_le _)(hcl:E9 H l.strict 8 (A4 args)=m:=by rfl)
  (RX:H.take m=H0:=by rfl) (hle:E3 m H.length=true:=by rfl) (mY:(⟨0,m,m,C9 H l.strict m⟩:F2)=l2:=by rfl) (hx:rq T n rl x= .func f first caps:=by rfl)
  (ha:first++xs.map (rq T n rl)++caps=args:=by rfl) (gj:A.prom f=false:=by rfl) (hm:A.mode f=1:=by rfl):Ry A l b dr j9 (⟨.an x xs,none,none,u⟩::ops) T H n rl o7 Q:=fun hn=>by
 obtain ⟨M,hc⟩:=hc;subst RX;refine Rx.step (N1:=M) (rs:=[]) rfl rfl (fun k hk=> ?_) (fun rs=>by simp [G9]) (h2.to hn);have h3:C6 (K8 A k l b) rl.reverse.length f args ⟨T,H,rl.reverse++ .any::c9 ops.length .any,o7⟩=some (put ⟨T,H,rl.reverse++ .any::c9 ops.length .any,o7⟩ rl.reverse.length v) :=
  kz gj hm hcl (j5 hle) pN mY (hc k hk) Xl
 simp only [u9,u5,D6,z6.C8,if_true,E6,W6 hn,hx,fE hn,ha,h3,r9,E5,put,K6]
def cv0 {f:FuncId}{x:y6}{xs:List y6}{u:List Nat}{v:c8}{first caps args:List c8}{m:Nat}{H0 HD H1 H2:o9}{l2:F2}(hc:Pm A f args H0 l2 v H1)(Xl:H1.length=m)(pN:L8 ((H.take m).drop l.strict)<=m:=by exact Nat.zero_le _)(hcl:E9 H l.strict 8 (A4 args)=m:=by rfl)
  (RX:H.take m=H0:=by rfl) (hle:E3 m H.length=true:=by rfl) (mY:(⟨l.Tm,l.Ti,m,C9 H l.strict m⟩:F2)=l2:=by rfl) (hx:rq T n rl x= .func f first caps:=by rfl)
  (ha:first++xs.map (rq T n rl)++caps=args:=by rfl) (gj:A.prom f=false:=by rfl) (hm:A.mode f=0:=by rfl) (hD:H.drop m=HD:=by rfl) (hA:H1++HD=H2:=by first|(simp only [List.cons_append,List.nil_append]<;>rfl)|rfl)
  (h2:Ry A l b false j9 ops T H2 (n+1) (v::rl) (.below m::o7) Q):Ry A l b false j9 (⟨.an x xs,none,none,u⟩::ops) T H n rl o7 Q:=fun hn=>by
 obtain ⟨M,hc⟩:=hc;subst RX hD hA;refine Rx.stepT (N1:=M) (rs:=[]) rfl (fun k hk=> ?_) (h2.to hn);have h3:C6 (K8 A k l b) rl.reverse.length f args ⟨T,H,rl.reverse++ .any::c9 ops.length .any,o7⟩=some (put ⟨T,H1++H.drop m,rl.reverse++ .any::c9 ops.length .any,.below m::o7⟩ rl.reverse.length v) :=
  nC gj hm hcl (j5 hle) pN mY (hc k hk) Xl
 simp only [u9,u5,D6,z6.C8,if_true,E6,W6 hn,hx,fE hn,ha,h3,r9,E5,put,K6]
end S
end
section
variable {A:Prog} {l:F2} {b:Nat}
def LC (j9:List p6)(na k:Nat)(e:jj):Prop :=
 na ∉ e.reads/\(k<uF j9->∀ rs,na ∉ rs->G9 e.Fs rs=false)/\e.FV<=na/\(∀ i,j9[k]? =some i->i.op.z7=true->e.id=na)/\(∀ i,j9[k]? =some i->i.op.Sf=false->e.reads=[])
def Rz (A:Prog)(l:F2)(b:Nat)(j9 ops:List p6)(T:List c8)(H:o9)(n:Nat)(rl:List c8)(o7:List Touch)(na:Nat)(Q:List c8->o9->List c8->Prop):Prop :=
 rl.length=n->∃ r N,Q r.T r.H r.L/\∀ k,N<=k->∃ lg:List jj,P6 (K8 A k l b) j9 ops n na ⟨T,H,rl.reverse++c9 ops.length .any,o7⟩=some (r,lg)/\lg.length=ops.length/\∀ j e,lg[j]? =some e->LC j9 na (n+j) e
variable {j9 ops:List p6} {T:List c8} {H:o9} {n:Nat} {rl:List c8} {o7:List Touch} {na:Nat} {Q:List c8->o9->List c8->Prop}
def Rn.bl2 {T:List c8}{H:o9}{s:Nat}(zW:Y9 ops=[.dead])(wM:slotsOf ops=[.slot s])(hu:∀ i,i ∈ ops->∀ e,e ∈ i.aX->e<ops.length)(h:Rz A l b ops ops T (H++[.dead]) 0 [] [.slot s] H.length Q):Rn A l b ops true T H Q:=by
 obtain ⟨r,N,hq,h⟩:=h rfl;refine ⟨r,N,hq,fun n hn=> ?_⟩;obtain ⟨lg,e1,e2,e3⟩:=h n hn;simp only [List.reverse_nil,List.nil_append,Nat.zero_add] at e1 e3;have al2:qH ops lg=true:=by
  simp only [qH,L9];rintro ⟨i,le⟩ wJ e he;obtain ⟨j,hj,hji⟩:=List.getElem_of_mem wJ;simp only [List.length_zip] at hj;have hj1:j<ops.length:=by omega
  have hj2:j<lg.length:=by omega
  simp only [List.getElem_zip,Prod.mk.injEq] at hji;obtain ⟨rfl,rfl⟩:=hji;have hi:ops[j] ∈ ops:=List.getElem_mem hj1;have hlt:=hu _ hi e he;have he2:e<lg.length:=by omega
  rw [l6 he2];have c1:=e3 j _ (l6 hj2);have c2:=e3 e _ (l6 he2);cases hr:ops[j].op.Sf with
  |true =>
   have hb:=yX hi hr he;have h5:=c2.2.1 hb _ c1.1;have ha:ops[j].op.z7=false:=by
    cases ho:ops[j].op<;>rw [ho] at hr<;>first|rfl|(cases hr)
   have ha:ops[j].op.makes=false:=by
    cases ho:ops[j].op<;>rw [ho] at hr<;>first|rfl|(cases hr)
   simp [h5,ha]
  |false =>
   have h5:=c1.2.2.2.2 _ (l6 hj1) hr;cases hm:ops[j].op.makes with
   |false=>simp [h5,G9]
   |true =>
    have ha:ops[j].op.z7=true:=by
     cases ho:ops[j].op<;>rw [ho] at hm<;>first|exact hm|(cases hm)
    have h7:=c1.2.2.2.1 _ (l6 hj1) ha;have h6:=c2.2.2.1;simp [h5,G9];omega
 simp only [Q4,if_true,zW,wM,e1,al2]
def Rz.nil (h:Q T H rl.reverse):Rz A l b j9 [] T H n rl o7 na Q:=fun _=>⟨⟨T,H,rl.reverse,o7⟩,0,h,fun _ _=>⟨[],by simp [P6],rfl,fun j e h=>by simp at h⟩⟩
def Rz.step {i:p6}{T' :List c8}{H' :o9}{v:c8}{bK :List Touch}{rs:List Nat}{N1:Nat}(hk:∀ L,F1 ⟨T,H,L,o7⟩ i.op=false)(hi:j9[n]? =some i)
  (h:rl.length=n->∀ k,N1<=k->u9 (K8 A k l b) j9 (if i.op.z7 then some na else none) n i ⟨T,H,rl.reverse++ .any::c9 ops.length .any,o7⟩=some (⟨T',H',rl.reverse++v::c9 ops.length .any,bK⟩,rs))
  (hr:na ∉ rs) (ht:n<uF j9->∀ rs,na ∉ rs->G9 (fD (if i.op.z7 then some na else none)++bK.take (bK.length - o7.length)) rs=false) (Xp:∀ k,L0 (K8 A k l b) ⟨T,H,rl.reverse++ .any::c9 ops.length .any,o7⟩ i.op<=na)
  (hn2:i.op.z7=true->∀ j,j ∈ ops->j.op.z7=false) (h2:∀ na',(i.op.z7=false->na' =na)->Rz A l b j9 ops T' H' (n+1) (v::rl) bK na Q/\(i.op.z7=true->∀ k r lg,P6 (K8 A k l b) j9 ops (n+1) na ⟨T',H',(v::rl).reverse++c9 ops.length .any,bK⟩=some (r,lg)->P6 (K8 A k l b) j9 ops (n+1) (na+1) ⟨T',H',(v::rl).reverse++c9 ops.length .any,bK⟩=some (r,lg))) :
  Rz A l b j9 (i::ops) T H n rl o7 na Q:=fun hn=>by
 obtain ⟨h2,h2a⟩:=h2 na (fun _=>rfl);obtain ⟨r,N,hq,h2⟩:=h2 (by simp [hn]);refine ⟨r,max N N1,hq,fun k hkk=> ?_⟩;obtain ⟨lg,e1,e2,e3⟩:=h2 k (by omega);have h4:=h hn k (by omega);have e1' :P6 (K8 A k l b) j9 ops (n+1) (if i.op.z7 then na+1 else na) ⟨T',H',rl.reverse++v::c9 ops.length .any,bK⟩=some (r,lg):=by
  cases ha:i.op.z7 with
  |false=>simpa using e1
  |true=>simpa using h2a ha k r lg e1
 refine ⟨cK (K8 A k l b) i (if i.op.z7 then some na else none) ⟨T,H,rl.reverse++ .any::c9 ops.length .any,o7⟩ ⟨T',H',rl.reverse++v::c9 ops.length .any,bK⟩ rs::lg,?_,by simp [e2],?_⟩
 .simp only [P6,List.length_cons,List.replicate_succ,iY,hk,Bool.false_and,j3,if_false,h4,e1']
 .intro j e he
  cases j with
  |zero =>
   simp only [List.getElem?_cons_zero,Option.some.injEq] at he;subst he;refine ⟨hr,fun hb=>ht (by omega),Xp k,fun i' hi' ha=> ?_,fun i' hi' hr' => ?_⟩
   .rw [Nat.add_zero,hi] at hi'
    cases hi';simp [cK,ha]
   .rw [Nat.add_zero,hi] at hi'
    cases hi';exact rR h4 hr'
  |succ j =>
   simp only [List.getElem?_cons_succ] at he;have:=e3 j e he
   rwa [Nat.add_assoc,Nat.add_comm 1 j] at this
theorem AL {E:Env}:∀ (ops:List p6) (k na na' :Nat) (st:G4),(∀ j,j ∈ ops->j.op.z7=false)->P6 E j9 ops k na st=P6 E j9 ops k na' st
 |[],_,_,_,_,_=>rfl
 |i::ops,k,na,na',st,h=>by
  have hi:=h i (List.mem_cons_self);simp only [P6,hi,j3,if_false];cases iY E j9 none k i st with
  |none=>rfl
  |some x=>simp only [AL ops (k+1) na na' x.1 (fun j hj=>h j (List.mem_cons_of_mem _ hj))]
end
section
variable {A:Prog} {l:F2} {b:Nat}
variable {j9 ops:List p6} {T:List c8} {H:o9} {n:Nat} {rl:List c8} {o7:List Touch} {na:Nat} {Q:List c8->o9->List c8->Prop}
def Rz.simple {i:p6}{v:c8}{rs:List Nat}{N1:Nat}(ha:i.op.z7=false)(hk:∀ L,F1 ⟨T,H,L,o7⟩ i.op=false)(hi:j9[n]? =some i)
  (h:rl.length=n->∀ k,N1<=k->u9 (K8 A k l b) j9 none n i ⟨T,H,rl.reverse++ .any::c9 ops.length .any,o7⟩=some (⟨T,H,rl.reverse++v::c9 ops.length .any,o7⟩,rs))
  (hr:na ∉ rs) (hs:∀ k,L0 (K8 A k l b) ⟨T,H,rl.reverse++ .any::c9 ops.length .any,o7⟩ i.op<=na) (h2:Rz A l b j9 ops T H (n+1) (v::rl) o7 na Q):Rz A l b j9 (i::ops) T H n rl o7 na Q :=
 Rz.step (N1:=N1) hk hi (fun hn k hk=>by simp_all) hr (fun _ rs _=>by grind [fD,G9]) hs (fun h=>by simp_all) (fun _ _=>⟨h2,fun h=>by simp_all⟩)
namespace S
def zn (h:Q T H rl.reverse):Rz A l b j9 [] T H n rl o7 na Q:=Rz.nil h
def zp {op:z6}{u:List Nat}{rs:List Nat}(v:c8)(hp:n9 (rq T n rl) H op=some (v,rs))(h2:Rz A l b j9 ops T H (n+1) (v::rl) o7 na Q)(hr:na ∉ rs:=by simp)(hE:op.C8=false:=by rfl)(ha:op.z7=false:=by rfl)(hk:∀ L,F1 ⟨T,H,L,o7⟩ op=false:=by intro;rfl)(hi:j9[n]? =some ⟨op,none,none,u⟩:=by rfl)
  (hs:∀ k,L0 (K8 A k l b) ⟨T,H,rl.reverse++ .any::c9 ops.length .any,o7⟩ op<=na:=by intro;exact Nat.zero_le _):Rz A l b j9 (⟨op,none,none,u⟩::ops) T H n rl o7 na Q:=by
 refine Rz.simple (N1:=0) (rs:=rs) ha hk hi (fun hn k _=> ?_) hr hs h2;have TC:∀ x,op≠ .Q3 x:=by
  grind [n9]
 have h4:n9 (x9.I5 T (rl.reverse++ .any::c9 ops.length .any)) H op=some (v,rs):=by
  rw [show x9.I5 T (rl.reverse++ .any::c9 ops.length .any)=rq T n rl from funext fun x=>W6 hn _ x];exact hp
 have HZ:∀ (a:c8) (r:List c8),(rl.reverse++a::r).set n v=rl.reverse++v::r:=fun a r=>by simp_all
 simp_all [D6,K8,c9,absurd,j3,if_false,put,z6.C8,u9,u5,r9,E5]
def zm {x:y6}{u:List Nat}{v:c8}(h2:Rz A l b j9 ops T H (n+1) (v::rl) o7 na Q)(hx:Oq T n rl x v:=by exact ⟨rfl,rfl⟩)(hi:j9[n]? =some ⟨.Q3 x,none,none,u⟩:=by rfl):Rz A l b j9 (⟨.Q3 x,none,none,u⟩::ops) T H n rl o7 na Q:=by
 refine Rz.simple (N1:=0) (rs:=[]) rfl (fun _=>rfl) hi (fun hn k _=> ?_) (by simp) (fun k=>Nat.zero_le _) h2;have HZ:∀ (a:c8) (r:List c8),(rl.reverse++a::r).set n v=rl.reverse++v::r:=fun a r=>by simp_all
 simp [u9,u5,D6,z6.C8,j3,if_false,(hx.op hn).E1,put,HZ,r9,E5]
def zc {f:FuncId}{xs:List y6}{u:List Nat}{v:c8}{args:List c8}{m:Nat}{H0 H1:o9}{l2:F2}(hc:Pm A f args H0 l2 v H1)(Xl:H1.length=m)(h2:Rz A l b j9 ops T H (n+1) (v::rl) o7 na Q)(hmn:m<=na:=by decide)(pN:L8 ((H.take m).drop l.strict)<=m:=by exact Nat.zero_le _)(hcl:E9 H l.strict 8 (A4 args)=m:=by rfl)
  (RX:H.take m=H0:=by rfl) (hle:E3 m H.length=true:=by rfl) (mY:(⟨0,m,m,C9 H l.strict m⟩:F2)=l2:=by rfl)
  (ha:xs.map (rq T n rl)=args:=by rfl) (gj:A.prom f=false:=by rfl) (hm:A.mode f=1:=by rfl) (hi:j9[n]? =some ⟨.call f xs,none,none,u⟩:=by rfl) (hn0:rl.length=n:=by rfl):Rz A l b j9 (⟨.call f xs,none,none,u⟩::ops) T H n rl o7 na Q:=by
 obtain ⟨M,hc⟩:=hc;have aC7 :∀ k,(K8 A k l b).prom f=false:=fun _=>gj
 refine Rz.simple (N1:=M) (rs:=[]) rfl (fun _=>rfl) hi (fun hn k hk=> ?_) (by simp) (fun k=> ?_) h2
 .have HZ:∀ (a:c8) (r:List c8),(rl.reverse++a::r).set n v=rl.reverse++v::r:=fun a r=>by simp_all
  simp_all [C6,K8,c9,put,kz,j5,u9,u5,D6,z6.C8,if_true,E6,fE,r9,E5]
 .have bF0 :E9 H (K8 A k l b).lim.strict 8 (A4 args)=m:=hcl
  simp_all [L0,j3,if_false,fE]
def za {zero:List c8}{u:List Nat}{s:Nat}{T2:List c8}{H2:o9}(hs:T[s]?.isSome=true:=by rfl)(htc:o7.any (Touch.S4 s)=true:=by rfl)(hT:T.set s (.ptr na 0)=T2:=by simp only [List.set_cons_zero,List.set_cons_succ]<;>rfl)(hH:H.set na (.cells zero)=H2:=by simp only [List.set_cons_zero,List.set_cons_succ]<;>rfl)
  (hi:j9[n]? =some ⟨.alloc zero,some s,none,u⟩:=by rfl) (hno:ops.all (fun j=> !j.op.z7)=true:=by rfl) (h2:Rz A l b j9 ops T2 H2 (n+1) (.ptr na 0::rl) o7 na Q):Rz A l b j9 (⟨.alloc zero,some s,none,u⟩::ops) T H n rl o7 na Q:=by
 have hs:s<T.length:=by
  simp_all
 have bf9 :∀ j,j ∈ ops->j.op.z7=false:=fun j hj=>by simp_all
 refine Rz.step (N1:=0) (rs:=[]) (fun _=>rfl) hi (fun hn k _=> ?_) (by simp) (fun _ rs hrs=> ?_) (fun k=>Nat.zero_le _) (fun _=>bf9) (fun _ _=>⟨h2,fun _ k r lg h=>by grind [AL]⟩)
 .have HZ:∀ (a v:c8) (r:List c8),(rl.reverse++a::r).set n v=rl.reverse++v::r:=fun a v r=>by simp_all
  simp_all [List.length_reverse,z6.z7,if_true,u9,u5,D6,z6.C8,E6,L7,newId,Option.getD_some,put,r9,V8,x9.E1,decide_true,Bool.and_self,x9.I5,c8.J2]
 grind [z6.z7,fD,G9,Touch.K0]
def zs {m:Nat}{x y:y6}{u:List Nat}{v:c8}{cs old:List c8}{H2:o9}(hd:E3 (uF j9) n=true:=by rfl)(hy:rq T n rl y= .ptr na 0:=by rfl)(hx:Oq T n rl x v:=by exact ⟨rfl,rfl⟩)(hc:v.cells? =some cs:=by rfl)(hm:cs.length=m:=by rfl)(hl:l.may na=true:=by rfl)(hb:A4 cs=0:=by rfl)
  (ho:H[na]? =some (.cells old):=by rfl) (hq:old.length=m:=by rfl) (hH:H.set na (.cells cs)=H2:=by simp only [List.set_cons_zero,List.set_cons_succ]<;>rfl) (hi:j9[n]? =some ⟨.store m y x,none,none,u⟩:=by rfl)
  (h2:Rz A l b j9 ops T H2 (n+1) (.any::rl) (.obj na::o7) na Q):Rz A l b j9 (⟨.store m y x,none,none,u⟩::ops) T H n rl o7 na Q:=by
 have hw:wr H na 0 cs=some H2:=by
  simp_all [wr,splice,l5]
 refine Rz.step (N1:=0) (rs:=[]) (fun _=>rfl) hi (fun hn k _=> ?_) (by simp) (fun h=> ?_) (fun k=>Nat.zero_le _) (fun h=>by cases h) (fun _ _=>⟨h2,fun h=>by cases h⟩)
 .have hl' :(K8 A k l b).lim.may na=true:=hl
  have hb' :A4 cs<=na+1:=by omega
  have HZ:∀ (a v:c8) (r:List c8),(rl.reverse++a::r).set n v=rl.reverse++v::r:=fun a v r=>by simp_all
  simp [z6.z7,j3,if_false,u9,u5,D6,z6.C8,if_true,E6,W6 hn,hy,Q8,(hx.op hn).E1,hc,hm,hl',hb',true_or,and_self,hw,put,HZ,r9,E5]
 simp_all<;>omega
end S
end
section
variable {A:Prog} {l:F2} {b:Nat}
variable {dr:Bool} {j9 ops:List p6} {T:List c8} {H:o9} {n:Nat} {rl:List c8} {o7:List Touch} {Q:List c8->o9->List c8->Prop}
namespace S
def o12 {x y:y6}{u:List Nat}{z1 z2:c8}{c d:Data}(h2:Ry A l b dr j9 ops T H (n+1) (.own 1 2 [c,d]::rl) o7 Q)(hx:rq T n rl x= .d c:=by rfl)(hy:rq T n rl y= .d d:=by rfl):Ry A l b dr j9 (⟨.A2 1 2 [z1,z2] [(0,1,x),(1,1,y)] false,none,none,u⟩::ops) T H n rl o7 Q :=
 Ry.pure (rs:=[]) rfl (by simp [n9,bA,hx,hy,c8.cells?,splice,M6,c8.data?,c8.one]) h2
def lq2 {α β:Type}{e1:α->List Data}{e2:β->List Data}{xs:List α}{ys:List β}{x:y6}{u:List Nat}{id z1 z2:Nat}(h2:Ry A l b dr j9 ops T H (n+1) (.agg [.d (z8 e1 xs),.d (z8 e2 ys)]::rl) o7 Q)(hx:rq T n rl x= .ptr id 0:=by rfl)(ho:H[id]? =some (.cells [C4 z1 e1 xs,C4 z2 e2 ys]):=by rfl) :
  Ry A l b dr j9 (⟨.load (some 2) x,none,none,u⟩::ops) T H n rl o7 Q :=
 Ry.pure (rs:=[id]) rfl (by simp [n9,hx,rd,ho,C4,z8,c8.J2]) h2
end S
end
section
variable {A:Prog} {l:F2} {b:Nat}
variable {j9 ops:List p6} {T:List c8} {H:o9} {n:Nat} {rl:List c8} {o7:List Touch} {na:Nat} {Q:List c8->o9->List c8->Prop}
namespace S
def zix {α:Type} [Inhabited α] {enc:α->List Data}{xs:List α}{sz:Nat}{e:Int}{x y:y6}{k:IntKind}{u:List Nat}(h0:0<=e/\e<xs.length)(h2:Rz A l b j9 ops T H (n+1) (.S7 (enc (nth xs e.toNat)++(xs.drop (e.toNat+1)).flatMap enc)::rl) o7 na Q)(hx:rq T n rl x= .d (z8 enc xs):=by rfl)(hy:rq T n rl y= .d (.int k e):=by rfl)(hs:∀ a,(enc a).length=sz:=by intro;rfl)
  (hi:j9[n]? =some ⟨.D5 sz x y,none,none,u⟩:=by rfl):Rz A l b j9 (⟨.D5 sz x y,none,none,u⟩::ops) T H n rl o7 na Q:=by
 refine zp (rs:=[]) _ ?_ h2 (hi:=hi);have hl:e.toNat<xs.length:=by omega
 have h3:=lY hs xs e.toNat hl;rw [<- I9 hl] at h3;simp only [n9,hx,hy,z8,h0,and_self,if_true,h3]
def zle {cs rest:List Data}{x:y6}{m:Nat}{u:List Nat}(h2:Rz A l b j9 ops T H (n+1) (.agg (cs.map .d)::rl) o7 na Q)(hx:rq T n rl x= .S7 (cs++rest):=by rfl)(hm:cs.length=m:=by rfl)(hi:j9[n]? =some ⟨.load (some m) x,none,none,u⟩:=by rfl):Rz A l b j9 (⟨.load (some m) x,none,none,u⟩::ops) T H n rl o7 na Q:=by
 refine zp (rs:=[]) _ ?_ h2 (hi:=hi);subst hm;simp [n9,hx]
def soD {dr:Bool}{m id:Nat}{x y:y6}{u:List Nat}{v:c8}{cs old:List c8}{H2:o9}(hd:E3 (uF j9) n=true:=by rfl)(hy:rq T n rl y= .ptr id 0:=by rfl)(hx:Oq T n rl x v:=by exact ⟨rfl,rfl⟩)(hc:v.cells? =some cs:=by rfl)(hm:cs.length=m:=by rfl)(hl:l.may id=true:=by rfl)(hb:A4 cs=0:=by rfl)
  (ho:H[id]? =some (.cells old):=by rfl) (hq:old.length=m:=by rfl) (hH:H.set id (.cells cs)=H2:=by simp only [List.set_cons_zero,List.set_cons_succ]<;>rfl)
  (h2:Ry A l b dr j9 ops T H2 (n+1) (.any::rl) (.obj id::o7) Q):Ry A l b dr j9 (⟨.store m y x,none,none,u⟩::ops) T H n rl o7 Q :=
 MV hd hy hx hc hm hl (by omega) (by simp [wr,ho,hm,hq,splice,<- hH];rw [l5 (by omega)];simp) h2
end S
end
section
variable {A:Prog} {l:F2} {b:Nat}
variable {dr:Bool} {j9 ops:List p6} {T:List c8} {H:o9} {n:Nat} {rl:List c8} {o7:List Touch} {Q:List c8->o9->List c8->Prop}
namespace S
def mk {u:List Nat}{id:Nat}{H2:o9}(hi:H.length=id:=by simp only [List.length_cons,List.length_nil,Nat.reduceAdd]<;>rfl)(hH:H++[.map []]=H2:=by simp only [List.cons_append,List.nil_append]<;>rfl)
  (h2:Ry A l b false j9 ops T H2 (n+1) (.map id::rl) o7 Q):Ry A l b false j9 (⟨.makeMap,none,none,u⟩::ops) T H n rl o7 Q:=fun hn=>by
 subst hi hH;refine Rx.stepT (N1:=0) (rs:=[]) rfl (fun n _=> ?_) (h2.to hn);simp only [u9,u5,D6,z6.C8,if_true,E6,L7,newId,Option.getD_none,put,K6,r9,E5]
def bso {sz len:Nat}{zero:List c8}{parts:List (Nat×Nat×y6)}{u:List Nat}{id:Nat}{H2:o9}(cs:List c8)(hr:bA zero (parts.map fun p=>(p.1,p.2.1,rq T n rl p.2.2))=some cs)(h0:0<sz/\cs.length=len * sz)(hi:H.length=id:=by simp only [List.length_cons,List.length_nil,Nat.reduceAdd]<;>rfl)(hH:H++[.cells cs]=H2:=by simp only [List.cons_append,List.nil_append]<;>rfl)
  (h2:Ry A l b false j9 ops T H2 (n+1) (.A8 id sz 0 len::rl) o7 Q):Ry A l b false j9 (⟨.A2 sz len zero parts true,none,none,u⟩::ops) T H n rl o7 Q:=fun hn=>by
 subst hi hH;refine Rx.stepT (N1:=0) (rs:=[]) rfl (fun k _=> ?_) (h2.to hn);have hr' :bA zero (parts.map fun p=>(p.1,p.2.1,x9.I5 T (rl.reverse++ .any::c9 ops.length .any) p.2.2))=some cs:=by
  rw [show x9.I5 T (rl.reverse++ .any::c9 ops.length .any)=rq T n rl from funext fun x=>W6 hn _ x];exact hr
 simp only [u9,u5,D6,z6.C8,if_true,E6,hr',h0,and_self,L7,newId,Option.getD_none,put,K6,r9,E5]
def lrT {x:y6}{u:List Nat}{id sz lo len s:Nat}{T2:List c8}(hx:rq T n rl x= .A8 id sz lo len:=by rfl)(hs:T[s]?.isSome=true:=by rfl)(hT:T.set s (.d (.int .i64 (len:Int)))=T2:=by simp only [List.set_cons_zero,List.set_cons_succ]<;>rfl)
  (h2:Ry A l b dr j9 ops T2 H (n+1) (.d (.int .i64 (len:Int))::rl) (.slot s::o7) Q):Ry A l b dr j9 (⟨.len x,some s,none,u⟩::ops) T H n rl o7 Q :=
 Ry.vv (v:= .d (.int .i64 (len:Int))) (rs:=[]) rfl (by simp only [n9,hx,i64]) rfl rfl hs (by rw [hT];exact h2)
def ixs {x y:y6}{u:List Nat}{id sz lo len i:Nat}{k:IntKind}(hi:i<len)(h2:Ry A l b dr j9 ops T H (n+1) (.ptr id (lo+i * sz)::rl) o7 Q)(hx:rq T n rl x= .A8 id sz lo len:=by rfl)(hy:rq T n rl y= .d (.int k ((i:Nat):Int)):=by rfl):Ry A l b dr j9 (⟨.D5 sz x y,none,none,u⟩::ops) T H n rl o7 Q :=
 Ry.pure (rs:=[]) rfl (by
  have h1:(i:Int)<len:=by omega
  simp [n9,hx,hy,h1]) h2
def Sc {x:y6}{u:List Nat}{id o m:Nat}{vs:List c8}(hr:rd H id o m=some vs)(hv:vs.map c8.J2=vs)(h2:Ry A l b dr j9 ops T H (n+1) (.agg vs::rl) o7 Q)(hx:rq T n rl x= .ptr id o:=by rfl):Ry A l b dr j9 (⟨.load (some m) x,none,none,u⟩::ops) T H n rl o7 Q :=
 Ry.pure (rs:=[id]) rfl (by simp only [n9,hx,hr,hv]) h2
def soB {m id:Nat}{x y:y6}{u:List Nat}{v:c8}{cs old:List c8}{H2:o9}(hb:A4 cs<=id+1)(hy:rq T n rl y= .ptr id 0:=by rfl)(hx:Oq T n rl x v:=by exact ⟨rfl,rfl⟩)(hc:v.cells? =some cs:=by rfl)(hm:cs.length=m:=by rfl)(hl:l.may id=true:=by rfl)
  (ho:H[id]? =some (.cells old):=by rfl) (hq:old.length=m:=by rfl) (hH:H.set id (.cells cs)=H2:=by simp only [List.set_cons_zero,List.set_cons_succ]<;>rfl)
  (h2:Ry A l b false j9 ops T H2 (n+1) (.any::rl) (.obj id::o7) Q):Ry A l b false j9 (⟨.store m y x,none,none,u⟩::ops) T H n rl o7 Q :=
 kV hy hx hc hm hl hb (by simp [wr,ho,hm,hq,splice,<- hH];rw [l5 (by omega)];simp) h2
end S
def L5 {mask:List Bool}{strict m:Nat}{T:List c8}{H:o9}(h1:A4 (U9 mask T)<=m)(h2:L8 ((H.take m).drop strict)<=m):clean mask strict m ⟨T,H⟩=⟨U9 mask T,H.take m⟩:=by
 simp [clean,h1,h2]
end
section
variable {A:Prog} {l:F2} {b:Nat}
variable {j9 ops:List p6} {T:List c8} {H:o9} {n:Nat} {rl:List c8} {o7:List Touch} {Q:List c8->o9->List c8->Prop}
namespace S
def cp {f:FuncId}{xs:List y6}{u:List Nat}{v:c8}{args:List c8}{H1:o9}(hc:Pm A f args H l v H1)(hle:H.length<=H1.length)(h2:Ry A l b false j9 ops T H1 (n+1) (v::rl) (.below H1.length::o7) Q)(ha:xs.map (rq T n rl)=args:=by rfl)(gj:A.prom f=true:=by rfl) :
  Ry A l b false j9 (⟨.call f xs,none,none,u⟩::ops) T H n rl o7 Q:=fun hn=>by
 obtain ⟨M,hc⟩:=hc;refine Rx.stepT (N1:=M) (rs:=[]) rfl (fun k hk=> ?_) (h2.to hn);have aC7 :(K8 A k l b).prom f=true:=gj;have sU :(K8 A k l b).cf f args H (K8 A k l b).lim=some (v,H1):=hc k hk;have h3:C6 (K8 A k l b) rl.reverse.length f args ⟨T,H,rl.reverse++ .any::c9 ops.length .any,o7⟩=some (put ⟨T,H1,rl.reverse++ .any::c9 ops.length .any,.below H1.length::o7⟩ rl.reverse.length v):=by
  simp only [C6,aC7,if_true,sU,hle]
 simp only [u9,u5,D6,z6.C8,if_true,E6,fE hn,ha,h3,r9,E5,put,K6]
end S
end
theorem Di (id:Nat):∀ l:List c8,H9 id l=l.map (c8.kill id)
 |[]=>rfl
 |v::l=>by simp [H9,Di id l]
def QW {id m:Nat}(rl:List c8):H9 id (rl.reverse++ .any::c9 m .any)=(H9 id rl).reverse++ .any::c9 m .any:=by
 simp [Di,c8.kill]
theorem Pm.cw {A:Prog}{f:FuncId}{args:List c8}{H H1:o9}{l:F2}{v:c8}{p:List c8->o9->F2->Option (c8×o9)}(hp:A.cw f=some p)(h:p args H l=some (v,H1)):Pm A f args H l v H1 :=
 ⟨1,fun n hn=>by
  obtain ⟨n,rfl⟩:∃ j,n=j+1:=⟨n - 1,by omega⟩;simp_all [call]⟩
section
variable {A:Prog} {l:F2} {b:Nat}
variable {dr:Bool} {j9 ops:List p6} {T:List c8} {H:o9} {n:Nat} {rl:List c8} {o7:List Touch} {Q:List c8->o9->List c8->Prop}
end
section
variable {A:Prog} {l:F2} {b:Nat}
variable {j9 ops:List p6} {T:List c8} {H:o9} {n:Nat} {rl:List c8} {o7:List Touch} {Q:List c8->o9->List c8->Prop}
namespace S
def mn {dr:Bool}{s:Nat}{T2:List c8}{u:List Nat}(hs:T[s]?.isSome=true:=by rfl)(hT:T.set s .N7=T2:=by simp only [List.set_cons_zero,List.set_cons_succ]<;>rfl)(h2:Ry A l b dr j9 ops T2 H (n+1) (.N7::rl) (.slot s::o7) Q) :
  Ry A l b dr j9 (⟨.Q3 (.const .N7),some s,none,u⟩::ops) T H n rl o7 Q:=fun hn=>by
 have hs' :s<T.length:=by
  simp_all
 refine Rx.step (N1:=0) (rs:=[]) rfl rfl (fun n _=> ?_) (dJ s o7) (h2.to hn);simp_all [u9,u5,D6,z6.C8,j3,if_false,x9.E1,put,K6,r9,E5,if_true]
def apo {x y:y6}{u:List Nat}{sz bytes id len m k2:Nat}{old cs T2 rl2:List c8}{H2:o9}(hr:roomFor (len+m) bytes=true)(hc:N4 H sz (rq T n rl y)=some (m,cs))(hol:len * sz=old.length)(hone:cs.all c8.one=true)(hbc:A4 cs=0)
  (hx:rq T n rl x= .A8 id sz 0 len:=by rfl) (hid:E3 l.base id=true:=by rfl) (Yi:E3 b id=true:=by rfl) (hl:l.may id=true:=by rfl) (ho:H[id]? =some (.cells old):=by rfl) (hsz:E3 1 sz=true:=by rfl)
  (hT:H9 id T=T2:=by rfl) (hL:H9 id rl=rl2:=by rfl) (hH:(H.take l.base++(H.drop l.base).map (u0.kill id)).set id (.cells (H9 id old++cs))=H2:=by rfl)
  (hk2:len+m=k2:=by rfl) (h2:Ry A l b false j9 ops T2 H2 (n+1) (.A8 id sz 0 k2::rl2) (.obj id::o7) Q):Ry A l b false j9 (⟨.append sz bytes true x y,none,none,u⟩::ops) T H n rl o7 Q:=fun hn=>by
 subst hT hH hL hk2;have hid:=j5 hid;have Yi:=j5 Yi;have hsz:0<sz:=j5 hsz;have hn2:(H9 id rl).length=n:=by grind [Q7]
 refine Rx.stepT (N1:=0) (rs:=[]) (by simp_all) (fun k _=> ?_) (h2.to hn2);have hl' :(K8 A k l b).lim.may id=true:=hl;have he:(K8 A k l b).lim.base<=id/\(K8 A k l b).entry<=id/\(K8 A k l b).lim.may id=true:=⟨hid,Yi,hl'⟩;have hk:A4 cs<=id:=by omega
 have h5:S6 (K8 A k l b) rl.reverse.length sz bytes ⟨T,H,rl.reverse++ .any::c9 ops.length .any,o7⟩ id 0 len (rq T n rl y)=some (put ⟨H9 id T,(H.take l.base++(H.drop l.base).map (u0.kill id)).set id (.cells (H9 id old++cs)),(H9 id rl).reverse++ .any::c9 ops.length .any,.obj id::o7⟩ rl.reverse.length (.A8 id sz 0 (len+m))):=by
  simp [S6,he,ho,hc,hol,hr,hk,hone,hsz,QW];rfl
 simp_all [H9,Q7,u9,u5,D6,z6.C8,if_true,E6,W6,r9,E5,put,K6]
end S
end
end Go.x9
namespace Go.x9.S
def gx {Γ Δ:Prop}(k:Δ)(h:PLift Δ->Γ:=by intro K;(first|refine Ex.seq ?_|refine Ex.region (Rn.text ?_)|refine Ex.region (Rn.draw ?_)|refine Ex.block ?_|refine nl ?_|refine Ex.skip ?_|refine Ex.exit ?_|refine Ex.ret ?_|refine wa ?_|refine sk ?_|refine st ?_|refine mv ?_|refine mt (h2:= ?_)|refine mo ?_|refine lp ?_|refine lpo ?_|refine fp ?_|refine ld ?_|refine lf ?_|refine ln ?_|refine li ?_|refine lo ?_|refine gi ?_|refine go ?_|refine ei ?_|refine ni ?_|refine es ?_|refine ns ?_|refine ad ?_|refine sb ?_|refine ng ?_|refine lt ?_|refine le ?_|refine lq ?_|refine lq3 ?_|refine lq2 ?_|refine o12 ?_|refine et ?_|refine ix (h2:= ?_)|refine pt ?_|refine pk ?_|refine mw (h2:= ?_)|refine ow (h2:= ?_)|refine bx (h2:= ?_)|refine bxn (h2:= ?_)|refine nk ?_|refine nki ?_|refine ac (h2:= ?_)|refine so (h2:= ?_)|refine sp1 (h2:= ?_)|refine o1 ?_|refine o1z ?_|refine ap1 (h2:= ?_)|refine e0 ?_|refine ZY (h2:= ?_)|refine al1 (h2:= ?_)|refine alN (h2:= ?_)|refine alE (h2:= ?_)|refine xs (h2:= ?_)|refine xsN (h2:= ?_)|refine ixN (h2:= ?_)|refine ixZ (h2:= ?_)|refine ls ?_|refine lnT (h2:= ?_)|refine lsT (h2:= ?_)|refine ldT (h2:= ?_)|refine lpT (h2:= ?_)|refine qs ?_|refine qb ?_|refine mm ?_|refine ip ?_|refine ipN ?_|refine ipM ?_|refine bi9 ?_|refine df ?_|refine mf ?_|refine rV ?_|refine svh (h2:= ?_)|refine svl (h2:= ?_)|refine svb (h2:= ?_)|fail);exact K.down):Γ:=h ⟨k⟩
def gr {Γ Δ:Prop}(k:Δ)(h:PLift Δ->Γ:=by intro K;(repeat' (first|refine gx ?_|fail));exact K.down):Γ:=h ⟨k⟩
def cc {p:Prop}(h:p:=by first|(simp [*,j7];done)|(simp_all [j7];done)|(simp_all [j7,y3,s9,o6,H7];done)|(simp_all [j7,y3,s9,o6,H7]<;>omega)):p:=h
section
variable {A:Prog} {l:F2} {b:Nat}
def tB {ops:List p6}{draw:Bool}{c:y6}{d e:q9}{T:List c8}{H:o9}{Q:F7->St->Prop}{Δ:Prop}(t:Bool)(k:Δ)(h2:t=true->Ex A l b d ⟨T,H⟩ Q)(h3:t=false->Ex A l b e ⟨T,H⟩ Q)
  (h:PLift Δ->Rn A l b ops draw T H fun T' H' L=>T' =T/\H' =H/\∃ t',I5 T' L c= .d (.bool t')/\t' =t:=by intro K;first|exact Rn.text K.down|exact Rn.draw K.down):Ex A l b (.test ops draw c d e) ⟨T,H⟩ Q:=Ex.VT t (h ⟨k⟩) h2 h3
def tb {ops:List p6}{draw:Bool}{c:y6}{d e:q9}{T:List c8}{H:o9}{Q:F7->St->Prop}(t:Bool)(h2:t=true->Ex A l b d ⟨T,H⟩ Q)(h3:t=false->Ex A l b e ⟨T,H⟩ Q)
  (h:Rn A l b ops draw T H fun T' H' L=>T' =T/\H' =H/\∃ t',I5 T' L c= .d (.bool t')/\t' =t:=by (first|refine Rn.text ?_|refine Rn.draw ?_|fail);(repeat' (first|refine gx ?_|refine fk (h1:=fun hw=> ?_) (h2:=fun hw=> ?_)|refine R8 (h1:=fun hw=> ?_) (h2:=fun hw=> ?_)|refine ⟨rfl,rfl,_,rfl,?_⟩|refine ⟨rfl,rfl⟩|fail));all_goals exact cc) :
  Ex A l b (.test ops draw c d e) ⟨T,H⟩ Q:=Ex.VT t h h2 h3
end
end Go.x9.S
namespace Go.x9
abbrev G8:=Int×Int
structure C5 where
 src:G8
 dst:G8
 dat:Bool
 deriving DecidableEq,Inhabited
def uz (S:List G8)(p:G8):List G8:=if p ∈ S then S else S++[p]
def lK:List G8->List G8->List G8
 |S,[]=>S
 |S,p::r=>lK (uz S p) r
def aB (S:List G8)(f:C5):List G8:=if f.src ∈ S/\f.dst ∉ S then S++[f.dst] else S
def pass:List G8->List C5->List G8
 |S,[]=>S
 |S,f::r=>pass (aB S f) r
def Lj (fs:List C5):Nat->List G8->List G8
 |0,S=>S
 |n+1,S=>if (pass S fs).length=S.length then S else Lj fs n (pass S fs)
def ov (fs:List C5)(l:List G8):List G8:=Lj fs (fs.length+1) (lK [] l)
inductive mW (fs:List C5) (l:List G8):G8->Prop
 |base {p:G8}:p ∈ l->mW fs l p
 |step {f:C5}:f ∈ fs->mW fs l f.src->mW fs l f.dst
def Ui {S:List G8}{p q:G8}:q ∈ uz S p↔q ∈ S\/q=p:=by
 grind [uz]
theorem Aj:∀ (l S:List G8) {q:G8},q ∈ lK S l↔q ∈ S\/q ∈ l
 |[],S,q=>by simp [lK]
 |p::r,S,q=>by
  rw [lK,Aj r,Ui]
  grind
theorem GP:∀ (l S:List G8),(lK S l).length<=S.length+l.length
 |[],_=>o5 _
 |p::r,S=>by
  have h1:=GP r (uz S p)
  grind [uz,lK,List.length_cons]
def DP {S:List G8}{f:C5}{q:G8}(h:q ∈ S):q ∈ aB S f:=by
 grind [aB]
def RK (S:List G8)(f:C5):S.length<=(aB S f).length/\((aB S f).length=S.length->aB S f=S/\(f.src ∈ S->f.dst ∈ S)):=by
 grind [aB]
theorem ot:∀ (fs:List C5) {S:List G8} {q:G8},q ∈ S->q ∈ pass S fs
 |[],_,_,h=>h
 |_::r,_,_,h=>ot r (DP h)
theorem tr:∀ (fs:List C5) (S:List G8),S.length<=(pass S fs).length/\((pass S fs).length=S.length->pass S fs=S/\∀ f ∈ fs,f.src ∈ S->f.dst ∈ S)
 |[],_=>⟨o5 _,fun _=>⟨rfl,by simp⟩⟩
 |f::r,S=>by
  obtain ⟨a1,a2⟩:=RK S f;obtain ⟨b1,b2⟩:=tr r (aB S f)
  grind [pass]
theorem IS {fs:List C5}{l:List G8}:∀ (gs:List C5) {S:List G8},(∀ g ∈ gs,g ∈ fs)->(∀ q ∈ S,mW fs l q)->∀ q ∈ pass S gs,mW fs l q
 |[],_,_,h=>h
 |g::r,S,hg,h=>by
  refine IS r (fun x hx=>hg x (List.mem_cons_of_mem _ hx)) fun q hq=> ?_
  unfold aB at hq;split at hq
  .rename_i hc
   rcases M4.1 hq with hq|hq
   .exact h q hq
   .simp [q6] at hq
    subst hq;exact .step (hg g List.mem_cons_self) (h _ hc.1)
  simp_all
def eY (fs:List C5)(S:List G8):Nat:=(fs.filter fun f=> !decide (f.dst ∈ S)).length
theorem Aq (fs:List C5)(S:List G8):eY fs S<=fs.length:=List.length_filter_le _ _
theorem Ar {S S' :List G8}(h:∀ q ∈ S,q ∈ S'):∀ fs:List C5,eY fs S' <=eY fs S
 |[]=>o5 _
 |f::r=>by
  have:=Ar h r
  grind [eY]
theorem tg {S S' :List G8}(h:∀ q ∈ S,q ∈ S'):∀ {fs:List C5} {f:C5},f ∈ fs->f.dst ∉ S->f.dst ∈ S' ->eY fs S' <eY fs S
 |g::r,f,hf,h1,h2=>by
  have h3:=Ar h r;unfold eY at *
  rcases B4.1 hf with rfl|hf
  .grind
  .have h4:=tg h (fs:=r) hf h1 h2
   grind [eY]
theorem AG:∀ (fs:List C5) (S:List G8),(pass S fs).length≠S.length->∃ f ∈ fs,f.dst ∉ S/\f.dst ∈ pass S fs
 |[],S,h=>absurd rfl h
 |f::r,S,h=>by
  rw [pass] at h ⊢
  by_cases hc:f.src ∈ S/\f.dst ∉ S
  .simp_all [List.mem_cons_self,ot,aB,if_pos]
  .have e:aB S f=S:=by simp_all [aB]
   rw [e] at h ⊢;obtain ⟨g,hg,h1,h2⟩:=AG r S h
   grind
theorem Hh (fs:List C5):∀ (n:Nat) (S:List G8),eY fs S<n->(∀ q ∈ S,q ∈ Lj fs n S)/\(∀ f ∈ fs,f.src ∈ Lj fs n S->f.dst ∈ Lj fs n S)
 |0,_,h=>absurd h (Nat.not_lt_zero _)
 |n+1,S,h=>by
  unfold Lj;split
  .grind [tr]
  .rename_i he
   obtain ⟨f,hf,h1,h2⟩:=AG fs S he;have:=tg (fun q hq=>ot fs hq) hf h1 h2;obtain ⟨a,b⟩:=Hh fs n (pass S fs) (by omega);simp_all [ot]
theorem Ns {fs:List C5}{l:List G8}:∀ (n:Nat) {S:List G8},(∀ q ∈ S,mW fs l q)->∀ q ∈ Lj fs n S,mW fs l q
 |0,_,h=>h
 |n+1,S,h=>by
  unfold Lj;split
  .exact h
  .exact Ns n (IS fs (fun _ h=>h) h)
def Al {fs:List C5}{l:List G8}{q:G8}:q ∈ ov fs l↔mW fs l q:=by
 have h:=Hh fs (fs.length+1) (lK [] l) (by grind [Aq,lK]);refine ⟨Ns _ (fun q hq=> .base (by simp_all [Aj])) q,fun hr=> ?_⟩
 induction hr with
 |base hp=>exact h.1 _ (by simp [Aj,hp])
 |step hf _ ih=>exact h.2 _ hf ih
theorem mW.mono {fs:List C5}{l m:List G8}(h:∀ p ∈ l,mW fs m p){q:G8}(hr:mW fs l q):mW fs m q:=by
 induction hr with
 |base hp=>exact h _ hp
 |step hf _ ih=>exact .step hf ih
def C5.rev (f:C5):C5:=⟨f.dst,f.src,f.dat⟩
def mW.at8 {fs:List C5}{p q r:G8}(h1:mW fs [p] q)(h2:mW fs [q] r):mW fs [p] r :=
 h2.mono fun x hx=>by
  simp_all
theorem mW.rev {fs:List C5}{p q:G8}(h:mW fs [p] q):mW (fs.map C5.rev) [q] p:=by
 induction h with
 |base hp =>
  simp [q6] at hp;subst hp;exact .base (q6.2 rfl)
 | @step f hf _ ih =>
  refine mW.at8 ?_ ih;exact mW.step (f:=f.rev) (List.mem_map_of_mem hf) (.base (q6.2 rfl))
def C5.rev_rev (f:C5):f.rev.rev=f:=rfl
def mW.Zd {fs:List C5}{p q:G8}:mW (fs.map C5.rev) [q] p↔mW fs [p] q:=by
 refine ⟨fun h=> ?_,.rev⟩;have:=h.rev;have e:(C5.rev∘C5.rev)=id:=funext fun f=>C5.rev_rev f
 simp_all
def kC (a b:Int):Int:=if a<b then -1 else if b<a then 1 else 0
def uH (a b:G8):Int:=if kC a.1 b.1≠0 then kC a.1 b.1 else kC a.2 b.2
def cfB (a b:Bool):Int:=if a==b then 0 else if a then -1 else 1
def SC (a b:C5):Int:=if uH a.src b.src≠0 then uH a.src b.src else if uH a.dst b.dst≠0 then uH a.dst b.dst else cfB a.dat b.dat
def Md {α:Type}(cf:α->α->Int)(x:α):List α->List α
 |[]=>[x]
 |y::l=>if cf y x<0 then y::Md cf x l else x::y::l
def DH {α:Type}(cf:α->α->Int):List α->List α
 |[]=>[]
 |x::l=>Md cf x (DH cf l)
theorem uW {α:Type}(cf:α->α->Int)(x:α):∀ l,(Md cf x l).Perm (x::l)
 |[]=>List.Perm.refl _
 |y::l=>by
  simp only [Md];split
  .exact ((uW cf x l).cons y).trans (List.Perm.swap x y l)
  .exact List.Perm.refl _
theorem mC {α:Type}(cf:α->α->Int):∀ l,(DH cf l).Perm l
 |[]=>List.Perm.refl _
 |x::l=>(uW cf x _).trans ((mC cf l).cons x)
theorem NJ {α:Type}{cf:α->α->Int}(htr:∀ a b c,¬ cf b a<0->¬ cf c b<0->¬ cf c a<0)(hto:∀ a b,cf b a<0->¬ cf a b<0)(x:α):∀ l:List α,l.Pairwise (fun a b=>¬ cf b a<0)->(Md cf x l).Pairwise fun a b=>¬ cf b a<0
 |[],_=>by simp [Md]
 |y::l,h=>by
  simp only [Md];rw [List.pairwise_cons] at h;split
  .rename_i hc
   refine List.pairwise_cons.2 ⟨fun z hz=> ?_,NJ htr hto x l h.2⟩
   rcases B4.1 ((uW cf x l).mem_iff.1 hz) with rfl|hz
   .exact hto _ _ hc
   .exact h.1 z hz
  .rename_i hc
   refine List.pairwise_cons.2 ⟨fun z hz=> ?_,List.pairwise_cons.2 h⟩
   rcases B4.1 hz with rfl|hz
   .exact hc
   .exact htr _ _ _ hc (h.1 z hz)
theorem AU {α:Type}{cf:α->α->Int}(htr:∀ a b c,¬ cf b a<0->¬ cf c b<0->¬ cf c a<0)(hto:∀ a b,cf b a<0->¬ cf a b<0):∀ l:List α,(DH cf l).Pairwise fun a b=>¬ cf b a<0
 |[]=>List.Pairwise.nil
 |x::l=>NJ htr hto x _ (AU htr hto l)
def xk {α:Type}{cf:α->α->Int}(htr:∀ a b c,¬ cf b a<0->¬ cf c b<0->¬ cf c a<0)(hto:∀ a b,cf b a<0->¬ cf a b<0)(han:∀ a b,¬ cf b a<0->¬ cf a b<0->a=b)(l:List α):(l.mergeSort fun x y=> !decide (cf y x<0))=DH cf l:=by
 refine List.Perm.eq_of_pairwise (le:=fun a b=>¬ cf b a<0) (fun a b _ _ h1 h2=>han a b h1 h2) ?_ (AU htr hto l) ((List.mergeSort_perm l _).trans (mC cf l).symm);have:=List.pairwise_mergeSort (le:=fun x y:α=> !decide (cf y x<0)) (fun a b c h1 h2=>by simp only [Bool.not_eq_true',decide_eq_false_iff_not] at *;exact htr a b c h1 h2) (fun a b=>by
  simp only [Bool.or_eq_true,Bool.not_eq_true',decide_eq_false_iff_not]
  by_cases h:cf b a<0
  .exact .inr (hto a b h)
  .exact .inl h) l
 exact this.imp (fun h=>by simpa using h)
def sortP (l:List G8):List G8:=DH uH l
def bY (l:List C5):List C5:=DH SC l
def iX (l:List C5):(bY l).Perm l:=mC _ _
theorem vI (l:List C5):(bY l).length=l.length:=(iX l).length_eq
def C5.enc (f:C5):List Data:=[num f.src.1,num f.src.2,num f.dst.1,num f.dst.2,.bool f.dat]
def nO:List Data->Option (List C5)
 |[]=>some []
 | .int .i64 a:: .int .i64 b:: .int .i64 c:: .int .i64 d:: .bool t::r=>match nO r with
  |some l=>some (⟨(a,b),(c,d),t⟩::l)
  |none=>none
 |_=>none
def vt (g:FuncId):List c8->o9->F2->Option (c8×o9)
 |[.A8 id 5 lo len,.func g' [] []],H,l=>if g' =g/\l.may id=true/\len<=1000000 then match rd H id lo (len * 5) with
   |some vs=>match M6 vs with
    |some cs=>match nO cs with
     |some fs=>match wr H id lo (((bY fs).flatMap C5.enc).map .d) with
      |some H1=>some (.tuple [],H1)
      |none=>none
     |none=>none
    |none=>none
   |none=>none
  else none
 |[.d (.slice 0 _),.func g' [] []],H,_=>if g' =g then some (.tuple [],H) else none
 |_,_,_=>none
def yw:List c8->o9->F2->Option (c8×o9)
 |[.map id],H,_=>match H[id]? with
  |some (.map es)=>match rK es with
   |some ks=>if ks.length<=1000000 then some (.own 2 ks.length (cU (sortP ks)),H) else none
   |none=>none
  |_=>none
 |_,_,_=>none
def YR:List c8->o9->F2->Option (c8×o9)
 |[x],H,_=>match rowOf 5 H x with
  |some (n,cs)=>match nO cs with
   |some fs=>if n=fs.length/\n<=1000000 then some (.own 5 fs.length ((fs.map C5.rev).reverse.flatMap C5.enc),H) else none
   |none=>none
  |none=>none
 |_,_,_=>none
def vj:List c8->o9->F2->Option (c8×o9)
 |[.d (.slice 0 _)],H,_=>some (.d (.slice 0 []),H)
 |as,H,l=>kR as H l
def Mv:List c8->Bool
 |[]=>true
 | .d _::r=>Mv r
 |_::_=>false
theorem GM:∀ l:List Data,Mv (l.map .d)=true
 |[]=>rfl
 |_::l=>GM l
theorem uA (k:Nat):∀ l:List c8,Mv l=true->H9 k l=l
 |[],_=>rfl
 | .d x::l,h=>by rw [H9,uA k l h];simp [c8.kill]
 | .ptr .. ::_,h=>by cases h
 | .A8 .. ::_,h=>by cases h
 | .S7 .. ::_,h=>by cases h
 | .map .. ::_,h=>by cases h
 | .agg .. ::_,h=>by cases h
 | .tuple .. ::_,h=>by cases h
 | .own .. ::_,h=>by cases h
 | .func .. ::_,h=>by cases h
 | .N7::_,h=>by cases h
 | .any::_,h=>by cases h
def pCl:List c8->o9->F2->Option (c8×o9)
 |[.d (.slice 0 [])],H,_=>some (.d (.slice 0 []),H)
 |[.d (.slice (n+1) cs)],[.cells a,.cells b],⟨0,0,0,0⟩=>if cs.length=(n+1) * 5/\n<1000000/\Mv a=true/\Mv b=true then some (.A8 2 5 0 (n+1),[.cells a,.cells b,.cells (cs.map .d)]) else none
 |_,_,_=>none
def nq (op:Int):Int :=
 if s8 op 1||s8 op 2 then 0 else if s8 op 3||s8 op 9||s8 op 13||s8 op 16 then 1 else if s8 op 18 then 3 else if ah 1 op&&ah op 18 then 2 else -1
def gN (k n:Int)(s:L3):Bool :=
 if s8 k 0 then s8 n 0&&M0 s [] else if s8 k 1 then ah (-4294967296) n&&ah n 4294967296&&M0 s [] else if s8 k 2 then s8 n 0&&ah s.length 32 else false
def zeroV (t:Y6):Bool:=s8 t.kind 0&&s8 t.int 0&&M0 t.text []
def cS (t:Y6):Bool :=
 if s8 t.op 1 then gN t.kind t.int t.text&& !s8 t.kind 0&&s8 t.col 0 else if s8 t.op 2 then zeroV t&&ah 0 t.col else zeroV t&&s8 t.col 0
def yu (t:Y6):Bool:= !F0 (nq t.op) 0&&cS t
def pE (op:Int):nq op<=3:=by
 grind [nq]
inductive aH where
 |node (t:Y6) (l:List aH)
mutual
def aH.flat:aH->List Y6
 | .node t l=>t::M3 l
def M3:List aH->List Y6
 |[]=>[]
 |a::l=>a.flat++M3 l
end
mutual
def aH.dep:aH->Nat
 | .node _ l=>lS l+1
def lS:List aH->Nat
 |[]=>0
 |a::l=>max a.dep (lS l)
end
mutual
def aH.wf:aH->Prop
 | .node t l=>yu t=true/\(nq t.op).toNat=l.length/\Xw l
def Xw:List aH->Prop
 |[]=>True
 |a::l=>a.wf/\Xw l
end
def eo (f:List Y6->Option (aH×List Y6)):Nat->List Y6->Option (List aH×List Y6)
 |0,r=>some ([],r)
 |k+1,r=>match f r with
  |none=>none
  |some (a,r')=>match eo f k r' with
   |none=>none
   |some (l,r2)=>some (a::l,r2)
def M9:Nat->List Y6->Option (aH×List Y6)
 |0,_=>none
 |_+1,[]=>none
 |d+1,t::r=>if yu t then match eo (M9 d) (nq t.op).toNat r with
   |none=>none
   |some (l,r')=>some (.node t l,r')
  else none
theorem Ab {f:List Y6->Option (aH×List Y6)}{d:Nat}(hf:∀ r a r',f r=some (a,r')->r=a.flat++r' /\a.wf/\a.dep<=d):∀ (k:Nat) (r:List Y6) (l:List aH) (r' :List Y6),eo f k r=some (l,r')->r=M3 l++r' /\Xw l/\lS l<=d/\l.length=k
 |0,r,l,r',h=>by
  simp_all [eo,Option.some.injEq,Prod.mk.injEq,M3,Xw,lS]
 |k+1,r,l,r',h=>by
  simp [eo] at h;split at h
  .cases h
  .rename_i a r1 h1
   split at h
   .cases h
   .rename_i l2 r2 h2
    obtain ⟨rfl,rfl⟩:=h;obtain ⟨e1,e2,e3⟩:=hf _ _ _ h1;obtain ⟨g1,g2,g3,g4⟩:=Ab hf k _ _ _ h2;refine ⟨?_,⟨e2,g2⟩,?_,by simp [g4]⟩
    all_goals grind [M3,lS]
theorem T1:∀ (d:Nat) (r:List Y6) (a:aH) (r' :List Y6),M9 d r=some (a,r')->r=a.flat++r' /\a.wf/\a.dep<=d
 |0,r,a,r',h=>by simp [M9] at h
 |d+1,[],a,r',h=>by simp [M9] at h
 |d+1,t::r,a,r',h=>by
  simp only [M9] at h;split at h
  .rename_i ht
   split at h
   .cases h
   .rename_i l r1 h1
    obtain ⟨rfl,rfl⟩:=h;obtain ⟨g1,g2,g3,g4⟩:=Ab (T1 d) _ _ _ _ h1;refine ⟨?_,⟨ht,g4.symm,g2⟩,?_⟩
    all_goals simp_all [aH.flat,aH.dep]
  .cases h
mutual
theorem Y1:∀ (a:aH) (d:Nat) (r:List Y6),a.wf->a.dep<=d->M9 d (a.flat++r)=some (a,r)
 | .node t l,0,r,_,h=>by simp [aH.dep] at h
 | .node t l,d+1,r,hw,h=>by
  simp [aH.dep] at h;obtain ⟨h1,h2,h3⟩:=hw;have h4:=qB l d r h3 (by omega);simp_all [aH.flat,List.cons_append,M9,if_true]
theorem qB:∀ (l:List aH) (d:Nat) (r:List Y6),Xw l->lS l<=d->eo (M9 d) l.length (M3 l++r)=some (l,r)
 |[],d,r,_,_=>by rfl
 |a::l,d,r,hw,h=>by
  simp [lS] at h;have h1:=Y1 a d (M3 l++r) hw.1 (by omega);have h2:=qB l d r hw.2 (by omega);simp_all [M3,E8,List.length_cons,eo]
end
mutual
theorem nK:∀ a:aH,a.dep<=a.flat.length
 | .node t l=>by
  have:=CO l;simp_all [aH.dep,aH.flat,List.length_cons]
theorem CO:∀ l:List aH,lS l<=(M3 l).length
 |[]=>by simp [lS]
 |a::l=>by
  have h1:=nK a;have h2:=CO l
  grind [lS,M3,List.length_append]
end
def iM (a:aH):0<a.flat.length:=by
 cases a;simp [aH.flat]
theorem uP:∀ l:List aH,l.length<=(M3 l).length
 |[]=>by simp
 |a::l=>by
  have:=iM a;have:=uP l
  grind [M3,List.length_append,List.length_cons]
def FJ {d d' :Nat}{r:List Y6}(h:r.length<=d)(h' :r.length<=d'):M9 d r=M9 d' r:=by
 cases h1:M9 d r with
 |some p =>
  obtain ⟨a,r'⟩:=p;obtain ⟨e,w,_⟩:=T1 d r a r' h1
  grind [nK,Y1]
 |none =>
  cases h2:M9 d' r with
  |none=>rfl
  |some p =>
   obtain ⟨a,r'⟩:=p;obtain ⟨e,w,_⟩:=T1 d' r a r' h2
   grind [nK,Y1]
def gM (op:Int)(t:List Int):Int :=
 if s8 op 3||s8 op 13 then (if s8 (nth t 0) 1 then 1 else 0)
 else if s8 op 8 then (if s8 (nth t 0) 2&&s8 (nth t 1) 2 then 2 else 0)
 else if s8 op 9 then (if s8 (nth t 0) 2 then 1 else 0)
 else if s8 op 10 then (if s8 (nth t 0) 2&&s8 (nth t 1) 1 then 2 else 0)
 else if s8 op 11||s8 op 12 then (if s8 (nth t 0) (nth t 1) then 1 else 0)
 else if s8 op 16 then 1
 else if s8 op 17 then (if s8 (nth t 0) (nth t 1) then nth t 0 else 0)
 else if s8 op 18 then (if s8 (nth t 0) 1&&s8 (nth t 1) (nth t 2) then nth t 1 else 0)
 else (if s8 (nth t 0) 1&&s8 (nth t 1) 1 then 1 else 0)
def Bq (ty:List Int)(t:Y6)(ts:List Int):Int×Int :=
 if s8 t.op 1 then (t.kind,0) else if s8 t.op 2 then (if ah ty.length t.col then (0,3) else (nth ty t.col.toNat,0))
 else if s8 (gM t.op ts) 0 then (0,5) else (gM t.op ts,0)
mutual
def aH.typ (ty:List Int):aH->Int×Int
 | .node t l=>if s8 (gv ty l).2 0 then Bq ty t (gv ty l).1 else (0,(gv ty l).2)
def gv (ty:List Int):List aH->List Int×Int
 |[]=>([],0)
 |a::l=>if s8 (a.typ ty).2 0 then ((a.typ ty).1::(gv ty l).1,(gv ty l).2) else ([],(a.typ ty).2)
end
def bG (ty:List Int):Bool:=ty.all fun t=>s8 t 1||s8 t 2
def fK (e:List Y6):Option aH:=if ah 1 e.length&&ah e.length 64 then match M9 16 e with
  |some (a,[])=>some a
  |_=>none
 else none
def G7 (e:List Y6)(ty:List Int):Int×Int:=match fK e with
 |none=>(0,1)
 |some a=>if bG ty then a.typ ty else (0,1)
def yq {α:Type} [Inhabited α] (i:Nat):nth ([]:List α) i=default:=by simp [nth]
def FN (ty:List Int)(t:Y6)(a b c:Int):Int×Bool :=
 if s8 t.op 1 then (t.kind,true) else if s8 t.op 2 then (nth ty t.col.toNat,true)
 else if s8 t.op 3||s8 t.op 13 then (1,s8 a 1)
 else if s8 t.op 8 then (2,s8 a 2&&s8 b 2)
 else if s8 t.op 9 then (1,s8 a 2)
 else if s8 t.op 10 then (2,s8 a 2&&s8 b 1)
 else if s8 t.op 11||s8 t.op 12 then (1,s8 a b)
 else if s8 t.op 16 then (1,true)
 else if s8 t.op 17 then (a,s8 a b)
 else if s8 t.op 18 then (b,s8 a 1&&s8 b c)
 else (1,s8 a 1&&s8 b 1)
def good (x:Int):Prop:=x=1\/x=2
def IG {l:List Int}(h:∀ x,x ∈ l->good x){i:Nat}(hn:nth l i≠0):good (nth l i):=by
 simp_all [nth]<;>grind
theorem LW {ty:List Int}(h:bG ty=true):∀ x,x ∈ ty->good x:=by
 intro x hx;have:=L9.1 h x hx;simp_all [o6,good]
def JN {op:Int}{ts:List Int}(h:∀ x,x ∈ ts->good x)(hn:gM op ts≠0):good (gM op ts):=by
 unfold gM at hn ⊢;split
 .rename_i h1;rw [if_pos h1] at hn;split at hn<;>simp_all [good]
 rename_i h1;rw [if_neg h1] at hn;split
 .rename_i h1;rw [if_pos h1] at hn;split at hn<;>simp_all [good]
 rename_i h1;rw [if_neg h1] at hn;split
 .rename_i h1;rw [if_pos h1] at hn;split at hn<;>simp_all [good]
 rename_i h1;rw [if_neg h1] at hn;split
 .rename_i h1;rw [if_pos h1] at hn;split at hn<;>simp_all [good]
 rename_i h1;rw [if_neg h1] at hn;split
 .rename_i h1;rw [if_pos h1] at hn;split at hn<;>simp_all [good]
 rename_i h1;rw [if_neg h1] at hn;split
 .exact Or.inl rfl
 rename_i h1;rw [if_neg h1] at hn;split
 .rename_i h1;rw [if_pos h1] at hn
  split at hn
  .rename_i h2;rw [if_pos h2];exact IG h hn
  .exact absurd rfl hn
 rename_i h1;rw [if_neg h1] at hn;split
 .rename_i h1;rw [if_pos h1] at hn
  split at hn
  .rename_i h2;rw [if_pos h2];exact IG h hn
  .exact absurd rfl hn
 rename_i h1;rw [if_neg h1] at hn;split at hn<;>simp_all [good]
mutual
theorem JM {ty:List Int}(yh:bG ty=true):∀ a:aH,a.wf->s8 (a.typ ty).2 0=true->good (a.typ ty).1
 | .node t l,hw,h=>by
  obtain ⟨hok,har,Ia⟩:=hw;simp [aH.typ] at h ⊢;split
  .have hl:=vR yh l Ia
   simp [Bq] at h ⊢;split
   .rename_i h2
    simp [yu,cS,h2,if_true,Bool.and_eq_true] at hok;have h3:=hok.2.1.1;unfold gN at h3
    grind [good,aQ]
   .split
    .split
     .simp_all [if_pos,o6]
     .rename_i h4
      have h5:=Ac (Bool.not_eq_true _ ▸ h4);have h6:0<=t.col:=by
       simp_all [yu,cS,if_true,j3,if_false,Bool.and_eq_true,qD]
      grind [LW,O7]
    .split
     all_goals simp_all [if_pos,o6,JN]
  simp_all
theorem vR {ty:List Int}(yh:bG ty=true):∀ l:List aH,Xw l->∀ x,x ∈ (gv ty l).1->good x
 |[],_,x,h=>by simp [gv] at h
 |a::l,hw,x,h=>by
  simp [gv] at h;split at h
  .rename_i h1
   rcases B4.1 h with rfl|h
   .exact JM yh a hw.1 h1
   .exact vR yh l hw.2 x h
  .cases h
end
def ZF {ty:List Int}{t:Y6}{ts:List Int}(hts:∀ x,x ∈ ts->good x)(hc:s8 t.op 2=true->ah ty.length t.col=false)
  (h17:s8 t.op 17=true->0<ts.length) (h18:s8 t.op 18=true->1<ts.length) :
  Bq ty t ts=if (FN ty t (nth ts 0) (nth ts 1) (nth ts 2)).2 then ((FN ty t (nth ts 0) (nth ts 1) (nth ts 2)).1,0) else (0,5):=by
 unfold Bq FN;cases d1:s8 t.op 1 with
 |true=>rfl
 |false =>
 cases d2:s8 t.op 2 with
 |true=>simp_all
 |false =>
 have z1:s8 1 0=false:=by simp [o6]
 have z2:s8 2 0=false:=by simp [o6]
 have z0:s8 0 0=true:=by simp [o6]
 have sel:∀ (b:Bool) (x:Int),(b=true->s8 x 0=false)->(if s8 (if b=true then x else 0) 0=true then ((0:Int),(5:Int)) else (if b=true then x else 0,0))=if b=true then (x,0) else (0,5):=by
  simp_all
 have gz:∀ {i:Nat},i<ts.length->s8 (nth ts i) 0=false:=fun {i} hi=>by
  grind [O7,good,o6]
 unfold gM;cases c1:(s8 t.op 3||s8 t.op 13) with
 |true=>grind
 |false =>
 cases c2:s8 t.op 8 with
 |true=>grind
 |false =>
 cases c3:s8 t.op 9 with
 |true=>grind
 |false =>
 cases c4:s8 t.op 10 with
 |true=>grind
 |false =>
 cases c5:(s8 t.op 11||s8 t.op 12) with
 |true=>grind
 |false =>
 cases c6:s8 t.op 16 with
 |true=>simp [z1]
 |false =>
 grind
open List
def iD (a b:G8):uH a b<0↔a.1<b.1\/(a.1=b.1/\a.2<b.2):=by
 unfold uH kC;split<;>(repeat' split)<;>omega
def Yy (a b:G8):(!decide (uH b a<0))=true↔a.1<b.1\/(a.1=b.1/\a.2<=b.2):=by
 simp only [Bool.not_eq_true',decide_eq_false_iff_not,iD];omega
def mD (l:List G8):(sortP l).Perm l:=mC _ _
def uZ {l:List G8}{p:G8}:p ∈ sortP l↔p ∈ l:=(mD l).mem_iff
def ij (l:List G8):(sortP l).length=l.length:=(mD l).length_eq
def Jv (l:List G8):(sortP l).Pairwise fun a b=>(!decide (uH b a<0))=true :=
 (AU (fun a b c h1 h2=>by rw [iD] at *;omega) (fun a b h=>by rw [iD] at *;omega) l).imp fun h=>by simpa using h
def Cy {l m:List G8}(h:l.Perm m):sortP l=sortP m:=by
 refine ((mD l).trans (h.trans (mD m).symm)).eq_of_pairwise (fun a b _ _ h1 h2=> ?_) (Jv l) (Jv m);rw [Yy] at h1 h2;exact Prod.ext (by omega) (by omega)
def Ji (fs:List C5)(l:List G8):List G8:=sortP (ov fs l)
def Ul {fs:List C5}{l:List G8}{p:G8}:p ∈ Ji fs l↔mW fs l p:=by rw [Ji,uZ,Al]
end Go.x9
namespace Go.x9.S
section
variable {A:Prog} {l:F2} {b:Nat} {dr:Bool}
variable {j9 ops:List p6} {T:List c8} {H:o9} {n:Nat} {rl:List c8} {o7:List Touch} {Q:List c8->o9->List c8->Prop}
def lqo {x:y6}{m id o:Nat}{cs:List c8}{u:List Nat}(h2:Ry A l b dr j9 ops T H (n+1) (.agg cs::rl) o7 Q)(hx:rq T n rl x= .ptr id o:=by rfl)(hr:rd H id o m=some cs:=by rfl)(hv:cs.map c8.J2=cs:=by rfl) :
  Ry A l b dr j9 (⟨.load (some m) x,none,none,u⟩::ops) T H n rl o7 Q:=Ry.pure (rs:=[id]) rfl (by simp only [n9,hx,hr,hv]) h2
def mkm {u:List Nat}{id:Nat}{H2:o9}(hi:H.length=id:=by simp only [List.length_cons,List.length_nil,Nat.reduceAdd]<;>rfl)(hH:H++[.map []]=H2:=by simp only [List.cons_append,List.nil_append]<;>rfl)
  (h2:Ry A l b false j9 ops T H2 (n+1) (.map id::rl) o7 Q):Ry A l b false j9 (⟨.makeMap,none,none,u⟩::ops) T H n rl o7 Q:=fun hn=>by
 subst hi;have h2:=h2.to hn;rw [<- hH] at h2;refine Rx.stepT (N1:=0) (rs:=[]) rfl (fun n _=> ?_) h2;simp only [u9,u5,D6,z6.C8,if_true,E6,L7,newId,Option.getD_none,put,K6,r9,E5]
end
end Go.x9.S
namespace Go.x9
section
variable {A:Prog} {l:F2} {b:Nat}
variable {j9 ops:List p6} {T:List c8} {H:o9} {n:Nat} {rl:List c8} {o7:List Touch} {na nb:Nat} {Q:List c8->o9->List c8->Prop}
namespace S
end S
end
section
variable {A:Prog} {l:F2} {b:Nat}
variable {j9 ops:List p6} {T:List c8} {H:o9} {n:Nat} {rl:List c8} {o7:List Touch} {na nb:Nat} {Q:List c8->o9->List c8->Prop}
namespace S
section
variable {dr:Bool}
def ixo {x y:y6}{u:List Nat}{sz id lo len:Nat}{k:IntKind}{e:Int}(h0:0<=e/\e<len)(h2:Ry A l b dr j9 ops T H (n+1) (.ptr id (lo+e.toNat * sz)::rl) o7 Q)(hx:rq T n rl x= .A8 id sz lo len:=by rfl)(hy:rq T n rl y= .d (.int k e):=by rfl) :
  Ry A l b dr j9 (⟨.D5 sz x y,none,none,u⟩::ops) T H n rl o7 Q:=Ry.pure (rs:=[]) rfl (by simp only [n9,hx,hy,h0,and_self,if_true]) h2
end
end S
def iv (n:Int):c8:= .d (num n)
end
section
variable {A:Prog} {l:F2} {b:Nat}
theorem Ex.fz {s:Nat}{st st' :St}{Q:F7->St->Prop}(h:nR l b s st=some st')(h2:Q .normal st'):Ex A l b (.fz s) st Q:=⟨_,_,0,h2,fun n _=>by
 simp_all [nR,K8,exec]⟩
def XZ {lim:F2}{s z n:Nat}{xs:List Data}{T:List c8}{H:o9}(hT:T[s]? =some (.own z n xs))(h0:n≠0)(hb:lim.base=0)(hs:lim.strict=0)(hf:xs.all Data.flat=true) :
  nR lim 0 s ⟨T,H⟩=some ⟨(R4 T).set s (.A8 H.length z 0 n),H.map u0.forget++[.cells (xs.map .d)]⟩:=by
 simp_all [nR,wG,MY,if_false,and_self,if_true]
def Tu {lim:F2}{s z:Nat}{xs:List Data}{T:List c8}{H:o9}(hT:T[s]? =some (.own z 0 xs)):nR lim 0 s ⟨T,H⟩=some ⟨T,H⟩:=by
 simp_all [nR,wG,MY]
def XY {lim:F2}{s z n p:Nat}{xs:List Data}{T:List c8}{H:o9}(hT:T[s]? =some (.ptr p 0))(hH:H[p]? =some (.cells [.own z n xs]))(h0:n≠0)(hb:lim.base=0)(hs:lim.strict=0)(hf:xs.all Data.flat=true) :
  nR lim 0 s ⟨T,H⟩=some ⟨R4 T,(H.map u0.forget).set p (.cells [.A8 H.length z 0 n])++[.cells (xs.map .d)]⟩:=by
 simp_all [nR,wG,dF,MY,wU,if_false,and_self,if_true,R4,c8.forget,List.set_cons_zero]
def Tt {lim:F2}{s z p:Nat}{xs:List Data}{T:List c8}{H:o9}(hT:T[s]? =some (.ptr p 0))(hH:H[p]? =some (.cells [.own z 0 xs])):nR lim 0 s ⟨T,H⟩=some ⟨T,H⟩:=by
 simp_all [nR,wG,dF,MY,wU,if_true]
def HE {α:Type}{enc:α->List Data}(h:∀ a,(enc a).all Data.flat=true):∀ l:List α,(l.flatMap enc).all Data.flat=true
 |[]=>rfl
 |a::l=>by grind
end
namespace S
section
variable {A:Prog} {l:F2} {b:Nat} {dr:Bool} {j9 ops:List p6} {T:List c8} {H:o9} {n:Nat} {rl:List c8} {o7:List Touch} {Q:List c8->o9->List c8->Prop}
def aG0:∀ cs:List Data,(cs.map c8.d).all c8.one=true
 |[]=>rfl
 |c::cs=>by
  simp_all [F4,List.all_cons,c8.one,Bool.and_self]
def oN {α:Type}{enc:α->List Data}(a:α){sz:Nat}{zero:List c8}{x:y6}{u:List Nat}(h2:Ry A l b dr j9 ops T H (n+1) (.own sz 1 (enc a)::rl) o7 Q)(hx:rq T n rl x= .agg ((enc a).map .d):=by rfl)(hc:(enc a).length=sz:=by rfl)(hz:zero.length=sz:=by rfl)(h0:E3 1 sz=true:=by rfl) :
  Ry A l b dr j9 (⟨.A2 sz 1 zero [(0,sz,x)] false,none,none,u⟩::ops) T H n rl o7 Q:=by
 have h0' :=j5 h0;have h1:bA zero [(0,sz,c8.agg ((enc a).map .d))]=some ((enc a).map .d):=by
  simp only [bA,c8.cells?,aG0,splice,List.take_zero];simp_all
 refine Ry.pure (rs:=[]) rfl ?_ h2;simp [n9,F4,List.map_nil,hx,h1,aZ,and_true]
 grind
def msv {s:Nat}{w:c8}{x:Data}{u:List Nat}(hw:w= .d x\/∃ z,w= .own z 0 []/\x= .slice 0 [])(h2:Ry A l b dr j9 ops T H (n+1) (.d x::rl) o7 Q)(hT:T[s]? =some w:=by rfl) :
  Ry A l b dr j9 (⟨.Q3 (.slot s),none,none,u⟩::ops) T H n rl o7 Q:=by
 rcases hw with rfl|⟨z,rfl,rfl⟩
 .exact mv h2 ⟨hT,rfl⟩
 grind [mo]
def sG {f:FuncId}{xs:List y6}{u:List Nat}{v:c8}{args:List c8}(hc:Pf A f args v)(h2:Ry A l b dr j9 ops T H (n+1) (v::rl) (.below 0::o7) Q)(ha:xs.map (rq T n rl)=args:=by rfl)(hb:A4 args=0:=by rfl)(gj:A.prom f=false:=by rfl)(hm:A.mode f=0:=by rfl)
  (mY:(⟨l.Tm,l.Ti,0,C9 H l.strict 0⟩:F2)=S8:=by rfl):Ry A l b dr j9 (⟨.call f xs,none,none,u⟩::ops) T H n rl o7 Q:=fun hn=>by
 obtain ⟨M,hc⟩:=hc;have h3:∀ k,M<=k->C6 (K8 A k l b) rl.reverse.length f args ⟨T,H,rl.reverse++ .any::c9 ops.length .any,o7⟩=some (put ⟨T,[]++H.drop 0,rl.reverse++ .any::c9 ops.length .any,.below 0::o7⟩ rl.reverse.length v):=fun k hk =>
  nC (m:=0) (l2:=S8) gj hm (by simp_all [E9]) (Nat.zero_le _) (by simp_all [L8]) mY (by exact hc k hk) rfl
 refine Rx.step (N1:=M) (rs:=[]) rfl rfl (fun k hk=> ?_) (fun rs=> ?_) (h2.to hn)
 all_goals simp_all [u9,u5,D6,z6.C8,if_true,E6,fE,r9,E5,put,K6,List.drop_zero,List.nil_append,G9,Touch.K0]
def az2 {f:FuncId}{x:y6}{xs:List y6}{first caps:List c8}{u:List Nat}{v:c8}{args:List c8}(hc:Pf A f args v)(h2:Ry A l b dr j9 ops T H (n+1) (v::rl) (.below 0::o7) Q)(hx:rq T n rl x= .func f first caps:=by rfl)(ha:first++xs.map (rq T n rl)++caps=args:=by rfl)(hb:A4 args=0:=by rfl)(gj:A.prom f=false:=by rfl)(hm:A.mode f=0:=by rfl)
  (mY:(⟨l.Tm,l.Ti,0,C9 H l.strict 0⟩:F2)=S8:=by rfl):Ry A l b dr j9 (⟨.an x xs,none,none,u⟩::ops) T H n rl o7 Q:=fun hn=>by
 obtain ⟨M,hc⟩:=hc;have h3:∀ k,M<=k->C6 (K8 A k l b) rl.reverse.length f args ⟨T,H,rl.reverse++ .any::c9 ops.length .any,o7⟩=some (put ⟨T,[]++H.drop 0,rl.reverse++ .any::c9 ops.length .any,.below 0::o7⟩ rl.reverse.length v):=fun k hk =>
  nC (m:=0) (l2:=S8) gj hm (by simp_all [E9]) (Nat.zero_le _) (by simp_all [L8]) mY (by exact hc k hk) rfl
 refine Rx.step (N1:=M) (rs:=[]) rfl rfl (fun k hk=> ?_) (fun rs=> ?_) (h2.to hn)
 all_goals simp_all [u9,u5,D6,z6.C8,if_true,E6,W6,fE,r9,E5,put,K6,List.drop_zero,List.nil_append,G9,Touch.K0]
def ba2 {f:FuncId}{xs:List y6}{u:List Nat}{z n0:Nat}{cs:List Data}{args:List c8}{s:Nat}{T2:List c8}(hc:Pf A f args (.own z n0 cs))(ha:xs.map (rq T n rl)=args:=by rfl)(gj:A.prom f=false:=by rfl)(hm:A.mode f=1:=by rfl)
  (hb:A4 args=0:=by rfl) (hs:T[s]?.isSome=true:=by rfl) (hT:T.set s (.own z n0 cs)=T2:=by simp only [List.set_cons_zero,List.set_cons_succ]<;>rfl)
  (h2:Ry A l b dr j9 ops T2 H (n+1) (.d (.slice n0 cs)::rl) (.slot s::o7) Q):Ry A l b dr j9 (⟨.call f xs,some s,none,u⟩::ops) T H n rl o7 Q:=fun hn=>by
 obtain ⟨M,hc⟩:=hc;have hs:s<T.length:=by
  simp_all
 have h2:=h2.to hn;refine Rx.step (N1:=M) (rs:=[]) rfl rfl (fun k hk=> ?_) (dJ s o7) h2;have h3:C6 (K8 A k l b) rl.reverse.length f args ⟨T,H,rl.reverse++ .any::c9 ops.length .any,o7⟩=some (put ⟨T,H,rl.reverse++ .any::c9 ops.length .any,o7⟩ rl.reverse.length (.own z n0 cs)) :=
  fM gj hm hb (hc k hk)
 have ha' :xs.map (x9.I5 T (rl.reverse++ .any::c9 ops.length .any))=args:=by
  rw [show x9.I5 T (rl.reverse++ .any::c9 ops.length .any)=rq T n rl from funext fun x=>W6 hn _ x];exact ha
 have h5:x9.E1 ⟨T,H,rl.reverse++ .own z n0 cs::c9 ops.length .any,o7⟩ (.loc rl.reverse.length)=(.own z n0 cs,⟨T,H,rl.reverse++ .d (.slice n0 cs)::c9 ops.length .any,o7⟩):=by
  simp_all [x9.E1]
 simp_all [u9,u5,D6,z6.C8,if_true,E6,r9,E5,put,K6]
def bk0 {k:Nat}{cs:List Data}{x:y6}{u:List Nat}{s:Nat}{T2:List c8}(hx:rq T n rl x= .d (.slice k cs):=by rfl)(hs:T[s]?.isSome=true:=by rfl)(hT:T.set s (.d (.int .i64 k))=T2:=by simp only [List.set_cons_zero,List.set_cons_succ]<;>rfl)
  (h2:Ry A l b dr j9 ops T2 H (n+1) (.d (.int .i64 k)::rl) (.slot s::o7) Q):Ry A l b dr j9 (⟨.len x,some s,none,u⟩::ops) T H n rl o7 Q :=
 Ry.vv (v:= .d (.int .i64 k)) (rs:=[]) rfl (by grind [n9,i64]) rfl rfl hs (by simp_all)
def bsv {sz len:Nat}{zero:List c8}{parts:List (Nat×Nat×y6)}(cs:List Data){u:List Nat}(h2:Ry A l b dr j9 ops T H (n+1) (.own sz len cs::rl) o7 Q)(hr:bA zero (parts.map fun p=>(p.1,p.2.1,rq T n rl p.2.2))=some (cs.map .d):=by rfl)(hl:cs.length=len * sz:=by rfl)(h0:E3 1 sz=true:=by rfl) :
  Ry A l b dr j9 (⟨.A2 sz len zero parts false,none,none,u⟩::ops) T H n rl o7 Q:=by
 have h0' :=j5 h0;refine Ry.pure (rs:=[]) rfl ?_ h2;have hr' :bA zero (parts.map fun x=>match x with|(o,s,x)=>(o,s,rq T n rl x))=some (cs.map .d):=hr;simp [n9,hr',aZ,hl]
 grind
def owS {j s d z n0 n' :Nat}{cs cs' :List Data}{u u' :List Nat}{d' :Option Nat}{g' :Option (Nat×Bool)}{T2:List c8}(h2:Ry A l b dr j9 ops T2 H (n+1) (.d (.slice n0 cs)::rl) (.slot d:: .slot s::o7) Q)
  (hj:lk n rl j=some (.d (.slice n' cs')):=by rfl) (ha:j9[j]? =some ⟨.Q3 (.slot s),d',g',u'⟩:=by rfl) (ht:o7.any (Touch.S4 s)=false:=by rfl) (hT:T[s]? =some (.own z n0 cs):=by rfl)
  (hs:T[d]?.isSome=true:=by rfl) (hT2:(T.set s (.d (.slice n0 cs))).set d (.own z n0 cs)=T2:=by simp only [List.set_cons_zero,List.set_cons_succ]<;>rfl) :
  Ry A l b dr j9 (⟨.own z (.loc j),some d,none,u⟩::ops) T H n rl o7 Q:=fun hn=>by
 have hj' :rl.reverse[j]? =some (.d (.slice n' cs')):=by simp_all [gK]
 have hjl:j<rl.reverse.length:=by
  grind
 have hs' :d<(T.set s (.d (.slice n0 cs))).length:=by
  simp_all
 have hL:∀ r:List c8,(rl.reverse++ .any::r)[j]? =some (.d (.slice n' cs')):=fun r=>by grind
 have h2:=h2.to hn;rw [<- hT2] at h2;refine Rx.step (N1:=0) (rs:=[]) rfl rfl (fun k _=> ?_) (fun rs=> ?_) h2
 .have h5:x9.E1 ⟨T.set s (.d (.slice n0 cs)),H,rl.reverse++ .own z n0 cs::c9 ops.length .any,.slot s::o7⟩ (.loc rl.reverse.length)=(.own z n0 cs,⟨T.set s (.d (.slice n0 cs)),H,rl.reverse++ .d (.slice n0 cs)::c9 ops.length .any,.slot s::o7⟩):=by
   simp_all [x9.E1]
  simp only [u9,u5,D6,z6.C8,if_true,E6,O8,hL,ha,W8,ht,hT,j3,if_false,put,K6,r9,E5,hs',h5]
 .have:o7.length+1+1 - o7.length=2:=by omega
  simp [G9,this,Touch.K0]
def moT {s d z n0:Nat}{cs:List Data}{u:List Nat}{T2:List c8}(hx:T[s]? =some (.own z n0 cs):=by rfl)(hs:T[d]?.isSome=true:=by rfl)(hT:T.set d (.d (.slice n0 cs))=T2:=by simp only [List.set_cons_zero,List.set_cons_succ]<;>rfl)
  (h2:Ry A l b dr j9 ops T2 H (n+1) (.d (.slice n0 cs)::rl) (.slot d::o7) Q):Ry A l b dr j9 (⟨.Q3 (.slot s),some d,none,u⟩::ops) T H n rl o7 Q:=fun hn=>by
 have hs' :d<T.length:=by
  simp_all
 have h2:=h2.to hn;refine Rx.step (N1:=0) (rs:=[]) rfl rfl (fun k _=> ?_) (dJ d o7) h2;have e1:∀ r,x9.E1 ⟨T,H,r,o7⟩ (.slot s)=(.d (.slice n0 cs),⟨T,H,r,o7⟩):=fun r=>by simp [x9.E1,x9.I5,hx,c8.J2]
 have h5:x9.E1 ⟨T,H,rl.reverse++ .d (.slice n0 cs)::c9 ops.length .any,o7⟩ (.loc rl.reverse.length)=(.d (.slice n0 cs),⟨T,H,rl.reverse++ .d (.slice n0 cs)::c9 ops.length .any,o7⟩):=by
  simp_all [x9.E1,x9.I5,c8.J2]
 simp_all [u9,u5,D6,z6.C8,j3,if_false,put,K6,r9,E5,if_true]
def acN {α:Type}{enc:α->List Data}{xs:List α}(a:α){j k sz bytes id off:Nat}{y:y6}{u u' :List Nat}{d' :Option Nat}{g' :Option (Nat×Bool)}{n' :Nat}{cs' :List Data}{old new:List c8}{H2:o9}
  (hr:roomFor (xs.length+1) bytes=true) (hy:rq T n rl y= .d (.slice 1 (enc a)):=by rfl) (hs:(enc a).length=1 * sz:=by rfl) (h0:E3 1 sz=true:=by rfl) (hj:lk n rl j=some (.d (.slice n' cs')):=by rfl) (ha:j9[j]? =some ⟨.load none (.loc k),d',g',u'⟩:=by rfl) (hk:lk n rl k=some (.ptr id off):=by rfl) (ht:o7.any (Touch.bP id off)=false:=by rfl) (hl:l.may id=true:=by rfl) (ho:H[id]? =some (.cells old):=by rfl) (hc:old[off]? =some (C4 sz enc xs):=by rfl)
  (hN:old.set off (.d (z8 enc xs))=new:=by rfl) (hH:H.set id (.cells new)=H2:=by simp only [List.set_cons_zero,List.set_cons_succ]<;>rfl)
  (h2:Ry A l b dr j9 ops T H2 (n+1) (C4 sz enc (xs++[a])::rl) (.cell id off::o7) Q):Ry A l b dr j9 (⟨.append sz bytes false (.loc j) y,none,none,u⟩::ops) T H n rl o7 Q :=
 Ry.ah7 hj ha hk ht hl ho hc hy hs hr (j5 h0) (by
  have e1:C4 sz enc (xs++[a])= .own sz (xs.length+1) (xs.flatMap enc++enc a):=by simp [C4]
  rw [e1] at h2;subst hH hN;exact h2)
end
end S
section
variable {α:Type} [Inhabited α] {enc:α->List Data} {sz:Nat} {H:o9} {id:Nat} {xs:List α}
def AI (hs:∀ a,(enc a).length=sz)(h:H[id]? =some (.cells ((xs.flatMap enc).map .d))){i:Nat}(hi:i<xs.length):rd H id (0+i * sz) sz=some ((enc (nth xs i)).map .d):=by
 have h1:i * sz+sz<=xs.length * sz:=by rw [<- Nat.succ_mul];exact Nat.mul_le_mul_right _ hi
 simp only [rd,h,List.length_map,au hs,Nat.zero_add,h1,if_true,Option.some.injEq];rw [<- List.map_drop,<- List.map_take,uN hs,B9 hi];simp only [List.flatMap_cons];rw [List.take_append_of_le_length (by rw [hs];exact o5 _),B5 (by rw [hs];exact o5 _)]
def Wg (hs:∀ a,(enc a).length=sz){ys zs:List α}{z:α}(h:H[id]? =some (.cells (((ys++z::zs).flatMap enc).map .d)))(x:α) :
  wr H id (0+ys.length * sz) ((enc x).map .d)=some (H.set id (.cells (((ys++x::zs).flatMap enc).map .d))):=by
 have e:(((ys++z::zs).flatMap enc).map c8.d)=((ys.flatMap enc).map .d)++(((enc z).map .d)++((zs.flatMap enc).map .d)):=by simp
 have l1:((ys.flatMap enc).map c8.d).length=ys.length * sz:=by rw [List.length_map,au hs]
 have l2:((enc z).map c8.d).length=sz:=by rw [List.length_map,hs]
 have l3:((enc x).map c8.d).length=sz:=by rw [List.length_map,hs]
 simp only [wr,h,e,Nat.zero_add,splice];rw [if_pos (by simp only [List.length_append,l1,l2,l3];omega)];rw [<- l1,List.take_left,List.drop_append,List.drop_eq_nil_of_le (by rw [l3];omega)];have e2:((ys.flatMap enc).map c8.d).length+((enc x).map c8.d).length - ((ys.flatMap enc).map c8.d).length=((enc z).map c8.d).length:=by rw [l3,l2];omega
 rw [e2,List.drop_left];simp
end
namespace S
section
variable {A:Prog} {l:F2} {b:Nat} {dr:Bool} {j9 ops:List p6} {T:List c8} {H:o9} {n:Nat} {rl:List c8} {o7:List Touch} {Q:List c8->o9->List c8->Prop}
def lnr {x:y6}{u:List Nat}{id sz lo len:Nat}(h2:Ry A l b dr j9 ops T H (n+1) (.d (.int .i64 (len:Int))::rl) o7 Q)(hx:rq T n rl x= .A8 id sz lo len:=by rfl):Ry A l b dr j9 (⟨.len x,none,none,u⟩::ops) T H n rl o7 Q :=
 Ry.pure (rs:=[]) rfl (by simp only [n9,hx,i64]) h2
def svr {x y:y6}{u:List Nat}{id sz lo len i:Nat}{k:IntKind}(hi:i<len)(h2:Ry A l b dr j9 ops T H (n+1) (.A8 id sz (lo+i * sz) (len - i)::rl) o7 Q)(hx:rq T n rl x= .A8 id sz lo len:=by rfl)(hy:rq T n rl y= .d (.int k ((i:Nat):Int)):=by rfl) :
  Ry A l b dr j9 (⟨.Y8 sz x (some y) none,none,none,u⟩::ops) T H n rl o7 Q :=
 Ry.pure (rs:=[]) rfl (by
  have h1:((i:Nat):Int)<=len:=by omega
  have h3:¬ ((i:Nat):Int)=len:=by omega
  have h4:((len:Int) - i).toNat=len - i:=by omega
  simp [n9,hx,hy,W7,h1,h3,h4]) h2
def svf {x y:y6}{u:List Nat}{id sz lo len i:Nat}{k:IntKind}(hi:i<=len)(h0:0<i)(h2:Ry A l b dr j9 ops T H (n+1) (.A8 id sz lo i::rl) o7 Q)(hx:rq T n rl x= .A8 id sz lo len:=by rfl)(hy:rq T n rl y= .d (.int k ((i:Nat):Int)):=by rfl) :
  Ry A l b dr j9 (⟨.Y8 sz x none (some y),none,none,u⟩::ops) T H n rl o7 Q :=
 Ry.pure (rs:=[]) rfl (by
  have h1:((i:Nat):Int)<=len:=by omega
  have h3:¬ (0:Int)=((i:Nat):Int):=by omega
  simp [n9,hx,hy,W7,h1,h3]) h2
def clS {x:y6}{u:List Nat}{id sz lo len:Nat}{zero:List c8}{H2:o9}(hw:wr H id lo ((c9 len zero).flatten)=some H2)(h2:Ry A l b false j9 ops T H2 (n+1) (.tuple []::rl) (.obj id::o7) Q)(hx:rq T n rl x= .A8 id sz lo len:=by rfl)(hz:zero.length=sz:=by rfl)(hb:A4 zero=0:=by rfl)(hl:l.may id=true:=by rfl) :
  Ry A l b false j9 (⟨.clear sz zero x,none,none,u⟩::ops) T H n rl o7 Q:=fun hn=>by
 refine Rx.stepT (N1:=0) (rs:=[]) rfl (fun k _=> ?_) (h2.to hn);have hl' :(K8 A k l b).lim.may id=true:=hl;simp only [u9,u5,D6,z6.C8,if_true,E6,W6 hn,hx,X9,hz,hb,hl',and_self,hw,put,K6,r9,E5]
end
end S
section
variable {A:Prog} {l:F2} {b:Nat}
def inU (j9:List p6)(k:Nat):Bool:=j9.any fun i=>i.op.Sf&&i.aX.contains k
def LV (j9:List p6)(nb k:Nat)(e:jj):Prop :=
 (∀ r ∈ e.reads,r<nb)/\(inU j9 k=true->∀ rs:List Nat,(∀ r ∈ rs,r<nb)->G9 e.Fs rs=false)/\(∀ i,j9[k]? =some i->i.op.Sf=false->e.reads=[])
def Rv (A:Prog)(l:F2)(b:Nat)(j9 ops:List p6)(T:List c8)(H:o9)(n:Nat)(rl:List c8)(o7:List Touch)(na nb:Nat)(Q:List c8->o9->List c8->Prop):Prop :=
 rl.length=n->nb<=na->∃ r N,Q r.T r.H r.L/\∀ k,N<=k->∃ lg:List jj,P6 (K8 A k l b) j9 ops n na ⟨T,H,rl.reverse++c9 ops.length .any,o7⟩=some (r,lg)/\lg.length=ops.length/\∀ j e,lg[j]? =some e->LV j9 nb (n+j) e
variable {j9 ops:List p6} {T:List c8} {H:o9} {n:Nat} {rl:List c8} {o7:List Touch} {na nb:Nat} {Q:List c8->o9->List c8->Prop}
def Rn.YN {T:List c8}{H:o9}(nb:Nat)(H' :o9)(o7:List Touch)(hm:ops.all (fun i=> !i.op.makes)=true:=by rfl)(hu:ops.all (fun i=>i.aX.all fun e=>Nat.blt e ops.length)=true:=by rfl)(hH:H++Y9 ops=H' :=by rfl)(hs:slotsOf ops=o7:=by rfl)(hnb:H.length=nb:=by rfl)
  (h:Rv A l b ops ops T H' 0 [] o7 nb nb Q):Rn A l b ops true T H Q:=by
 obtain ⟨r,N,hq,h⟩:=h rfl (o5 _);refine ⟨r,N,hq,fun n hn=> ?_⟩;obtain ⟨lg,e1,e2,e3⟩:=h n hn;simp [Nat.zero_add] at e1 e3;have al2:qH ops lg=true:=by
  simp only [qH,L9];rintro ⟨i,le⟩ wJ e he;obtain ⟨j,hj,hji⟩:=List.getElem_of_mem wJ;simp [List.length_zip] at hj;have hj1:j<ops.length:=by omega
  have hj2:j<lg.length:=by omega
  simp [List.getElem_zip] at hji;obtain ⟨rfl,rfl⟩:=hji;have hi:ops[j] ∈ ops:=List.getElem_mem hj1;have hlt:e<ops.length:=j5 (L9.1 (L9.1 hu _ hi) e he);have he2:e<lg.length:=by omega
  rw [l6 he2];have c1:=e3 j _ (l6 hj2);have c2:=e3 e _ (l6 he2);have hmk:ops[j].op.makes=false:=by simp_all
  cases hr:ops[j].op.Sf with
  |true =>
   have hb:inU ops e=true:=List.any_eq_true.2 ⟨_,hi,by simp_all⟩;simp [c2.2.1 hb _ c1.1,hmk]
  |false =>
   have h5:=c1.2.2 _ (l6 hj1) hr
   grind [G9]
 simp_all [Q4,if_true]
def Rv.step {i:p6}{T' :List c8}{H' :o9}{v:c8}{bK :List Touch}{rs:List Nat}{N1:Nat}(hk:∀ L,F1 ⟨T,H,L,o7⟩ i.op=false)(hi:j9[n]? =some i)
  (h:rl.length=n->∀ k,N1<=k->u9 (K8 A k l b) j9 (if i.op.z7 then some na else none) n i ⟨T,H,rl.reverse++ .any::c9 ops.length .any,o7⟩=some (⟨T',H',rl.reverse++v::c9 ops.length .any,bK⟩,rs))
  (hr:∀ r ∈ rs,r<nb) (ht:nb<=na->inU j9 n=true->∀ rs:List Nat,(∀ r ∈ rs,r<nb)->G9 (fD (if i.op.z7 then some na else none)++bK.take (bK.length - o7.length)) rs=false)
  (h2:Rv A l b j9 ops T' H' (n+1) (v::rl) bK (if i.op.z7 then na+1 else na) nb Q):Rv A l b j9 (i::ops) T H n rl o7 na nb Q:=fun hn hnb=>by
 obtain ⟨r,N,hq,h2⟩:=h2 (by simp [hn]) (by grind);refine ⟨r,max N N1,hq,fun k hkk=> ?_⟩;obtain ⟨lg,e1,e2,e3⟩:=h2 k (by omega);have h4:=h hn k (by omega);have e1' :P6 (K8 A k l b) j9 ops (n+1) (if i.op.z7 then na+1 else na) ⟨T',H',rl.reverse++v::c9 ops.length .any,bK⟩=some (r,lg):=by simp_all
 refine ⟨cK (K8 A k l b) i (if i.op.z7 then some na else none) ⟨T,H,rl.reverse++ .any::c9 ops.length .any,o7⟩ ⟨T',H',rl.reverse++v::c9 ops.length .any,bK⟩ rs::lg,?_,by simp [e2],?_⟩
 .simp_all [P6,List.length_cons,List.replicate_succ,iY,Bool.false_and,j3,if_false]
 .intro j e he
  cases j with
  |zero =>
   simp [List.getElem?_cons_zero,Option.some.injEq] at he;subst he;refine ⟨hr,fun hb=>ht hnb hb,fun i' hi' hr' => ?_⟩;rw [Nat.add_zero,hi] at hi';cases hi';exact rR h4 hr'
  |succ j =>
   grind
def Rv.simple {i:p6}{v:c8}{rs:List Nat}{N1:Nat}(ha:i.op.z7=false)(hk:∀ L,F1 ⟨T,H,L,o7⟩ i.op=false)(hi:j9[n]? =some i)
  (h:rl.length=n->∀ k,N1<=k->u9 (K8 A k l b) j9 none n i ⟨T,H,rl.reverse++ .any::c9 ops.length .any,o7⟩=some (⟨T,H,rl.reverse++v::c9 ops.length .any,o7⟩,rs))
  (hr:∀ r ∈ rs,r<nb) (h2:Rv A l b j9 ops T H (n+1) (v::rl) o7 na nb Q):Rv A l b j9 (i::ops) T H n rl o7 na nb Q :=
 Rv.step (N1:=N1) hk hi (fun hn k hk=>by rw [ha];exact h hn k hk) hr (fun _ _ rs _=>by grind [fD,G9]) (by simp_all)
theorem Rv.slot {i:p6}{v:c8}{rs:List Nat}{N1:Nat}{T2:List c8}{s:Nat}(ha:i.op.z7=false)(hk:∀ L,F1 ⟨T,H,L,o7⟩ i.op=false)(hi:j9[n]? =some i)
  (h:rl.length=n->∀ k,N1<=k->u9 (K8 A k l b) j9 none n i ⟨T,H,rl.reverse++ .any::c9 ops.length .any,o7⟩=some (⟨T2,H,rl.reverse++v::c9 ops.length .any,.slot s::o7⟩,rs))
  (hr:∀ r ∈ rs,r<nb) (h2:Rv A l b j9 ops T2 H (n+1) (v::rl) (.slot s::o7) na nb Q):Rv A l b j9 (i::ops) T H n rl o7 na nb Q :=
 Rv.step (N1:=N1) hk hi (fun hn k hk=>by rw [ha];exact h hn k hk) hr (fun _ _ rs _=>by
  simp_all [fD,G9,Touch.K0]) (by simp_all)
namespace S
theorem vn (h:Q T H rl.reverse):Rv A l b j9 [] T H n rl o7 na nb Q:=fun _ _=>⟨⟨T,H,rl.reverse,o7⟩,0,h,fun _ _=>⟨[],by simp [P6],rfl,fun j e h=>by simp at h⟩⟩
def vp {op:z6}{u:List Nat}{rs:List Nat}(v:c8)(hp:n9 (rq T n rl) H op=some (v,rs))(hr:∀ r ∈ rs,r<nb:=by simp)(h2:Rv A l b j9 ops T H (n+1) (v::rl) o7 na nb Q)(hE:op.C8=false:=by rfl)(ha:op.z7=false:=by rfl)(hk:∀ L,F1 ⟨T,H,L,o7⟩ op=false:=by intro;rfl)(hi:j9[n]? =some ⟨op,none,none,u⟩:=by rfl) :
  Rv A l b j9 (⟨op,none,none,u⟩::ops) T H n rl o7 na nb Q:=by
 refine Rv.simple (N1:=0) (rs:=rs) ha hk hi (fun hn k _=> ?_) hr h2;have TC:∀ x,op≠ .Q3 x:=by
  grind [n9]
 have h4:n9 (x9.I5 T (rl.reverse++ .any::c9 ops.length .any)) H op=some (v,rs):=by
  rw [show x9.I5 T (rl.reverse++ .any::c9 ops.length .any)=rq T n rl from funext fun x=>W6 hn _ x];exact hp
 have HZ:∀ (a:c8) (r:List c8),(rl.reverse++a::r).set n v=rl.reverse++v::r:=fun a r=>by simp_all
 simp_all [D6,K8,c9,absurd,j3,if_false,put,z6.C8,u9,u5,r9,E5]
def vm {x:y6}{u:List Nat}{v:c8}(h2:Rv A l b j9 ops T H (n+1) (v::rl) o7 na nb Q)(hx:Oq T n rl x v:=by exact ⟨rfl,rfl⟩)(hi:j9[n]? =some ⟨.Q3 x,none,none,u⟩:=by rfl):Rv A l b j9 (⟨.Q3 x,none,none,u⟩::ops) T H n rl o7 na nb Q:=by
 refine Rv.simple (N1:=0) (rs:=[]) rfl (fun _=>rfl) hi (fun hn k _=> ?_) (by simp) h2;have HZ:∀ (a:c8) (r:List c8),(rl.reverse++a::r).set n v=rl.reverse++v::r:=fun a r=>by simp_all
 simp [u9,u5,D6,z6.C8,j3,if_false,(hx.op hn).E1,put,HZ,r9,E5]
def vc {f:FuncId}{xs:List y6}{u:List Nat}{v:c8}{args:List c8}{m:Nat}{H0 H1:o9}{l2:F2}(hc:Pm A f args H0 l2 v H1)(Xl:H1.length=m)(h2:Rv A l b j9 ops T H (n+1) (v::rl) o7 na nb Q)(pN:L8 ((H.take m).drop l.strict)<=m:=by exact Nat.zero_le _)(hcl:E9 H l.strict 8 (A4 args)=m:=by rfl)
  (RX:H.take m=H0:=by rfl) (hle:E3 m H.length=true:=by rfl) (mY:(⟨0,m,m,C9 H l.strict m⟩:F2)=l2:=by rfl)
  (ha:xs.map (rq T n rl)=args:=by rfl) (gj:A.prom f=false:=by rfl) (hm:A.mode f=1:=by rfl) (hi:j9[n]? =some ⟨.call f xs,none,none,u⟩:=by rfl):Rv A l b j9 (⟨.call f xs,none,none,u⟩::ops) T H n rl o7 na nb Q:=by
 obtain ⟨M,hc⟩:=hc;refine Rv.simple (N1:=M) (rs:=[]) rfl (fun _=>rfl) hi (fun hn k hk=> ?_) (by simp) h2;have HZ:∀ (a:c8) (r:List c8),(rl.reverse++a::r).set n v=rl.reverse++v::r:=fun a r=>by simp_all
 simp_all [C6,K8,c9,put,kz,j5,u9,u5,D6,z6.C8,if_true,E6,fE,r9,E5]
def vcp {f:FuncId}{xs:List y6}{u:List Nat}{v:c8}{args:List c8}{H1:o9}(hc:Pm A f args H l v H1)(hle:H.length<=H1.length)(h2:Rv A l b j9 ops T H1 (n+1) (v::rl) (.below H1.length::o7) na nb Q)(ha:xs.map (rq T n rl)=args:=by rfl)(gj:A.prom f=true:=by rfl)
  (hi:j9[n]? =some ⟨.call f xs,none,none,u⟩:=by rfl) (hu:inU j9 n=false:=by rfl):Rv A l b j9 (⟨.call f xs,none,none,u⟩::ops) T H n rl o7 na nb Q:=by
 obtain ⟨M,hc⟩:=hc;refine Rv.step (N1:=M) (rs:=[]) (fun _=>rfl) hi (fun hn k hk=> ?_) (by simp) (fun _ h=>by simp_all) h2;have HZ:∀ (a:c8) (r:List c8),(rl.reverse++a::r).set n v=rl.reverse++v::r:=fun a r=>by simp_all
 simp_all [C6,K8,c9,put,if_true,z6.z7,j3,if_false,u9,u5,D6,z6.C8,E6,fE,r9,E5]
def Zv {T:List c8}{s:Nat}(hs:T[s]?.isSome=true):s<T.length:=by
 simp_all
def yJ {rl:List c8}{v w:c8}{r:List c8}(hn:rl.length=n)(hv:(v=w/\v.J2=v/\∀ z k cs,v≠ .own z k cs)\/∃ z k cs,v= .own z k cs/\w= .d (.slice k cs)):x9.E1 ⟨T,H,rl.reverse++v::r,o7⟩ (.loc n)=(v,⟨T,H,rl.reverse++w::r,o7⟩):=by
 have e:(rl.reverse++v::r)[rl.length]? =some v:=by simp_all
 grind [set,List.length_reverse,K6,absurd,x9.E1,x9.I5,c8.J2]
def vcT {f:FuncId}{xs:List y6}{u:List Nat}{z n0 s:Nat}{cs:List Data}{args T2:List c8}{m:Nat}{H0 H1:o9}{l2:F2}(hc:Pm A f args H0 l2 (.own z n0 cs) H1)(Xl:H1.length=m)(h2:Rv A l b j9 ops T2 H (n+1) (.d (.slice n0 cs)::rl) (.slot s::o7) na nb Q)(pN:L8 ((H.take m).drop l.strict)<=m:=by exact Nat.zero_le _)(hcl:E9 H l.strict 8 (A4 args)=m:=by rfl)
  (RX:H.take m=H0:=by rfl) (hle:E3 m H.length=true:=by rfl) (mY:(⟨0,m,m,C9 H l.strict m⟩:F2)=l2:=by rfl)
  (ha:xs.map (rq T n rl)=args:=by rfl) (gj:A.prom f=false:=by rfl) (hm:A.mode f=1:=by rfl) (hi:j9[n]? =some ⟨.call f xs,some s,none,u⟩:=by rfl)
  (hs:T[s]?.isSome=true:=by rfl) (hT:T.set s (.own z n0 cs)=T2:=by simp only [List.set_cons_zero,List.set_cons_succ]<;>rfl):Rv A l b j9 (⟨.call f xs,some s,none,u⟩::ops) T H n rl o7 na nb Q:=by
 obtain ⟨M,hc⟩:=hc;subst RX hT;refine Rv.slot (N1:=M) (rs:=[]) rfl (fun _=>rfl) hi (fun hn k hk=> ?_) (by simp) h2;have HZ:∀ (a v:c8) (r:List c8),(rl.reverse++a::r).set n v=rl.reverse++v::r:=fun a v r=>by simp_all
 have h3:C6 (K8 A k l b) n f args ⟨T,H,rl.reverse++ .any::c9 ops.length .any,o7⟩=some (put ⟨T,H,rl.reverse++ .any::c9 ops.length .any,o7⟩ n (.own z n0 cs)) :=
  kz gj hm hcl (j5 hle) pN mY (hc k hk) Xl
 have h5:=yJ (T:=T) (H:=H) (o7:=o7) (r:=c9 ops.length .any) hn (.inr ⟨z,n0,cs,rfl,rfl⟩);simp_all [u9,u5,D6,z6.C8,if_true,E6,fE,r9,E5,put]
def vk {x:Data}{u:List Nat}{s:Nat}{T2:List c8}(h2:Rv A l b j9 ops T2 H (n+1) (.d x::rl) o7 (na+1) nb Q)(htc:o7.any (Touch.S4 s)=true:=by rfl)(hi:j9[n]? =some ⟨.mX x,some s,none,u⟩:=by rfl)
  (hs:T[s]?.isSome=true:=by rfl) (hT:T.set s (.d x)=T2:=by simp only [List.set_cons_zero,List.set_cons_succ]<;>rfl):Rv A l b j9 (⟨.mX x,some s,none,u⟩::ops) T H n rl o7 na nb Q:=by
 refine Rv.step (N1:=0) (rs:=[]) (fun _=>rfl) hi (fun hn k _=> ?_) (by simp) (fun hna _ rs hrs=> ?_) h2
 .have HZ:∀ (a v:c8) (r:List c8),(rl.reverse++a::r).set n v=rl.reverse++v::r:=fun a v r=>by simp_all
  have h5:=yJ (T:=T) (H:=H) (o7:=o7) (v:= .d x) (w:= .d x) (r:=c9 ops.length .any) hn (.inl ⟨rfl,rfl,fun _ _ _ h=>by cases h⟩);simp_all [z6.z7,if_true,u9,u5,D6,z6.C8,E6,put,r9,V8,decide_true,Bool.and_self]
 grind [z6.z7,fD,G9,Touch.K0]
def vpT {op:z6}{u:List Nat}{rs:List Nat}{s:Nat}{T2:List c8}(v:c8)(hp:n9 (rq T n rl) H op=some (v,rs))(hr:∀ r ∈ rs,r<nb:=by simp)(h2:Rv A l b j9 ops T2 H (n+1) (v::rl) (.slot s::o7) na nb Q)(hv:v.J2=v/\∀ z k cs,v≠ .own z k cs)(hE:op.C8=false:=by rfl)(ha:op.z7=false:=by rfl)(hk:∀ L,F1 ⟨T,H,L,o7⟩ op=false:=by intro;rfl)(hi:j9[n]? =some ⟨op,some s,none,u⟩:=by rfl)
  (hs:T[s]?.isSome=true:=by rfl) (hT:T.set s v=T2:=by simp only [List.set_cons_zero,List.set_cons_succ]<;>rfl):Rv A l b j9 (⟨op,some s,none,u⟩::ops) T H n rl o7 na nb Q:=by
 refine Rv.slot (N1:=0) (rs:=rs) ha hk hi (fun hn k _=> ?_) hr h2;have TC:∀ x,op≠ .Q3 x:=by
  grind [n9]
 have h4:n9 (x9.I5 T (rl.reverse++ .any::c9 ops.length .any)) H op=some (v,rs):=by
  rw [show x9.I5 T (rl.reverse++ .any::c9 ops.length .any)=rq T n rl from funext fun x=>W6 hn _ x];exact hp
 have HZ:∀ (a:c8) (r:List c8),(rl.reverse++a::r).set n v=rl.reverse++v::r:=fun a r=>by simp_all
 have h3:D6 (K8 A k l b) j9 none n op ⟨T,H,rl.reverse++ .any::c9 ops.length .any,o7⟩=some (⟨T,H,rl.reverse++v::c9 ops.length .any,o7⟩,rs):=by
  simp_all [absurd,D6,j3,if_false,put,z6.C8]
 simp_all [yJ,c9,u9,u5,r9,E5,if_true]
def vmT {x:y6}{u:List Nat}{v:c8}{s:Nat}{T2:List c8}(h2:Rv A l b j9 ops T2 H (n+1) (v::rl) (.slot s::o7) na nb Q)(hv:v.J2=v/\∀ z k cs,v≠ .own z k cs)(hx:Oq T n rl x v:=by exact ⟨rfl,rfl⟩)(hi:j9[n]? =some ⟨.Q3 x,some s,none,u⟩:=by rfl)
  (hs:T[s]?.isSome=true:=by rfl) (hT:T.set s v=T2:=by simp only [List.set_cons_zero,List.set_cons_succ]<;>rfl):Rv A l b j9 (⟨.Q3 x,some s,none,u⟩::ops) T H n rl o7 na nb Q:=by
 subst hT;have hs:=Zv hs;refine Rv.slot (N1:=0) (rs:=[]) rfl (fun _=>rfl) hi (fun hn k _=> ?_) (by simp) h2;have HZ:∀ (a:c8) (r:List c8),(rl.reverse++a::r).set n v=rl.reverse++v::r:=fun a r=>by simp_all
 have h5:=yJ (T:=T) (H:=H) (o7:=o7) (v:=v) (w:=v) (r:=c9 ops.length .any) hn (.inl ⟨rfl,hv⟩);simp [u9,u5,D6,z6.C8,j3,if_false,(hx.op hn).E1,put,HZ,r9,E5,hs,if_true,h5]
end S
end
theorem wv {A B:Prog}(hf:A.fn=B.fn)(hi:A.idle=B.idle)(hm:A.mode=B.mode)(M:Nat)(hn:∀ f,A.cw f=none->B.cw f=none\/A.fn f=none)
  (hp:∀ f p,A.cw f=some p->∀ args H l r,p args H l=some r->call B M f args H l=some r):∀ n,LeC (call A n) (call B (n+M))
 |0=>fun _ _ _ _=>ji.no _
 |n+1=>fun f args H l=>by
  intro r hr;have wL:A.prom=B.prom:=by funext g;simp only [Prog.prom,hf]
  unfold call at hr;split at hr
  .rename_i p hq
   exact ET B M (n+1+M) (by omega) f args H l r (hp f p hq args H l r hr)
  .rename_i hq
   split at hr
   .rename_i af haf
    have hb:B.cw f=none:=by
     rcases hn f hq with h|h
     .exact h
     .rw [haf] at h;cases h
    rw [show n+1+M=(n+M)+1 by omega,ES hb (by rw [<- hf];exact haf)];unfold fW at hr ⊢;split at hr
    .rename_i hlen
     rw [if_pos hlen];cases hx:exec ⟨call A n,A.prom,A.mode,A.idle,l,H.length⟩ n af.body ⟨args++c9 (af.names.length - args.length) .any,H⟩ with
     |none=>rw [hx] at hr;cases hr
     |some x =>
      rw [hx] at hr;rw [wL,hi,hm] at hx;rw [fP (wv hf hi hm M hn hp n) (Nat.le_add_right n M) _ _ _ hx];exact hr
    .cases hr
   .cases hr
def Pf.at9 {A:Prog}{es:List yP}{M n:Nat}(Tz:∀ e,e ∈ es->call A M e.f e.args [] S8=some (e.res,[])){f:FuncId}{args:List c8}{v:c8}(h:call (memo A es) n f args [] S8=some (v,[]))(hM:0<M):Pf A f args v:=by
 refine Pf.NY (wv (A:=memo A es) (B:=A) rfl rfl rfl M ?_ ?_ n _ _ _ _ _ h)
 .intro f hf
  simp only [memo] at hf;split at hf
  .cases hf
  .exact Or.inl hf
 .intro f p hp args H l r hr
  simp only [memo] at hp;split at hp
  .cases hp
   simp only at hr;split at hr
   .rename_i hc
    simp only [Bool.and_eq_true] at hc;have hH:H=[]:=by simpa using hc.1
    have hl:=Fy hc.2;subst hH hl;split at hr
    .rename_i v' aC1
     cases hr;obtain ⟨e,he,h1,h2,h3⟩:=Ae es aC1;rw [<- h1,<- h2,<- h3];exact Tz e he
    .cases hr
   .cases hr
  .obtain ⟨k,rfl⟩:∃ k,M=k+1:=⟨M - 1,by omega⟩
   simp only [call,hp];exact hr
end Go.x9


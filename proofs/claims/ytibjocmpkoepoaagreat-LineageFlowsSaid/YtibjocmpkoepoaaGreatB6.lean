import Derived.Test.YtibjocmpkoepoaaGreatB4
set_option linter.all false
open Bool renaming false_eq_true → j4, or_eq_false_iff → G8
open Int renaming toNat_natCast → P0
open List renaming all_eq_true → Q2, append_assoc → D2, drop_of_length_le → l6, getElem?_append_left → A8, getElem?_append_right → u9, getElem?_eq_getElem → n9, map_cons → L8, mem_cons → B8, replicate → c9, take_of_length_le → y6
open Nat renaming ble → E1, le_of_ble_eq_true → j5, lt_or_ge → A5
namespace Go.A2
def zy (x:Int):List Int->List Int
 |[]=>[x]
 |y::l=>if x<=y then x::y::l else y::zy x l
def cZ:List Int->List Int
 |[]=>[]
 |x::l=>zy x (cZ l)
def kF :List c8->Option (List Int)
 |[]=>some []
 | .d (.int .i64 n)::r=>match kF r with
  |some xs=>some (n::xs)
  |none=>none
 |_=>none
def EH:List c8->p9->H7->Option (c8×p9)
 |[.O2,.d (.int .i64 n)],H,_=>if 0<=n/\n<=1000000 then some (.own 1 0 [],H) else none
 |_,_,_=>none
def EI:List c8->p9->H7->Option (c8×p9)
 |[.B4 id 1 lo len],H,l=>if l.may id&&E1 len 1000000 then match rd H id lo len with
   |some vs=>match kF vs with
    |some xs=>match wr H id lo ((cZ xs).map fun n=> .d (.int .i64 n)) with
     |some H1=>some (.tuple [],H1)
     |none=>none
    |none=>none
   |none=>none
  else none
 |[.d (.slice 0 _)],H,_=>some (.tuple [],H)
 |_,_,_=>none
def bH:List Int->List Int
 |[]=>[]
 |[x]=>[x]
 |x::y::l=>if x=y then bH (y::l) else x::bH (y::l)
def mP:List c8->p9->H7->Option (c8×p9)
 |[.B4 id 1 lo len],H,l=>if l.may id&&E1 len 1000000 then match rd H id lo len with
   |some vs=>match kF vs with
    |some xs=>match wr H id lo ((bH xs++c9 (xs.length - (bH xs).length) 0).map fun n=> .d (.int .i64 n)) with
     |some H1=>some (.B4 id 1 lo (bH xs).length,H1)
     |none=>none
    |none=>none
   |none=>none
  else none
 |_,_,_=>none
section
variable {A:Prog} {l:H7} {b:Nat}
variable {dr:Bool} {l5 ops:List o9} {T:List c8} {H:p9} {n:Nat} {rl:List c8} {p7:List Touch} {Q:List c8->p9->List c8->Prop}
def Ex.Yo {ops:List o9}{draw:Bool}{c:y5}{d e:q6}{T:List c8}{H:p9}{Q:G7->St->Prop}(t:Bool)
  (h:Rn A l b ops draw T H fun T' H' L=>T' =T/\H' =H/\∃ t',J2 T' L c= .d (.bool t')/\t' =t)
  (h2:t=true->Ex A l b d ⟨T,H⟩ Q) (h3:t=false->Ex A l b e ⟨T,H⟩ Q):Ex A l b (.test ops draw c d e) ⟨T,H⟩ Q:=by
 obtain ⟨r,N,⟨e1,e2,t',e3,rfl⟩,h⟩:=h;subst e1;subst e2;exact Ex.test ⟨r,N,⟨t',e3,h2,h3⟩,h⟩
def Ex.nT {c:q6}{T T2:List c8}{H:p9}{Q:G7->St->Prop}(h:Ex A l b c ⟨T2,H⟩ Q)(hT:T=T2:=by simp only [X1]<;>rfl):Ex A l b c ⟨T,H⟩ Q:=hT ▸ h
def Pf.run {f:FuncId}{af:q9}{args:List c8}{v:c8}(T:List c8)(hp:A.fP f=none)(hf:A.fn f=some af)(hn:args.length=af.nparams)
  (hT:args++c9 (af.names.length - args.length) .any=T) (h:Ex A an 0 af.body ⟨T,[]⟩ fun x s=>∃ w,jL af 0 (some (x,s))=some (w,[])/\w=v):Pf A f args v :=
 Pf.aV3 T hp hf hn hT (h.mono fun _ _ ⟨_,h1,h2⟩=>h2 ▸ h1)
theorem au {α:Type}:∀ {l:List α} {j:Nat} {v:α},l[j]? =some v->l.set j v=l
 |[],_,_,_=>rfl
 |a::l,0,v,h=>by simp_all
 |a::l,j+1,v,h=>by simp at h;simp [au h]
def Rx.XN {pre:List c8}{op:x9}{j:Nat}{want:Bool}{u:List Nat}(h:pre[j]? =some (.tuple []))(hk:I5 ⟨T,H,pre++ .any::c9 ops.length .any,p7⟩ op=false)(ha:op.B6=false)
  (h2:Rx A l b dr l5 ops T H (pre++[.tuple []]) p7 Q):Rx A l b dr l5 (⟨op,none,some (j,want),u⟩::ops) T H pre p7 Q:=by
 refine Rx.step (N1:=0) (rs:=[]) hk ha (fun n _=> ?_) (fun rs=>by simp [K0]) h2
 grind [z6,z8,wW,put,M1,y4,G5]
instance:Inhabited X0:=⟨⟨0,0,0,[],0⟩⟩
instance:Inhabited ek:=⟨⟨[],0,[],[],[],0,0⟩⟩
instance:Inhabited jj:=⟨⟨[],[],0,0⟩⟩
instance:Inhabited OK:=⟨⟨[],[]⟩⟩
instance:Inhabited Io:=⟨⟨[],0,[]⟩⟩
instance:Inhabited Vw:=⟨⟨[],0,[],[],[],[],[],false,[]⟩⟩
instance:Inhabited oy:=⟨⟨[],[],0⟩⟩
instance:Inhabited nC:=⟨⟨[],[],0,0,0,0⟩⟩
instance:Inhabited qL:=⟨⟨[],[],0,0⟩⟩
instance:Inhabited oT:=⟨⟨[],[],0⟩⟩
instance:Inhabited tP:=⟨⟨[],[]⟩⟩
instance:Inhabited tN:=⟨⟨[],[],0⟩⟩
@[irreducible] def nth {α:Type} [Inhabited α] (l:List α) (i:Nat):α:=l[i]?.getD default
theorem F2 {α:Type} [Inhabited α] {l:List α}{i:Nat}(h:i<l.length):nth l i=l[i]:=by simp [nth,h]
def Y6 {α:Type} [Inhabited α] (a:α)(l:List α):nth (a::l) 0=a:=by simp [nth]
def uF {α:Type} [Inhabited α] (a:α)(l:List α)(i:Nat):nth (a::l) (i+1)=nth l i:=by simp [nth]
theorem S9 {α:Type} [Inhabited α] {l:List α}{i:Nat}(h:i<l.length):nth l i ∈ l:=by grind [F2,List.getElem_mem]
theorem D3 {α:Type} [Inhabited α] {l:List α}{i:Nat}(h:i<l.length):l.drop i=nth l i::l.drop (i+1):=by grind [F2,List.drop_eq_getElem_cons]
theorem H9 {α:Type} [Inhabited α] {l:List α}{i:Nat}(h:i<l.length):l.take (i+1)=l.take i++[nth l i]:=by rw [F2 h,List.take_append_getElem]
def lQ {α:Type} [Inhabited α] {l:List α}{i j:Nat}(h:j<i)(hi:i<=l.length):(l.take i).drop j=nth l j::(l.take i).drop (j+1):=by
 grind [D3,F2]
@[irreducible] def E4 (a b:Int):Bool:=decide (a<b)
@[irreducible] def bV (a b:Int):Bool:=decide (a<=b)
@[irreducible] def s9 (a b:Int):Bool:=a==b
@[irreducible] def O1 (a b:List UInt8):Bool:=a==b
theorem u0 (a b:Int):E4 a b=decide (a<b):=by unfold E4;rfl
theorem s6 (a b:Int):bV a b=decide (a<=b):=by unfold bV;rfl
theorem o8 (a b:Int):s9 a b=(a==b):=by unfold s9;rfl
theorem E5 (a b:List UInt8):O1 a b=(a==b):=by unfold O1;rfl
def A6 {a b:Int}(h:E4 a b=true):a<b:=by grind [u0]
def A3 {a b:Int}(h:E4 a b=false):b<=a:=by grind [u0]
def rW {a b:Int}(h:bV a b=true):a<=b:=by grind [s6]
def Bp {a b:Int}(h:bV a b=false):b<a:=by grind [s6]
theorem fH {a b:Int}(h:s9 a b=true):a=b:=by grind [o8]
def AQ {a b:Int}(h:s9 a b=false):a≠b:=by grind [o8]
theorem bd3 {a b:List UInt8}(h:O1 a b=true):a=b:=by grind [E5]
theorem as1 {a b:List UInt8}(h:O1 a b=false):a≠b:=by grind [E5]
def q8 (n a b:Int):Bool:=bV a n&&bV n b
def Ry (A:Prog)(l:H7)(b:Nat)(dr:Bool)(l5 ops:List o9)(T:List c8)(H:p9)(n:Nat)(rl:List c8)(p7:List Touch)(Q:List c8->p9->List c8->Prop):Prop :=
 rl.length=n->Rx A l b dr l5 ops T H rl.reverse p7 Q
def lk (n:Nat)(rl:List c8)(j:Nat):Option c8:=match E1 (j+1) n with
 |true=>rl[n - (j+1)]?
 |false=>none
theorem iT (hn:rl.length=n)(j:Nat):rl.reverse[j]? =lk n rl j:=by
 grind [lk,j5,Nat.ble_eq_true_of_le,List.getElem?_eq_none]
def opw (T:List c8)(n:Nat)(rl:List c8):y5->Option c8
 | .slot s=>T[s]?
 | .loc j=>lk n rl j
 | .const v=>some v
def Oq (T:List c8)(n:Nat)(rl:List c8)(x:y5)(v:c8):Prop:=opw T n rl x=some v/\v.J3=v
def Oq.op {x:y5}{v:c8}(h:Oq T n rl x v)(hn:rl.length=n):Op T rl.reverse x v:=by
 obtain ⟨h1,h2⟩:=h;refine ⟨?_,h2⟩;cases x with
 |slot s=>exact h1
 |loc j=>simp [opv,iT hn];exact h1
 |const u=>exact h1
def rq (T:List c8)(n:Nat)(rl:List c8):y5->c8
 | .const v=>v.SU
 |x=>((opw T n rl x).getD .any).J3
theorem Oq.rq {x:y5}{v:c8}(h:Oq T n rl x v):A2.rq T n rl x=v:=by
 obtain ⟨h1,h2⟩:=h;cases x with
 |const u=>simp_all [opw,Option.some.injEq,A2.rq,Vi]
 |_=>grind [A2.rq]
def Y8 (hn:rl.length=n)(m:Nat)(x:y5):A2.J2 T (rl.reverse++ .any::c9 m .any) x=rq T n rl x:=by
 cases x with
 |slot s=>rfl
 |const v=>rfl
 |loc j =>
  grind [A2.J2,rq,opw,iT,A5,A8,u9,List.getElem?_eq_none,List.getElem?_cons_succ]
def Ry.to {v:c8}(h:Ry A l b dr l5 ops T H (n+1) (v::rl) p7 Q)(hn:rl.length=n):Rx A l b dr l5 ops T H (rl.reverse++[v]) p7 Q:=by
 have:=h (by simp [hn]);simp_all
def Rn.text {T:List c8}{H:p9}(h:Ry A l b false ops ops T H 0 [] [] Q):Rn A l b ops false T H Q:=Rn.ag1 (h rfl)
def Rn.draw {T:List c8}{H:p9}(h:Ry A l b true ops ops T H 0 [] [] Q)(hp:ta ops=true:=by rfl):Rn A l b ops true T H Q:=Rn.ag0 hp (h rfl)
theorem Ry.pure {op:x9}{u:List Nat}{v:c8}{rs:List Nat}(hE:op.D9=false)(hp:o6 (rq T n rl) H op=some (v,rs))
  (h2:Ry A l b dr l5 ops T H (n+1) (v::rl) p7 Q):Ry A l b dr l5 (⟨op,none,none,u⟩::ops) T H n rl p7 Q:=fun hn=>by
 refine Rx.pure (rs:=rs) hE (fun m=> ?_) (h2.to hn);rw [show A2.J2 T (rl.reverse++ .any::c9 m .any)=rq T n rl from funext fun x=>Y8 hn m x];exact hp
def Ry.BL {op:x9}{u:List Nat}{v:c8}{rs:List Nat}{s:Nat}(hE:op.D9=false)(hp:o6 (rq T n rl) H op=some (v,rs))(hv:v.J3=v)(hm:op.B6=false)(hs:T[s]?.isSome=true)
  (h2:Ry A l b dr l5 ops (T.set s v) H (n+1) (v::rl) (.slot s::p7) Q):Ry A l b dr l5 (⟨op,some s,none,u⟩::ops) T H n rl p7 Q:=fun hn=>by
 have hs:s<T.length:=by
  simp_all
 have hmv:∀ x,op≠ .Q5 x:=by
  grind [o6]
 refine Rx.step (N1:=0) (rs:=rs) ?_ hm (fun m _=> ?_) (eV s p7) (h2.to hn)
 .cases op<;>first|rfl|grind [x9.D9]
 .have h3:E2 (N9 A m l b) l5 none rl.reverse.length op ⟨T,H,rl.reverse++ .any::c9 ops.length .any,p7⟩=some (⟨T,H,rl.reverse++v::c9 ops.length .any,p7⟩,rs):=by
   have h4:o6 (A2.J2 T (rl.reverse++ .any::c9 ops.length .any)) H op=some (v,rs):=by
    rw [show A2.J2 T (rl.reverse++ .any::c9 ops.length .any)=rq T n rl from funext fun x=>Y8 hn _ x];exact hp
   simp_all [absurd,E2,j4,if_false,put,M1,x9.D9]
  have h5:A2.D8 ⟨T,H,rl.reverse++v::c9 ops.length .any,p7⟩ (.loc rl.reverse.length)=(v,⟨T,H,rl.reverse++v::c9 ops.length .any,p7⟩):=by
   grind [A2.D8,c8.J3,A2.J2]
  simp_all [z6,z8,y4,G5,if_true]
def Ry.fork {j:Nat}{w:Bool}(h:lk n rl j=some (.d (.bool w)))(hj:E1 (j+1) n=true)(h1:w=true->Ry A l b dr l5 ops T H n (rl.set (n - (j+1)) (.d (.bool true))) p7 Q)
  (h2:w=false->Ry A l b dr l5 ops T H n (rl.set (n - (j+1)) (.d (.bool false))) p7 Q):Ry A l b dr l5 ops T H n rl p7 Q:=by
 simp [lk,hj] at h;cases w with
 |true=>simp_all [au]
 |false=>simp_all [au]
theorem Ff {α:Type}{enc:α->List Data}{sz:Nat}(hs:∀ a,(enc a).length=sz):∀ (l:List α) (i:Nat),(l.flatMap enc).take (i * sz)=(l.take i).flatMap enc
 |[],i=>by simp
 |a::l,0=>by simp
 |a::l,i+1=>by
  have h1:=Ff hs l i;simp_all [List.flatMap_cons,List.take_succ_cons,List.take_append,Nat.succ_mul,Nat.add_sub_cancel,y6]
theorem aS {α:Type}{enc:α->List Data}{sz:Nat}(hs:∀ a,(enc a).length=sz):∀ (l:List α),(l.flatMap enc).length=l.length * sz
 |[]=>by simp
 |a::l=>by simp [hs a,aS hs l,Nat.succ_mul,Nat.add_comm]
theorem qQ {α:Type}{enc:α->List Data}{sz:Nat}(hs:∀ a,(enc a).length=sz):∀ (l:List α) (i:Nat),(l.flatMap enc).drop (i * sz)=(l.drop i).flatMap enc
 |[],i=>by simp
 |a::l,0=>by simp
 |a::l,i+1=>by
  have h1:=qQ hs l i;simp_all [List.flatMap_cons,List.drop_succ_cons,List.drop_append,Nat.succ_mul,Nat.add_sub_cancel,List.drop_eq_nil_of_le]
def BV {α:Type}{enc:α->List Data}{sz:Nat}(hs:∀ a,(enc a).length=sz)(l:List α)(lo hi:Nat)(h1:lo<=hi)(h2:hi<=l.length) :
  Data.slice ((hi:Int) - lo).toNat (((l.flatMap enc).take (hi * sz)).drop (lo * sz))=B0 enc ((l.take hi).drop lo):=by
 simp_all [Ff,qQ,B0]
def E7 {α:Type}(sz:Nat)(enc:α->List Data)(xs:List α):c8:= .own sz xs.length (xs.flatMap enc)
def Hw {j:Nat}(hn:rl.length=n)(hb:E1 (j+1) n=true)(v:c8):rl.reverse.set j v=(rl.set (n - (j+1)) v).reverse:=by
 have hb' :j+1<=rl.length:=by simp_all
 apply List.ext_getElem?;intro i
 rcases A5 i rl.length with hi|hi
 .grind
 simp_all
def Rx.ZW {pre:List c8}{j sz bytes:Nat}{y:y5}{u:List Nat}{len m:Nat}{cells new:List Data}{vy:c8}{cs:List c8}
  (hj:pre[j]? =some (.own sz len cells)) (hy:∀ m,A2.J2 T (pre++ .any::c9 m .any) y=vy) (hc:O7 H sz vy=some (m,cs)) (hd:O0 cs=some new) (hr:roomFor (len+m) bytes=true) (h0:0<sz)
  (h2:Rx A l b dr l5 ops T H (pre.set j (.d (.slice len cells))++[.own sz (len+m) (cells++new)]) p7 Q):Rx A l b dr l5 (⟨.append sz bytes false (.loc j) y,none,none,u⟩::ops) T H pre p7 Q:=by
 have hjl:j<pre.length:=by
  grind
 have hL:∀ r:List c8,(pre++ .any::r)[j]? =some (.own sz len cells):=fun r=>by grind
 have ay7:A2.J2 T (pre++ .any::c9 ops.length .any) (.loc j)= .d (.slice len cells):=by simp [A2.J2,hL,c8.J3]
 have hl:(pre.set j (.d (.slice len cells))).length=pre.length:=by simp
 have h4:∀ (a v:c8) (r:List c8),(pre.set j (.d (.slice len cells))++a::r).set pre.length v=pre.set j (.d (.slice len cells))++v::r:=fun a v r=>by simp_all
 refine Rx.stepG (N1:=0) (rs:=[]) hl (by simp_all [I5]) rfl (fun n _=> ?_) (fun rs=>by simp [K0]) h2;simp_all [z6,z8,E2,x9.D9,if_true,F3,O4,j4,if_false,Q3,and_self,put,y4,G5]
theorem cL:∀ l:List Data,O0 (l.map .d)=some l
 |[]=>rfl
 |a::l=>by simp [O0,c8.data?,cL l]
def Ry.aN7 {j s sz bytes:Nat}{y:y5}{u u' :List Nat}{d' :Option Nat}{g' :Option (Nat×Bool)}{n' len m:Nat}{cs' cells new:List Data}
  (hj:lk n rl j=some (.d (.slice n' cs'))) (ha:l5[j]? =some ⟨.Q5 (.slot s),d',g',u'⟩) (ht:p7.any (Touch.U9 s)=false) (hT:T[s]? =some (.own sz len cells))
  (hy:rq T n rl y= .d (.slice m new)) (hl:new.length=m * sz) (hr:roomFor (len+m) bytes=true) (h0:0<sz)
  (h2:Ry A l b dr l5 ops (T.set s (.d (.slice len cells))) H (n+1) (.own sz (len+m) (cells++new)::rl) (.slot s::p7) Q):Ry A l b dr l5 (⟨.append sz bytes false (.loc j) y,none,none,u⟩::ops) T H n rl p7 Q:=fun hn =>
 Rx.append (vy:= .d (.slice m new)) (by rw [iT hn];exact hj) ha ht hT (fun k=>by simp_all [Y8]) (by simp_all [O7]) (cL new) hr h0 (h2.to hn)
def Ry.av5 {j sz bytes:Nat}{y:y5}{u:List Nat}{len m:Nat}{cells new:List Data}(hj:lk n rl j=some (.own sz len cells))(hb:E1 (j+1) n=true)
  (hy:rq T n rl y= .d (.slice m new)) (hl:new.length=m * sz) (hr:roomFor (len+m) bytes=true) (h0:0<sz)
  (h2:Ry A l b dr l5 ops T H (n+1) (.own sz (len+m) (cells++new)::rl.set (n - (j+1)) (.d (.slice len cells))) p7 Q):Ry A l b dr l5 (⟨.append sz bytes false (.loc j) y,none,none,u⟩::ops) T H n rl p7 Q:=fun hn=>by
 refine Rx.ZW (vy:= .d (.slice m new)) (by rw [iT hn];exact hj) (fun k=>by simp_all [Y8]) (by simp_all [O7]) (cL new) hr h0 ?_;have h3:=h2.to (by simp [hn]);simp_all [Hw]
namespace S
def nl (h:Q T H rl.reverse):Ry A l b dr l5 [] T H n rl p7 Q:=fun _=>Rx.nil h
def mv {x:y5}{v:c8}{u:List Nat}(h2:Ry A l b dr l5 ops T H (n+1) (v::rl) p7 Q)(hx:Oq T n rl x (v):=by exact ⟨rfl,rfl⟩) :
  Ry A l b dr l5 (⟨.Q5 x,none,none,u⟩::ops) T H n rl p7 Q:=fun hn=>Rx.Q5 (hx.op hn) (h2.to hn)
def mt {x:y5}{v:c8}{s:Nat}{T2:List c8}{u:List Nat}(hx:Oq T n rl x (v):=by exact ⟨rfl,rfl⟩)(hs:T[s]?.isSome=true:=by rfl)(hT:T.set s v=T2:=by simp only [List.set_cons_zero,List.set_cons_succ]<;>rfl)(h2:Ry A l b dr l5 ops T2 H (n+1) (v::rl) (.slot s::p7) Q) :
  Ry A l b dr l5 (⟨.Q5 x,some s,none,u⟩::ops) T H n rl p7 Q:=fun hn=>Rx.aU4 (hx.op hn) hs (by rw [hT];exact h2.to hn)
theorem mo {s z n0:Nat}{cs:List Data}{u:List Nat}(h2:Ry A l b dr l5 ops T H (n+1) (.d (.slice n0 cs)::rl) p7 Q)(hx:T[s]? =some (.own z n0 cs):=by rfl) :
  Ry A l b dr l5 (⟨.Q5 (.slot s),none,none,u⟩::ops) T H n rl p7 Q:=fun hn=>Rx.aC9 hx (h2.to hn)
def mw {j s z n0:Nat}{cs:List Data}{u:List Nat}{T2:List c8}(hj:lk n rl j=some (.own z n0 cs):=by rfl)(hb:E1 (j+1) n=true:=by rfl)(hs:T[s]?.isSome=true:=by rfl)(hT:T.set s (.own z n0 cs)=T2:=by simp only [List.set_cons_zero,List.set_cons_succ]<;>rfl)
  (h2:Ry A l b dr l5 ops T2 H (n+1) (.d (.slice n0 cs)::rl.set (n - (j+1)) (.d (.slice n0 cs))) (.slot s::p7) Q):Ry A l b dr l5 (⟨.Q5 (.loc j),some s,none,u⟩::ops) T H n rl p7 Q:=fun hn=>by
 refine Rx.Wv (by rw [iT hn];exact hj) hs ?_;have h3:=h2.to (by simp [hn]);simp_all [Hw]
def ow {s z n0:Nat}{cs:List Data}{T2:List c8}{u:List Nat}(hs:T[s]?.isSome=true:=by rfl)(hT:T.set s (.own z n0 cs)=T2:=by simp only [List.set_cons_zero,List.set_cons_succ]<;>rfl)(h2:Ry A l b dr l5 ops T2 H (n+1) (.d (.slice n0 cs)::rl) (.slot s::p7) Q) :
  Ry A l b dr l5 (⟨.Q5 (.const (.own z n0 cs)),some s,none,u⟩::ops) T H n rl p7 Q:=fun hn=>Rx.aV6 hs (by rw [hT];exact h2.to hn)
def ad {x y:y5}{c d:Int}{u:List Nat}(h2:Ry A l b dr l5 ops T H (n+1) (.d (.int .i64 (c+d))::rl) p7 Q)(hx:rq T n rl x= .d (.int .i64 c):=by rfl)(hy:rq T n rl y= .d (.int .i64 d):=by rfl)(h0: -9223372036854775808<=c+d/\c+d<9223372036854775808:=by first|omega|(simp only [q8,Bool.and_eq_true,u0,s6,o8,beq_eq_false_iff_ne,beq_iff_eq,decide_eq_true_eq,decide_eq_false_iff_not,Bool.not_eq_true',Bool.not_eq_false'] at *;omega)) :
  Ry A l b dr l5 (⟨.bin .add x y,none,none,u⟩::ops) T H n rl p7 Q:=Ry.pure (rs:=[]) rfl (by simp_all [o6,OT]) h2
def sb {x y:y5}{c d:Int}{u:List Nat}(h2:Ry A l b dr l5 ops T H (n+1) (.d (.int .i64 (c - d))::rl) p7 Q)(hx:rq T n rl x= .d (.int .i64 c):=by rfl)(hy:rq T n rl y= .d (.int .i64 d):=by rfl)(h0: -9223372036854775808<=c - d/\c - d<9223372036854775808:=by first|omega|(simp only [q8,Bool.and_eq_true,u0,s6,o8,beq_eq_false_iff_ne,beq_iff_eq,decide_eq_true_eq,decide_eq_false_iff_not,Bool.not_eq_true',Bool.not_eq_false'] at *;omega)) :
  Ry A l b dr l5 (⟨.bin .sub x y,none,none,u⟩::ops) T H n rl p7 Q:=Ry.pure (rs:=[]) rfl (by simp_all [o6,OT]) h2
def li {x y:y5}{k:IntKind}{c d:Int}{u:List Nat}(h2:Ry A l b dr l5 ops T H (n+1) (.d (.bool (E4 c d))::rl) p7 Q)(hx:rq T n rl x= .d (.int k c):=by rfl)(hy:rq T n rl y= .d (.int k d):=by rfl) :
  Ry A l b dr l5 (⟨.bin .lss x y,none,none,u⟩::ops) T H n rl p7 Q:=Ry.pure (rs:=[]) rfl (by grind [o6,P4,ak,cq,u0,s6,o8,bne]) h2
def lo {x y:y5}{k:IntKind}{c d:Int}{u:List Nat}(h2:Ry A l b dr l5 ops T H (n+1) (.d (.bool (bV c d))::rl) p7 Q)(hx:rq T n rl x= .d (.int k c):=by rfl)(hy:rq T n rl y= .d (.int k d):=by rfl) :
  Ry A l b dr l5 (⟨.bin .leq x y,none,none,u⟩::ops) T H n rl p7 Q:=Ry.pure (rs:=[]) rfl (by grind [o6,P4,ak,cq,u0,s6,o8,bne]) h2
def gi {x y:y5}{k:IntKind}{c d:Int}{u:List Nat}(h2:Ry A l b dr l5 ops T H (n+1) (.d (.bool (E4 d c))::rl) p7 Q)(hx:rq T n rl x= .d (.int k c):=by rfl)(hy:rq T n rl y= .d (.int k d):=by rfl) :
  Ry A l b dr l5 (⟨.bin .gtr x y,none,none,u⟩::ops) T H n rl p7 Q:=Ry.pure (rs:=[]) rfl (by grind [o6,P4,ak,cq,u0,s6,o8,bne]) h2
def go {x y:y5}{k:IntKind}{c d:Int}{u:List Nat}(h2:Ry A l b dr l5 ops T H (n+1) (.d (.bool (bV d c))::rl) p7 Q)(hx:rq T n rl x= .d (.int k c):=by rfl)(hy:rq T n rl y= .d (.int k d):=by rfl) :
  Ry A l b dr l5 (⟨.bin .geq x y,none,none,u⟩::ops) T H n rl p7 Q:=Ry.pure (rs:=[]) rfl (by grind [o6,P4,ak,cq,u0,s6,o8,bne]) h2
def ei {x y:y5}{k:IntKind}{c d:Int}{u:List Nat}(h2:Ry A l b dr l5 ops T H (n+1) (.d (.bool (s9 c d))::rl) p7 Q)(hx:rq T n rl x= .d (.int k c):=by rfl)(hy:rq T n rl y= .d (.int k d):=by rfl) :
  Ry A l b dr l5 (⟨.bin .eql x y,none,none,u⟩::ops) T H n rl p7 Q:=Ry.pure (rs:=[]) rfl (by grind [o6,P4,ak,cq,u0,s6,o8,bne]) h2
def ni {x y:y5}{k:IntKind}{c d:Int}{u:List Nat}(h2:Ry A l b dr l5 ops T H (n+1) (.d (.bool (!s9 c d))::rl) p7 Q)(hx:rq T n rl x= .d (.int k c):=by rfl)(hy:rq T n rl y= .d (.int k d):=by rfl) :
  Ry A l b dr l5 (⟨.bin .neq x y,none,none,u⟩::ops) T H n rl p7 Q:=Ry.pure (rs:=[]) rfl (by grind [o6,P4,ak,cq,u0,s6,o8,bne]) h2
def es {x y:y5}{c d:List UInt8}{u:List Nat}(h2:Ry A l b dr l5 ops T H (n+1) (.d (.bool (O1 c d))::rl) p7 Q)(hx:rq T n rl x= .d (.str c):=by rfl)(hy:rq T n rl y= .d (.str d):=by rfl) :
  Ry A l b dr l5 (⟨.bin .eql x y,none,none,u⟩::ops) T H n rl p7 Q:=Ry.pure (rs:=[]) rfl (by grind [o6,P4,wq,E5]) h2
theorem ns {x y:y5}{c d:List UInt8}{u:List Nat}(h2:Ry A l b dr l5 ops T H (n+1) (.d (.bool (!O1 c d))::rl) p7 Q)(hx:rq T n rl x= .d (.str c):=by rfl)(hy:rq T n rl y= .d (.str d):=by rfl) :
  Ry A l b dr l5 (⟨.bin .neq x y,none,none,u⟩::ops) T H n rl p7 Q:=Ry.pure (rs:=[]) rfl (by grind [o6,P4,wq,E5]) h2
def ng {x:y5}{t:Bool}{u:List Nat}(h2:Ry A l b dr l5 ops T H (n+1) (.d (.bool (!t))::rl) p7 Q)(hx:rq T n rl x= .d (.bool t):=by rfl) :
  Ry A l b dr l5 (⟨.un .not x,none,none,u⟩::ops) T H n rl p7 Q:=Ry.pure (rs:=[]) rfl (by grind [o6,Cu]) h2
def ln {α:Type}{enc:α->List Data}{xs:List α}{x:y5}{u:List Nat}(h2:Ry A l b dr l5 ops T H (n+1) (.d (.int .i64 (xs.length:Int))::rl) p7 Q)(hx:rq T n rl x= .d (B0 enc xs):=by rfl) :
  Ry A l b dr l5 (⟨.len x,none,none,u⟩::ops) T H n rl p7 Q:=Ry.pure (rs:=[]) rfl (by grind [o6,B0,i64]) h2
def ls {x:y5}{m:Nat}{cs:List Data}{u:List Nat}(h2:Ry A l b dr l5 ops T H (n+1) (.d (.int .i64 (m:Int))::rl) p7 Q)(hx:rq T n rl x= .d (.slice m cs):=by rfl) :
  Ry A l b dr l5 (⟨.len x,none,none,u⟩::ops) T H n rl p7 Q:=Ry.pure (rs:=[]) rfl (by grind [o6,i64]) h2
def lnT {α:Type}{enc:α->List Data}{xs:List α}{x:y5}{s:Nat}{T2:List c8}{u:List Nat}(hx:rq T n rl x= .d (B0 enc xs):=by rfl)(hs:T[s]?.isSome=true:=by rfl)(hT:T.set s (.d (.int .i64 (xs.length:Int)))=T2:=by simp only [List.set_cons_zero,List.set_cons_succ]<;>rfl)(h2:Ry A l b dr l5 ops T2 H (n+1) (.d (.int .i64 (xs.length:Int))::rl) (.slot s::p7) Q) :
  Ry A l b dr l5 (⟨.len x,some s,none,u⟩::ops) T H n rl p7 Q:=Ry.BL (v:= .d (.int .i64 (xs.length:Int))) (rs:=[]) rfl (by grind [o6,B0,i64]) rfl rfl hs (by simp_all)
def ldT {c:Data}{cs:List Data}{x:y5}{s:Nat}{T2:List c8}{u:List Nat}(hx:rq T n rl x= .T4 (c::cs):=by rfl)(hs:T[s]?.isSome=true:=by rfl)(hT:T.set s (.d c)=T2:=by simp only [List.set_cons_zero,List.set_cons_succ]<;>rfl)(h2:Ry A l b dr l5 ops T2 H (n+1) (.d c::rl) (.slot s::p7) Q) :
  Ry A l b dr l5 (⟨.load none x,some s,none,u⟩::ops) T H n rl p7 Q:=Ry.BL (v:= .d c) (rs:=[]) rfl (by grind [o6]) rfl rfl hs (by simp_all)
def lpT {v:c8}{id o:Nat}{x:y5}{s:Nat}{T2:List c8}{u:List Nat}(hx:rq T n rl x= .ptr id o:=by rfl)(hr:rd H id o 1=some [v]:=by rfl)(hv:v.J3=v:=by rfl)(hs:T[s]?.isSome=true:=by rfl)(hT:T.set s v=T2:=by simp only [List.set_cons_zero,List.set_cons_succ]<;>rfl)(h2:Ry A l b dr l5 ops T2 H (n+1) (v::rl) (.slot s::p7) Q) :
  Ry A l b dr l5 (⟨.load none x,some s,none,u⟩::ops) T H n rl p7 Q:=Ry.BL (v:=v) (rs:=[id]) rfl (by simp_all [o6]) hv rfl hs (by simp_all)
def lt {x:y5}{s:List UInt8}{u:List Nat}(h2:Ry A l b dr l5 ops T H (n+1) (.d (.int .i64 (s.length:Int))::rl) p7 Q)(hx:rq T n rl x= .d (.str s):=by rfl) :
  Ry A l b dr l5 (⟨.W5 x,none,none,u⟩::ops) T H n rl p7 Q:=Ry.pure (rs:=[]) rfl (by grind [o6,i64]) h2
def ix {α:Type} [Inhabited α] {enc:α->List Data}{xs:List α}{sz i:Nat}{x y:y5}{k:IntKind}{u:List Nat}(hx:rq T n rl x= .d (B0 enc xs):=by rfl)(hy:rq T n rl y= .d (.int k ((i:Nat):Int)):=by rfl)(hs:∀ a,(enc a).length=sz:=by intro;rfl)(hi:i<xs.length:=by first|omega|(simp only [q8,Bool.and_eq_true,u0,s6,o8,beq_eq_false_iff_ne,beq_iff_eq,decide_eq_true_eq,decide_eq_false_iff_not,Bool.not_eq_true',Bool.not_eq_false'] at *;omega))(h2:Ry A l b dr l5 ops T H (n+1) (.T4 (enc (nth xs i)++(xs.drop (i+1)).flatMap enc)::rl) p7 Q) :
  Ry A l b dr l5 (⟨.N8 sz x y,none,none,u⟩::ops) T H n rl p7 Q:=Ry.pure (rs:=[]) rfl (by
  have h3:=Vq hs xs i hi;simp_all [F2,o6,B0,Int.natCast_nonneg,and_self,if_true]) h2
def ixN {α:Type} [Inhabited α] {enc:α->List Data}{xs:List α}{sz i:Nat}{x y:y5}{k:IntKind}{u:List Nat}(hx:rq T n rl x= .d (B0 enc xs):=by rfl)(hy:rq T n rl y= .d (.int k (OfNat.ofNat i)):=by rfl)(hs:∀ a,(enc a).length=sz:=by intro;rfl)(hi:i<xs.length:=by first|omega|(simp only [q8,Bool.and_eq_true,u0,s6,o8,beq_eq_false_iff_ne,beq_iff_eq,decide_eq_true_eq,decide_eq_false_iff_not,Bool.not_eq_true',Bool.not_eq_false'] at *;omega))(h2:Ry A l b dr l5 ops T H (n+1) (.T4 (enc (nth xs i)++(xs.drop (i+1)).flatMap enc)::rl) p7 Q) :
  Ry A l b dr l5 (⟨.N8 sz x y,none,none,u⟩::ops) T H n rl p7 Q:=ix hx hy hs hi h2
def ixI {α:Type} [Inhabited α] {enc:α->List Data}{xs:List α}{sz:Nat}{e:Int}{x y:y5}{k:IntKind}{u:List Nat}(i:Nat)(he:e=i:=by first|omega|(simp only [q8,Bool.and_eq_true,u0,s6,o8,beq_eq_false_iff_ne,beq_iff_eq,decide_eq_true_eq,decide_eq_false_iff_not,Bool.not_eq_true',Bool.not_eq_false'] at *;omega))(hx:rq T n rl x= .d (B0 enc xs):=by rfl)(hy:rq T n rl y= .d (.int k e):=by rfl)(hs:∀ a,(enc a).length=sz:=by intro;rfl)(hi:i<xs.length:=by first|omega|(simp only [q8,Bool.and_eq_true,u0,s6,o8,beq_eq_false_iff_ne,beq_iff_eq,decide_eq_true_eq,decide_eq_false_iff_not,Bool.not_eq_true',Bool.not_eq_false'] at *;omega))(h2:Ry A l b dr l5 ops T H (n+1) (.T4 (enc (nth xs i)++(xs.drop (i+1)).flatMap enc)::rl) p7 Q) :
  Ry A l b dr l5 (⟨.N8 sz x y,none,none,u⟩::ops) T H n rl p7 Q:=ix hx (he ▸ hy) hs hi h2
def ixZ {α:Type} [Inhabited α] {enc:α->List Data}{xs:List α}{sz:Nat}{e:Int}{x y:y5}{k:IntKind}{u:List Nat}(hx:rq T n rl x= .d (B0 enc xs):=by rfl)(hy:rq T n rl y= .d (.int k e):=by rfl)(hs:∀ a,(enc a).length=sz:=by intro;rfl)(hi:0<=e/\e<xs.length:=by first|omega|(simp only [q8,Bool.and_eq_true,u0,s6,o8,beq_eq_false_iff_ne,beq_iff_eq,decide_eq_true_eq,decide_eq_false_iff_not,Bool.not_eq_true',Bool.not_eq_false'] at *;omega))(h2:Ry A l b dr l5 ops T H (n+1) (.T4 (enc (nth xs e.toNat)++(xs.drop (e.toNat+1)).flatMap enc)::rl) p7 Q) :
  Ry A l b dr l5 (⟨.N8 sz x y,none,none,u⟩::ops) T H n rl p7 Q:=ix hx (by rw [hy,Int.toNat_of_nonneg hi.1]) hs (by omega) h2
def ld {x:y5}{c:Data}{cs:List Data}{u:List Nat}(h2:Ry A l b dr l5 ops T H (n+1) (.d c::rl) p7 Q)(hx:rq T n rl x= .T4 (c::cs):=by rfl) :
  Ry A l b dr l5 (⟨.load none x,none,none,u⟩::ops) T H n rl p7 Q:=Ry.pure (rs:=[]) rfl (by grind [o6]) h2
def le {x:y5}{cs rest:List Data}{m:Nat}{u:List Nat}(h2:Ry A l b dr l5 ops T H (n+1) (.agg (cs.map .d)::rl) p7 Q)(hx:rq T n rl x= .T4 (cs++rest):=by rfl)(hm:cs.length=m:=by rfl) :
  Ry A l b dr l5 (⟨.load (some m) x,none,none,u⟩::ops) T H n rl p7 Q:=Ry.pure (rs:=[]) rfl (by simp_all [o6]) h2
def lf {x:y5}{k:Nat}{cs:List Data}{u:List Nat}(h2:Ry A l b dr l5 ops T H (n+1) (.T4 (cs.drop k)::rl) p7 Q)(hx:rq T n rl x= .T4 cs:=by rfl) :
  Ry A l b dr l5 (⟨.off k x,none,none,u⟩::ops) T H n rl p7 Q:=Ry.pure (rs:=[]) rfl (by grind [o6]) h2
def fp {x:y5}{k id o:Nat}{u:List Nat}(h2:Ry A l b dr l5 ops T H (n+1) (.ptr id (o+k)::rl) p7 Q)(hx:rq T n rl x= .ptr id o:=by rfl) :
  Ry A l b dr l5 (⟨.off k x,none,none,u⟩::ops) T H n rl p7 Q:=Ry.pure (rs:=[]) rfl (by grind [o6]) h2
def lp {x:y5}{id o:Nat}{v:c8}{u:List Nat}(h2:Ry A l b dr l5 ops T H (n+1) (v::rl) p7 Q)(hx:rq T n rl x= .ptr id o:=by rfl)(hr:rd H id o 1=some [v]:=by rfl)(hv:v.J3=v:=by rfl) :
  Ry A l b dr l5 (⟨.load none x,none,none,u⟩::ops) T H n rl p7 Q:=Ry.pure (rs:=[id]) rfl (by simp_all [o6]) h2
def lpo {x:y5}{id o z m:Nat}{cs:List Data}{u:List Nat}(h2:Ry A l b dr l5 ops T H (n+1) (.d (.slice m cs)::rl) p7 Q)(hx:rq T n rl x= .ptr id o:=by rfl)(hr:rd H id o 1=some [.own z m cs]:=by rfl) :
  Ry A l b dr l5 (⟨.load none x,none,none,u⟩::ops) T H n rl p7 Q:=Ry.pure (rs:=[id]) rfl (by simp_all [o6,c8.J3]) h2
def lq {x:y5}{m id:Nat}{cs:List c8}{u:List Nat}(h2:Ry A l b dr l5 ops T H (n+1) (.agg cs::rl) p7 Q)(hx:rq T n rl x= .ptr id 0:=by rfl)(hr:H[id]? =some (.cells cs):=by rfl)(hm:cs.length=m:=by rfl)(hv:cs.map c8.J3=cs:=by rfl) :
  Ry A l b dr l5 (⟨.load (some m) x,none,none,u⟩::ops) T H n rl p7 Q:=Ry.pure (rs:=[id]) rfl (by simp_all [o6,rd]<;>grind) h2
def et {x:y5}{i:Nat}{vs:List c8}{v:c8}{u:List Nat}(h2:Ry A l b dr l5 ops T H (n+1) (v::rl) p7 Q)(hx:rq T n rl x= .tuple vs:=by rfl)(hv:vs[i]? =some v:=by rfl) :
  Ry A l b dr l5 (⟨.extract x i,none,none,u⟩::ops) T H n rl p7 Q:=Ry.pure (rs:=[]) rfl (by simp_all [o6]) h2
def wa {op:x9}{dst:Option Nat}{j:Nat}{want:Bool}{u:List Nat}(h2:Ry A l b dr l5 (⟨op,dst,none,u⟩::ops) T H n rl p7 Q)(h:lk n rl j=some (.d (.bool want)):=by rfl) :
  Ry A l b dr l5 (⟨op,dst,some (j,want),u⟩::ops) T H n rl p7 Q:=fun hn=>Rx.wanted (by rw [iT hn];exact h) (by simp) (h2 hn)
def sk {op:x9}{j:Nat}{want:Bool}{u:List Nat}(h2:Ry A l b dr l5 ops T H (n+1) (.tuple []::rl) p7 Q)(h:lk n rl j=some (.d (.bool (!want))):=by rfl)(hk:∀ L,I5 ⟨T,H,L,p7⟩ op=false:=by intro;rfl)(ha:op.B6=false:=by rfl) :
  Ry A l b dr l5 (⟨op,none,some (j,want),u⟩::ops) T H n rl p7 Q:=fun hn=>Rx.aj1 (by rw [iT hn];exact h) (by simp_all) (hk _) ha (h2.to hn)
def st {op:x9}{j:Nat}{want:Bool}{u:List Nat}(h2:Ry A l b dr l5 ops T H (n+1) (.tuple []::rl) p7 Q)(h:lk n rl j=some (.tuple []):=by rfl)(hk:∀ L,I5 ⟨T,H,L,p7⟩ op=false:=by intro;rfl)(ha:op.B6=false:=by rfl) :
  Ry A l b dr l5 (⟨op,none,some (j,want),u⟩::ops) T H n rl p7 Q:=fun hn=>Rx.XN (by simp_all [iT]) (hk _) ha (h2.to hn)
def fk {op:x9}{dst:Option Nat}{j:Nat}{want w:Bool}{r1 r2:List c8}{u:List Nat}(h:lk n rl j=some (.d (.bool w)):=by rfl)(hj:E1 (j+1) n=true:=by rfl)(ht:rl.set (n - (j+1)) (.d (.bool true))=r1:=by simp only [Nat.reduceAdd,Nat.reduceSub,List.set_cons_zero,List.set_cons_succ]<;>rfl)(hf:rl.set (n - (j+1)) (.d (.bool false))=r2:=by simp only [Nat.reduceAdd,Nat.reduceSub,List.set_cons_zero,List.set_cons_succ]<;>rfl)(h1:w=true->Ry A l b dr l5 (⟨op,dst,some (j,want),u⟩::ops) T H n r1 p7 Q)(h2:w=false->Ry A l b dr l5 (⟨op,dst,some (j,want),u⟩::ops) T H n r2 p7 Q) :
  Ry A l b dr l5 (⟨op,dst,some (j,want),u⟩::ops) T H n rl p7 Q:=Ry.fork h hj (fun e=>by simp_all) (fun e=>by simp_all)
def pt {c x y:y5}{v:c8}{u:List Nat}(h2:Ry A l b dr l5 ops T H (n+1) (v::rl) p7 Q)(hc:rq T n rl c= .d (.bool true):=by rfl)(hx:Oq T n rl x (v):=by exact ⟨rfl,rfl⟩) :
  Ry A l b dr l5 (⟨.pick c x y,none,none,u⟩::ops) T H n rl p7 Q:=Ry.pure (rs:=[]) rfl (by simp [o6,hc,hx.rq]) h2
def pk {c x y:y5}{v:c8}{u:List Nat}(h2:Ry A l b dr l5 ops T H (n+1) (v::rl) p7 Q)(hc:rq T n rl c= .d (.bool false):=by rfl)(hy:Oq T n rl y (v):=by exact ⟨rfl,rfl⟩) :
  Ry A l b dr l5 (⟨.pick c x y,none,none,u⟩::ops) T H n rl p7 Q:=Ry.pure (rs:=[]) rfl (by simp [o6,hc,hy.rq]) h2
def bx {x:y5}{u:List Nat}{v:c8}{cs:List c8}{s id:Nat}{T2:List c8}{H2:p9}(hx:Oq T n rl x v:=by exact ⟨rfl,rfl⟩)(hc:v.cells? =some cs:=by rfl)(hs:T[s]?.isSome=true:=by rfl)
  (hi:H.length=id:=by simp only [List.length_cons,List.length_nil,Nat.reduceAdd]<;>rfl) (hT:T.set s (.ptr id 0)=T2:=by simp only [List.set_cons_zero,List.set_cons_succ]<;>rfl) (hH:H++[.cells cs]=H2:=by simp only [List.cons_append,List.nil_append]<;>rfl)
  (h2:Ry A l b false l5 ops T2 H2 (n+1) (.ptr id 0::rl) (.slot s::p7) Q):Ry A l b false l5 (⟨.box x,some s,none,u⟩::ops) T H n rl p7 Q:=fun hn=>by
 subst hi;exact Rx.aN9 (hx.op hn) hc hs (by rw [hT,hH];exact h2.to hn)
def ac {zero:List c8}{u:List Nat}{s id:Nat}{T2:List c8}{H2:p9}(hs:T[s]?.isSome=true:=by rfl)
  (hi:H.length=id:=by simp only [List.length_cons,List.length_nil,Nat.reduceAdd]<;>rfl) (hT:T.set s (.ptr id 0)=T2:=by simp only [List.set_cons_zero,List.set_cons_succ]<;>rfl) (hH:H++[.cells zero]=H2:=by simp only [List.cons_append,List.nil_append]<;>rfl)
  (h2:Ry A l b false l5 ops T2 H2 (n+1) (.ptr id 0::rl) (.slot s::p7) Q):Ry A l b false l5 (⟨.alloc zero,some s,none,u⟩::ops) T H n rl p7 Q:=fun hn=>by
 have hs:s<T.length:=by
  simp_all
 have h2:=h2.to hn;refine Rx.stepT (N1:=0) (rs:=[]) rfl (fun n _=> ?_) h2;simp_all [z6,z8,E2,x9.D9,if_true,F3,M4,newId,Option.getD_none,put,M1,y4,G5,A2.D8,A2.J2,c8.J3]
def rF {m id off:Nat}{x y:y5}{u:List Nat}{v:c8}{cs:List c8}{H2:p9}(hy:rq T n rl y= .ptr id off)(hx:Oq T n rl x v)(hc:v.cells? =some cs)(hm:cs.length=m)(hl:l.may id=true)(hb:C5 cs<=id+1)
  (hw:wr H id off cs=some H2) (h2:Ry A l b false l5 ops T H2 (n+1) (.any::rl) (.obj id::p7) Q):Ry A l b false l5 (⟨.store m y x,none,none,u⟩::ops) T H n rl p7 Q:=fun hn=>by
 refine Rx.stepT (N1:=0) (rs:=[]) rfl (fun k _=> ?_) (h2.to hn);have hl' :(N9 A k l b).lim.may id=true:=hl;simp [z6,z8,E2,x9.D9,if_true,F3,Y8 hn,hy,S4,(hx.op hn).D8,hc,hm,hl',hb,true_or,and_self,hw,put,M1,y4,G5]
def so {m id:Nat}{x y:y5}{u:List Nat}{v:c8}{cs old:List c8}{H2:p9}(hy:rq T n rl y= .ptr id 0:=by rfl)(hx:Oq T n rl x v:=by exact ⟨rfl,rfl⟩)(hc:v.cells? =some cs:=by rfl)(hm:cs.length=m:=by rfl)(hl:l.may id=true:=by rfl)(hb:C5 cs=0:=by rfl)
  (ho:H[id]? =some (.cells old):=by rfl) (hq:old.length=m:=by rfl) (hH:H.set id (.cells cs)=H2:=by simp only [List.set_cons_zero,List.set_cons_succ]<;>rfl)
  (h2:Ry A l b false l5 ops T H2 (n+1) (.any::rl) (.obj id::p7) Q):Ry A l b false l5 (⟨.store m y x,none,none,u⟩::ops) T H n rl p7 Q :=
 rF hy hx hc hm hl (by omega) (by simp_all [wr,splice,l6]) h2
def Cj {m id off:Nat}{x y:y5}{u:List Nat}{v:c8}{cs:List c8}{H2:p9}(hd:E1 (tX l5) n=true)(hy:rq T n rl y= .ptr id off)(hx:Oq T n rl x v)(hc:v.cells? =some cs)(hm:cs.length=m)(hl:l.may id=true)(hb:C5 cs<=id+1)
  (hw:wr H id off cs=some H2) (h2:Ry A l b dr l5 ops T H2 (n+1) (.any::rl) (.obj id::p7) Q):Ry A l b dr l5 (⟨.store m y x,none,none,u⟩::ops) T H n rl p7 Q:=fun hn=>by
 refine Rx.KY (N1:=0) (rs:=[]) rfl rfl rfl (fun k _=> ?_) (fun h=> ?_) (h2.to hn)
 .have hl' :(N9 A k l b).lim.may id=true:=hl
  simp [z6,z8,E2,x9.D9,if_true,F3,Y8 hn,hy,S4,(hx.op hn).D8,hc,hm,hl',hb,true_or,and_self,hw,put,M1,y4,G5]
 simp_all<;>omega
def so1 {id off:Nat}{x y:y5}{u:List Nat}{v:c8}{old new:List c8}{H2:p9}(hy:rq T n rl y= .ptr id off:=by rfl)(hx:Oq T n rl x v:=by exact ⟨rfl,rfl⟩)(hc:v.cells? =some [v]:=by rfl)(hl:l.may id=true:=by rfl)(hb:v.O5<=id+1:=by decide)
  (ho:H[id]? =some (.cells old):=by rfl) (hq:off<old.length:=by decide) (hN:old.set off v=new:=by first|(simp only [List.set_cons_zero,List.set_cons_succ];done)|rfl) (hH:H.set id (.cells new)=H2:=by simp only [List.set_cons_zero,List.set_cons_succ]<;>rfl)
  (h2:Ry A l b false l5 ops T H2 (n+1) (.any::rl) (.obj id::p7) Q):Ry A l b false l5 (⟨.store 1 y x,none,none,u⟩::ops) T H n rl p7 Q :=
 rF hy hx hc rfl hl (by simp_all [C5]) (by
  have h1:splice old off [v]=old.set off v:=by
   simp_all [splice,List.length_singleton,List.set_eq_take_append_cons_drop,if_pos]
  grind [wr]) h2
def o1 {x:y5}{z c:Data}{u:List Nat}(h2:Ry A l b dr l5 ops T H (n+1) (.own 1 1 [c]::rl) p7 Q)(hx:rq T n rl x= .d c:=by rfl) :
  Ry A l b dr l5 (⟨.F5 1 1 [.d z] [(0,1,x)] false,none,none,u⟩::ops) T H n rl p7 Q:=Ry.pure (rs:=[]) rfl (by simp [o6,cg,hx,c8.cells?,splice,O0,c8.data?,c8.one]) h2
def ap1 {α:Type}{enc:α->List Data}{xs:List α}{j s bytes n' :Nat}{y:y5}{u' :List Nat}{d' :Option Nat}{g' :Option (Nat×Bool)}{cs' :List Data}{T2:List c8}{a:α}{c:Data}{u:List Nat}(hj:lk n rl j=some (.d (.slice n' cs')):=by rfl)(ha:l5[j]? =some ⟨.Q5 (.slot s),d',g',u'⟩:=by rfl)(ht:p7.any (Touch.U9 s)=false:=by rfl)(hT:T[s]? =some (E7 1 enc xs):=by rfl)(hy:rq T n rl y= .d (.slice 1 [c]):=by rfl)(he:enc a=[c]:=by rfl)(hr:roomFor (xs.length+1) bytes=true:=by simp only [roomFor,decide_eq_true_eq,List.length_append,List.length_cons,List.length_nil,List.length_take,List.length_drop,List.length_map] at * <;>omega)(hS:T.set s (.d (B0 enc xs))=T2:=by simp only [List.set_cons_zero,List.set_cons_succ]<;>rfl)(h2:Ry A l b dr l5 ops T2 H (n+1) (E7 1 enc (xs++[a])::rl) (.slot s::p7) Q) :
  Ry A l b dr l5 (⟨.append 1 bytes false (.loc j) y,none,none,u⟩::ops) T H n rl p7 Q:=Ry.aN7 hj ha ht hT hy rfl hr (by decide) (by
  simp_all [E7,B0])
def apN {α:Type}{enc:α->List Data}{xs:List α}{j s sz bytes n' :Nat}{y:y5}{u' :List Nat}{d' :Option Nat}{g' :Option (Nat×Bool)}{cs' :List Data}{T2:List c8}{ys:List α}{u:List Nat}(hj:lk n rl j=some (.d (.slice n' cs')):=by rfl)(ha:l5[j]? =some ⟨.Q5 (.slot s),d',g',u'⟩:=by rfl)(ht:p7.any (Touch.U9 s)=false:=by rfl)(hT:T[s]? =some (E7 sz enc xs):=by rfl)(hy:rq T n rl y= .d (B0 enc ys):=by rfl)(hs:∀ a,(enc a).length=sz:=by intro;rfl)(h0:0<sz:=by decide)(hr:roomFor (xs.length+ys.length) bytes=true:=by simp only [roomFor,decide_eq_true_eq,List.length_append,List.length_cons,List.length_nil,List.length_take,List.length_drop,List.length_map] at * <;>omega)(hS:T.set s (.d (B0 enc xs))=T2:=by simp only [List.set_cons_zero,List.set_cons_succ]<;>rfl)(h2:Ry A l b dr l5 ops T2 H (n+1) (E7 sz enc (xs++ys)::rl) (.slot s::p7) Q) :
  Ry A l b dr l5 (⟨.append sz bytes false (.loc j) y,none,none,u⟩::ops) T H n rl p7 Q:=Ry.aN7 hj ha ht hT hy (aS hs ys) hr h0 (by
  simp_all [E7,B0])
def al1 {α:Type}{enc:α->List Data}{xs:List α}{j bytes:Nat}{y:y5}{r2:List c8}{a:α}{c:Data}{u:List Nat}(hj:lk n rl j=some (E7 1 enc xs):=by rfl)(hb:E1 (j+1) n=true:=by rfl)(hy:rq T n rl y= .d (.slice 1 [c]):=by rfl)(he:enc a=[c]:=by rfl)(hr:roomFor (xs.length+1) bytes=true:=by simp only [roomFor,decide_eq_true_eq,List.length_append,List.length_cons,List.length_nil,List.length_take,List.length_drop,List.length_map] at * <;>omega)(hS:rl.set (n - (j+1)) (.d (B0 enc xs))=r2:=by simp only [Nat.reduceAdd,Nat.reduceSub,List.set_cons_zero,List.set_cons_succ]<;>rfl)(h2:Ry A l b dr l5 ops T H (n+1) (E7 1 enc (xs++[a])::r2) p7 Q) :
  Ry A l b dr l5 (⟨.append 1 bytes false (.loc j) y,none,none,u⟩::ops) T H n rl p7 Q:=Ry.av5 hj hb hy rfl hr (by decide) (by
  simp_all [E7,B0])
def alN {α:Type}{enc:α->List Data}{xs:List α}{j sz bytes:Nat}{y:y5}{r2:List c8}{ys:List α}{u:List Nat}(hj:lk n rl j=some (E7 sz enc xs):=by rfl)(hb:E1 (j+1) n=true:=by rfl)(hy:rq T n rl y= .d (B0 enc ys):=by rfl)(hs:∀ a,(enc a).length=sz:=by intro;rfl)(h0:0<sz:=by decide)(hr:roomFor (xs.length+ys.length) bytes=true:=by simp only [roomFor,decide_eq_true_eq,List.length_append,List.length_cons,List.length_nil,List.length_take,List.length_drop,List.length_map] at * <;>omega)(hS:rl.set (n - (j+1)) (.d (B0 enc xs))=r2:=by simp only [Nat.reduceAdd,Nat.reduceSub,List.set_cons_zero,List.set_cons_succ]<;>rfl)(h2:Ry A l b dr l5 ops T H (n+1) (E7 sz enc (xs++ys)::r2) p7 Q) :
  Ry A l b dr l5 (⟨.append sz bytes false (.loc j) y,none,none,u⟩::ops) T H n rl p7 Q:=Ry.av5 hj hb hy (aS hs ys) hr h0 (by
  simp_all [E7,B0])
theorem e0 {u:List Nat}(h2:Ry A l b dr l5 ops T H (n+1) (.own 1 0 []::rl) p7 Q) :
  Ry A l b dr l5 (⟨.F5 1 0 [] [] false,none,none,u⟩::ops) T H n rl p7 Q:=Ry.pure (rs:=[]) rfl (by rfl) h2
def cl {f:FuncId}{xs:List y5}{u:List Nat}{v:c8}{args:List c8}(hc:Pf A f args v)(h2:Ry A l b dr l5 ops T H (n+1) (v::rl) p7 Q)(ha:xs.map (rq T n rl)=args:=by rfl)(lD:A.prom f=false:=by rfl)(hm:A.mode f=1:=by rfl)
  (hb:C5 args=0:=by rfl):Ry A l b dr l5 (⟨.call f xs,none,none,u⟩::ops) T H n rl p7 Q:=fun hn =>
 Rx.call lD hm (fun m=>by rw [show A2.J2 T (rl.reverse++ .any::c9 m .any)=rq T n rl from funext fun x=>Y8 hn m x];exact ha) hb hc (h2.to hn)
def Dv {zero:List c8}{parts:List (Nat×Nat×y5)}{cs:List c8}{u:List Nat}(h2:Ry A l b dr l5 ops T H (n+1) (.agg cs::rl) p7 Q)(hr:cg zero (parts.map fun p=>(p.1,p.2.1,rq T n rl p.2.2))=some cs:=by rfl) :
  Ry A l b dr l5 (⟨.build zero parts,none,none,u⟩::ops) T H n rl p7 Q:=Ry.pure (rs:=[]) rfl (by grind [o6]) h2
def xs {s:List UInt8}{i:Nat}{x y:y5}{k:IntKind}{u:List Nat}(hx:rq T n rl x= .d (.str s):=by rfl)(hy:rq T n rl y= .d (.int k ((i:Nat):Int)):=by rfl)(hi:i<s.length:=by first|omega|(simp only [q8,Bool.and_eq_true,u0,s6,o8,beq_eq_false_iff_ne,beq_iff_eq,decide_eq_true_eq,decide_eq_false_iff_not,Bool.not_eq_true',Bool.not_eq_false'] at *;omega))(h2:Ry A l b dr l5 ops T H (n+1) (.d (.int .u8 ((nth s i).toNat:Int))::rl) p7 Q) :
  Ry A l b dr l5 (⟨.I9 x y,none,none,u⟩::ops) T H n rl p7 Q:=Ry.pure (rs:=[]) rfl (by simp_all [o6,n9,F2]) h2
def qs {neg t:Bool}{ks:List CK}{x y:y5}{va vb:List c8}{u:List Nat}(h2:Ry A l b dr l5 ops T H (n+1) (.d (.bool (neg != t))::rl) p7 Q)(hx:rq T n rl x= .agg va:=by rfl)(hy:rq T n rl y= .agg vb:=by rfl)(hr:Q9 ks va vb=some t:=by rfl) :
  Ry A l b dr l5 (⟨.Ip neg ks x y,none,none,u⟩::ops) T H n rl p7 Q:=Ry.pure (rs:=[]) rfl (by simp_all [o6]) h2
def qb {neg s t:Bool}{x y:y5}{u:List Nat}(h2:Ry A l b dr l5 ops T H (n+1) (.d (.bool (neg != (s==t)))::rl) p7 Q)(hx:rq T n rl x= .d (.bool s):=by rfl)(hy:rq T n rl y= .d (.bool t):=by rfl) :
  Ry A l b dr l5 (⟨.s9 neg x y,none,none,u⟩::ops) T H n rl p7 Q:=Ry.pure (rs:=[]) rfl (by simp_all [o6]) h2
def mm {isMax:Bool}{xs:List y5}{c d:Data}{r:List c8}{u:List Nat}(h2:Ry A l b dr l5 ops T H (n+1) (.d d::rl) p7 Q)(ha:xs.map (rq T n rl)= .d c::r:=by rfl)(hr:fN isMax c r=some d:=by rfl) :
  Ry A l b dr l5 (⟨.iU isMax xs,none,none,u⟩::ops) T H n rl p7 Q:=Ry.pure (rs:=[]) rfl (by simp_all [o6]) h2
def ip {m sz i:Nat}{x y:y5}{k:IntKind}{cs:List Data}{u:List Nat}(h2:Ry A l b dr l5 ops T H (n+1) (.T4 (cs.drop (i * sz))::rl) p7 Q)(hx:rq T n rl x= .T4 cs:=by rfl)(hy:rq T n rl y= .d (.int k ((i:Nat):Int)):=by rfl)(hi:i<m:=by omega) :
  Ry A l b dr l5 (⟨.gG m sz x y,none,none,u⟩::ops) T H n rl p7 Q:=Ry.pure (rs:=[]) rfl (by
  simp_all [o6]) h2
def svh {α:Type} [Inhabited α] {enc:α->List Data}{xs:List α}{sz i:Nat}{x y:y5}{k:IntKind}{u:List Nat}(hx:rq T n rl x= .d (B0 enc xs):=by rfl)(hy:rq T n rl y= .d (.int k ((i:Nat):Int)):=by rfl)(hs:∀ a,(enc a).length=sz:=by intro;rfl)(hi:i<=xs.length:=by first|omega|(simp only [q8,Bool.and_eq_true,u0,s6,o8,beq_eq_false_iff_ne,beq_iff_eq,decide_eq_true_eq,decide_eq_false_iff_not,Bool.not_eq_true',Bool.not_eq_false'] at *;omega))(h2:Ry A l b dr l5 ops T H (n+1) (.d (B0 enc (xs.take i))::rl) p7 Q) :
  Ry A l b dr l5 (⟨.aW sz x none (some y),none,none,u⟩::ops) T H n rl p7 Q:=Ry.pure (rs:=[]) rfl (by
  have h1:=BV hs xs 0 i (Nat.zero_le _) hi
  grind [aS,B0,o6,X4]) h2
def svl {α:Type} [Inhabited α] {enc:α->List Data}{xs:List α}{sz i:Nat}{x y:y5}{k:IntKind}{u:List Nat}(hx:rq T n rl x= .d (B0 enc xs):=by rfl)(hy:rq T n rl y= .d (.int k ((i:Nat):Int)):=by rfl)(hs:∀ a,(enc a).length=sz:=by intro;rfl)(hi:i<=xs.length:=by first|omega|(simp only [q8,Bool.and_eq_true,u0,s6,o8,beq_eq_false_iff_ne,beq_iff_eq,decide_eq_true_eq,decide_eq_false_iff_not,Bool.not_eq_true',Bool.not_eq_false'] at *;omega))(h2:Ry A l b dr l5 ops T H (n+1) (.d (B0 enc (xs.drop i))::rl) p7 Q) :
  Ry A l b dr l5 (⟨.aW sz x (some y) none,none,none,u⟩::ops) T H n rl p7 Q:=Ry.pure (rs:=[]) rfl (by
  have h3:(xs.flatMap enc).length=xs.length * sz:=aS hs xs;simp_all [y6,qQ,B0,o6,X4]) h2
def svb {α:Type} [Inhabited α] {enc:α->List Data}{xs:List α}{sz i j:Nat}{x y z:y5}{k k' :IntKind}{u:List Nat}(hx:rq T n rl x= .d (B0 enc xs):=by rfl)(hy:rq T n rl y= .d (.int k ((i:Nat):Int)):=by rfl)(hz:rq T n rl z=(.d (.int k' ((j:Nat):Int))):=by rfl)(hs:∀ a,(enc a).length=sz:=by intro;rfl)(hij:i<=j/\j<=xs.length:=by first|omega|(simp only [q8,Bool.and_eq_true,u0,s6,o8,beq_eq_false_iff_ne,beq_iff_eq,decide_eq_true_eq,decide_eq_false_iff_not,Bool.not_eq_true',Bool.not_eq_false'] at *;omega))(h2:Ry A l b dr l5 ops T H (n+1) (.d (B0 enc ((xs.take j).drop i))::rl) p7 Q) :
  Ry A l b dr l5 (⟨.aW sz x (some y) (some z),none,none,u⟩::ops) T H n rl p7 Q:=Ry.pure (rs:=[]) rfl (by
  have h1:=BV hs xs i j hij.1 hij.2;have h3:(xs.flatMap enc).length=xs.length * sz:=aS hs xs;simp_all [B0,o6,X4,Int.natCast_nonneg,and_self,if_true,P0]) h2
end S
end
def xb (z:Nat):List c8->p9->H7->Option (c8×p9)
 |[.O2,.d (.int .i64 n)],H,_=>if 0<n/\n<=1000000 then some (.own z 0 [],H) else none
 |_,_,_=>none
def rowOf (z:Nat)(H:p9):c8->Option (Nat×List Data)
 | .d (.slice n cs)=>if cs.length=n * z then some (n,cs) else none
 | .B4 id z' lo n=>if z' =z then match rd H id lo (n * z) with
   |some vs=>match O0 vs with
    |some cs=>some (n,cs)
    |none=>none
   |none=>none
  else none
 |_=>none
def NV (z:Nat):List c8->p9->H7->Option (c8×p9)
 |[x],H,_=>match rowOf z H x with
  |some (0,_)=>some (.d (.slice 0 []),H)
  |some (n+1,cs)=>if n<1000000 then some (.own z (n+1) cs,H) else none
  |none=>none
 |_,_,_=>none
def Bm:List (Key×c8)->Option (List (Int×Int))
 |[]=>some []
 |(.st [.i .i64 a,.i .i64 b],_)::r=>match Bm r with
  |some l=>some ((a,b)::l)
  |none=>none
 |_=>none
def ic:List (Int×Int)->List Data
 |[]=>[]
 |(a,b)::r=> .int .i64 a:: .int .i64 b::ic r
def ints (l:List Int):Data:=B0 (fun n=>[num n]) l
def hasB (l:List Int)(n:Int):Bool:=l.any fun x=>s9 x n
section
variable {A:Prog} {l:H7} {b:Nat}
variable {dr:Bool} {l5 ops:List o9} {T:List c8} {H:p9} {n:Nat} {rl:List c8} {p7:List Touch} {Q:List c8->p9->List c8->Prop}
namespace S
def bxn {x:y5}{u:List Nat}{v:c8}{cs:List c8}{id:Nat}{H2:p9}(hx:Oq T n rl x v:=by exact ⟨rfl,rfl⟩)(hc:v.cells? =some cs:=by rfl)
  (hi:H.length=id:=by simp only [List.length_cons,List.length_nil,Nat.reduceAdd]<;>rfl) (hH:H++[.cells cs]=H2:=by simp only [List.cons_append,List.nil_append]<;>rfl)
  (h2:Ry A l b false l5 ops T H2 (n+1) (.ptr id 0::rl) p7 Q):Ry A l b false l5 (⟨.box x,none,none,u⟩::ops) T H n rl p7 Q:=fun hn=>by
 subst hi;have h2:=h2.to hn;rw [<- hH] at h2;refine Rx.stepT (N1:=0) (rs:=[]) rfl (fun n _=> ?_) h2;simp [z6,z8,E2,x9.D9,if_true,F3,(hx.op hn).J2,hc,M4,newId,Option.getD_none,put,M1,y4,G5]
def nk {x:y5}{u:List Nat}{id o:Nat}(h2:Ry A l b dr l5 ops T H (n+1) (.ptr id o::rl) p7 Q)(hx:rq T n rl x= .ptr id o:=by rfl):Ry A l b dr l5 (⟨.aV x,none,none,u⟩::ops) T H n rl p7 Q :=
 Ry.pure (rs:=[]) rfl (by grind [o6]) h2
def mu {x y:y5}{u:List Nat}{c d:Int}(h2:Ry A l b dr l5 ops T H (n+1) (.d (.int .i64 (c * d))::rl) p7 Q)(h0: -9223372036854775808<=c * d/\c * d<9223372036854775808)(hx:rq T n rl x= .d (.int .i64 c):=by rfl)(hy:rq T n rl y= .d (.int .i64 d):=by rfl) :
  Ry A l b dr l5 (⟨.bin .mul x y,none,none,u⟩::ops) T H n rl p7 Q :=
 Ry.pure (rs:=[]) rfl (by simp_all [o6,P4,ak,cq,wrap_small]) h2
def ipM {m sz i:Nat}{x y:y5}{u:List Nat}{k:IntKind}{cs:List Data}(h2:Ry A l b dr l5 ops T H (n+1) (.T4 (cs.drop (i * sz))::rl) p7 Q)(hx:rq T n rl x= .T4 cs:=by rfl)(hy:rq T n rl y= .d (.int k (OfNat.ofNat i)):=by rfl)
  (hi:i<m:=by decide):Ry A l b dr l5 (⟨.gG m sz x y,none,none,u⟩::ops) T H n rl p7 Q:=ip h2 hx hy hi
end S
def Ex.cV {mask:List Bool}{body:q6}{R:G7->St->Prop}(Inv:Nat->List c8->p9->Prop)
  (hb:∀ k T' H',Inv k T' H' ->Ex A l b body ⟨T',H'⟩ (Bf R fun s=>∃ k',k' <k/\∃ T2 H2,clean mask l.strict H.length s=⟨T2,H2⟩/\Inv k' T2 H2)) {k:Nat} (h:Inv k (X1 mask T) H):Ex A l b (.loop mask body) ⟨T,H⟩ R:=by
 refine Ex.loop (fun k s=>∃ T2 H2,clean mask l.strict H.length s=⟨T2,H2⟩/\Inv k T2 H2) (fun k s ⟨T2,H2,e,hs⟩=> ?_) (k:=k) ⟨X1 mask T,H,Ec rfl,h⟩;simp_all
end
section
variable {A:Prog} {l:H7} {b:Nat}
variable {dr:Bool} {l5 ops:List o9} {T:List c8} {H:p9} {n:Nat} {rl:List c8} {p7:List Touch} {Q:List c8->p9->List c8->Prop}
def Ex.M8 {c:y5}{d e:q6}{t:Bool}{Q:G7->St->Prop}(h2:Ex A l b d ⟨T,H⟩ Q)(h1:J2 T [] c= .d (.bool t):=by rfl)(ht:t=true:=by assumption):Ex A l b (.cond c d e) ⟨T,H⟩ Q :=
 Ex.cond h1 (fun _=>h2) (fun h=>by simp_all)
namespace S
def lq3 {x:y5}{u:List Nat}{id o:Nat}{v1 v2 v3:Data}(h2:Ry A l b dr l5 ops T H (n+1) (.agg [.d v1,.d v2,.d v3]::rl) p7 Q)(hx:rq T n rl x= .ptr id o:=by rfl)(hr:rd H id o 3=some [.d v1,.d v2,.d v3]:=by rfl) :
  Ry A l b dr l5 (⟨.load (some 3) x,none,none,u⟩::ops) T H n rl p7 Q :=
 Ry.pure (rs:=[id]) rfl (by simp_all [o6,L8,List.map_nil,c8.J3]) h2
def o1z {x:y5}{u:List Nat}{z:c8}{c:Data}(h2:Ry A l b dr l5 ops T H (n+1) (.own 1 1 [c]::rl) p7 Q)(hx:rq T n rl x= .d c:=by rfl):Ry A l b dr l5 (⟨.F5 1 1 [z] [(0,1,x)] false,none,none,u⟩::ops) T H n rl p7 Q :=
 Ry.pure (rs:=[]) rfl (by simp [o6,cg,hx,c8.cells?,splice,O0,c8.data?,c8.one]) h2
def clT {f:FuncId}{xs:List y5}{u:List Nat}{v:c8}{args:List c8}{s:Nat}{T2:List c8}(hc:Pf A f args v)(ha:xs.map (rq T n rl)=args:=by rfl)(lD:A.prom f=false:=by rfl)(hm:A.mode f=1:=by rfl)
  (hb:C5 args=0:=by rfl) (hv:v.J3=v:=by rfl) (hs:T[s]?.isSome=true:=by rfl) (hT:T.set s v=T2:=by simp only [List.set_cons_zero,List.set_cons_succ]<;>rfl)
  (h2:Ry A l b dr l5 ops T2 H (n+1) (v::rl) (.slot s::p7) Q):Ry A l b dr l5 (⟨.call f xs,some s,none,u⟩::ops) T H n rl p7 Q:=fun hn=>by
 obtain ⟨M,hc⟩:=hc;have hs:s<T.length:=by
  simp_all
 have h2:=h2.to hn;refine Rx.step (N1:=M) (rs:=[]) rfl rfl (fun k hk=> ?_) (eV s p7) h2;have h3:D0 (N9 A k l b) rl.reverse.length f args ⟨T,H,rl.reverse++ .any::c9 ops.length .any,p7⟩=some (put ⟨T,H,rl.reverse++ .any::c9 ops.length .any,p7⟩ rl.reverse.length v) :=
  gW lD hm hb (hc k hk)
 have ha' :xs.map (A2.J2 T (rl.reverse++ .any::c9 ops.length .any))=args:=by
  rw [show A2.J2 T (rl.reverse++ .any::c9 ops.length .any)=rq T n rl from funext fun x=>Y8 hn _ x];exact ha
 have h5:A2.D8 ⟨T,H,rl.reverse++v::c9 ops.length .any,p7⟩ (.loc rl.reverse.length)=(v,⟨T,H,rl.reverse++v::c9 ops.length .any,p7⟩):=by
  grind [A2.D8,c8.J3,A2.J2]
 simp_all [z6,z8,E2,x9.D9,if_true,F3,y4,G5,put,M1]
end S
end
section
variable {A:Prog} {l:H7} {b:Nat}
variable {dr:Bool} {l5 ops:List o9} {T:List c8} {H:p9} {n:Nat} {rl:List c8} {p7:List Touch} {Q:List c8->p9->List c8->Prop}
namespace S
def df {f:FuncId}{a c:List c8}{u:List Nat}(h2:Ry A l b dr l5 ops T H (n+1) (.any::rl) p7 Q)(hi:A.idle f=true:=by rfl):Ry A l b dr l5 (⟨.defer (.const (.func f a c)),none,none,u⟩::ops) T H n rl p7 Q:=fun hn=>by
 refine Rx.step (N1:=0) (rs:=[]) rfl rfl (fun k _=> ?_) (fun rs=>by simp [K0]) (h2.to hn);simp_all [N9,z6,z8,E2,x9.D9,if_true,F3,A2.J2,c8.SU,c8.J3,put,M1,y4,G5]
def dfl {f:FuncId}{x:y5}{a c:List c8}{u:List Nat}(h2:Ry A l b dr l5 ops T H (n+1) (.any::rl) p7 Q)(hx:rq T n rl x= .func f a c:=by rfl)(hi:A.idle f=true:=by rfl):Ry A l b dr l5 (⟨.defer x,none,none,u⟩::ops) T H n rl p7 Q:=fun hn=>by
 refine Rx.step (N1:=0) (rs:=[]) rfl rfl (fun k _=> ?_) (fun rs=>by simp [K0]) (h2.to hn);simp_all [N9,z6,z8,E2,x9.D9,if_true,F3,Y8,put,M1,y4,G5]
def ipp {m sz o id o2:Nat}{x y:y5}{u:List Nat}{k:IntKind}{e:Int}(i:Nat)(he:e=i)(ho:o+i * sz=o2)(hi:i<m)(h2:Ry A l b dr l5 ops T H (n+1) (.ptr id o2::rl) p7 Q)(hx:rq T n rl x= .ptr id o:=by rfl)(hy:rq T n rl y= .d (.int k e):=by rfl) :
  Ry A l b dr l5 (⟨.gG m sz x y,none,none,u⟩::ops) T H n rl p7 Q:=by
 refine Ry.pure (rs:=[]) rfl ?_ h2;simp_all [o6]
def mf {f:FuncId}{a c:List y5}{u:List Nat}{va vc:List c8}(h2:Ry A l b dr l5 ops T H (n+1) (.func f va vc::rl) p7 Q)(ha:a.map (rq T n rl)=va:=by rfl)(hc:c.map (rq T n rl)=vc:=by rfl):Ry A l b dr l5 (⟨.aT f a c,none,none,u⟩::ops) T H n rl p7 Q :=
 Ry.pure (rs:=[]) rfl (by simp_all [o6]) h2
end S
end
section
variable {A:Prog} {l:H7} {b:Nat}
variable {dr:Bool} {l5 ops:List o9} {T:List c8} {H:p9} {n:Nat} {rl:List c8} {p7:List Touch} {Q:List c8->p9->List c8->Prop}
namespace S
def bA2 {m sz i o id:Nat}{x y:y5}{u:List Nat}{k:IntKind}(h2:Ry A l b dr l5 ops T H (n+1) (.ptr id (o+i * sz)::rl) p7 Q)(hx:rq T n rl x= .ptr id o:=by rfl)(hy:rq T n rl y= .d (.int k (OfNat.ofNat i)):=by rfl)(hi:i<m:=by decide) :
  Ry A l b dr l5 (⟨.gG m sz x y,none,none,u⟩::ops) T H n rl p7 Q:=ipp i rfl rfl hi h2 hx hy
end S
end
section
variable {A:Prog} {l:H7} {b:Nat}
variable {dr:Bool} {l5 ops:List o9} {T:List c8} {H:p9} {n:Nat} {rl:List c8} {p7:List Touch} {Q:List c8->p9->List c8->Prop}
namespace S
def sp1 {id off:Nat}{x y:y5}{u:List Nat}{v:c8}{old new:List c8}{H2:p9}(hy:rq T n rl y= .ptr id off:=by rfl)(hx:Oq T n rl x v:=by exact ⟨rfl,rfl⟩)(hc:v.cells? =some [v]:=by rfl)(hl:l.may id=true:=by rfl)(hb:v.O5<=id+1:=by exact Nat.zero_le _)
  (ho:H[id]? =some (.cells old):=by rfl) (hq:off<old.length:=by simp) (hN:old.set off v=new:=by first|(simp only [List.set_cons_zero,List.set_cons_succ];done)|rfl) (hH:H.set id (.cells new)=H2:=by simp only [List.set_cons_zero,List.set_cons_succ]<;>rfl)
  (h2:Ry A l b false l5 ops T H2 (n+1) (.any::rl) (.obj id::p7) Q):Ry A l b false l5 (⟨.store 1 y x,none,none,u⟩::ops) T H n rl p7 Q:=so1 hy hx hc hl hb ho hq hN hH h2
end S
end
section
variable {A:Prog} {l:H7} {b:Nat}
variable {dr:Bool} {l5 ops:List o9} {T:List c8} {H:p9} {n:Nat} {rl:List c8} {p7:List Touch} {Q:List c8->p9->List c8->Prop}
namespace S
def alE {α:Type}{enc:α->List Data}{ys:List α}{j sz bytes:Nat}{y:y5}{u:List Nat}{r2:List c8}(hj:lk n rl j=some (.own sz 0 []):=by rfl)(hb:E1 (j+1) n=true:=by rfl)(hy:rq T n rl y= .d (B0 enc ys):=by rfl)
  (hs:∀ a,(enc a).length=sz:=by intro;rfl) (h0:0<sz:=by decide) (hr:roomFor (0+ys.length) bytes=true:=by simp only [roomFor,decide_eq_true_eq,List.length_append,List.length_cons,List.length_nil,List.length_take,List.length_drop,List.length_map] at * <;>omega)
  (hS:rl.set (n - (j+1)) (.d (.slice 0 []))=r2:=by simp only [Nat.reduceAdd,Nat.reduceSub,List.set_cons_zero,List.set_cons_succ]<;>rfl) (h2:Ry A l b dr l5 ops T H (n+1) (E7 sz enc ys::r2) p7 Q) :
  Ry A l b dr l5 (⟨.append sz bytes false (.loc j) y,none,none,u⟩::ops) T H n rl p7 Q :=
 Ry.av5 hj hb hy (aS hs ys) hr h0 (by
  simp_all [E7])
end S
end
section
variable {A:Prog} {l:H7} {b:Nat}
def Ex.OA {c:q6}{st:St}{R:G7->St->Prop}{go:St->Prop}(P:St->Prop)(h1:Ex A l b c st (Bf (fun _ _=>False) P))(h2:∀ s,P s->go s):Ex A l b c st (Bf R go):=by
 refine h1.mono fun x s h=> ?_
 cases x with
 |normal=>exact h2 s h
 |exit i=>exact h.elim
 |ret=>exact h.elim
end
section
variable {A:Prog} {l:H7} {b:Nat}
variable {dr:Bool} {l5 ops:List o9} {T:List c8} {H:p9} {n:Nat} {rl:List c8} {p7:List Touch} {Q:List c8->p9->List c8->Prop}
namespace S
def mvS {s:Nat}{u:List Nat}{w v:c8}(hv:w.J3=v)(h2:Ry A l b dr l5 ops T H (n+1) (v::rl) p7 Q)(hx:T[s]? =some w:=by rfl):Ry A l b dr l5 (⟨.Q5 (.slot s),none,none,u⟩::ops) T H n rl p7 Q:=fun hn=>by
 refine Rx.step (N1:=0) (rs:=[]) rfl rfl (fun k _=> ?_) (fun rs=>by simp [K0]) (h2.to hn);simp_all [A2.J2,c9,z6,z8,E2,x9.D9,j4,if_false,A2.D8,put,M1,y4,G5]
end S
end
def Pm (A:Prog)(f:FuncId)(args:List c8)(H:p9)(l:H7)(v:c8)(H1:p9):Prop:=∃ N,∀ n,N<=n->call A n f args H l=some (v,H1)
def Pq (A:Prog)(f:FuncId)(args:List c8)(H:p9)(l:H7)(Post:c8->p9->Prop):Prop:=∃ v H1,Post v H1/\Pm A f args H l v H1
section
variable {A:Prog} {l:H7} {b:Nat}
def Pq.run {f:FuncId}{af:q9}{args:List c8}{H:p9}{Post:c8->p9->Prop}(T:List c8)(hp:A.fP f=none)(hf:A.fn f=some af)(hn:args.length=af.nparams)(hb:H.length=b)
  (hT:args++c9 (af.names.length - args.length) .any=T) (h:Ex A l b af.body ⟨T,H⟩ fun x s=>∃ w H1,jL af b (some (x,s))=some (w,H1)/\Post w H1):Pq A f args H l Post:=by
 obtain ⟨x,s,N,⟨w,H1,hq,hP⟩,h⟩:=h;refine ⟨w,H1,hP,N+1,fun n hn' => ?_⟩;obtain ⟨n,rfl⟩:∃ j,n=j+1:=⟨n - 1,by omega⟩;simp_all [Gr,ua,N9]
def wE {H:p9}{s k n:Nat}(h:Z9 ((H.take n).drop s)<=n):F6 H s (k+1) n=n:=by
 simp_all [F6,if_pos]
def oU {E:Env}{k m:Nat}{f:FuncId}{args:List c8}{st:H6}{v:c8}{H1:p9}{l2:H7}(lD:E.prom f=false)(hm:E.mode f=0)(hc:F6 st.H E.lim.strict 8 (C5 args)=m)(hle:m<=st.H.length)(Bh:Z9 ((st.H.take m).drop E.lim.strict)<=m)
  (qU:(⟨E.lim.VD,E.lim.Vu,m,F7 st.H E.lim.strict m⟩:H7)=l2) (h:E.cf f args (st.H.take m) l2=some (v,H1)) (hH:H1.length=m) :
  D0 E k f args st=some (put { st with H:=H1++st.H.drop m,p7:= .below m::st.p7 } k v):=by
 simp_all [D0,and_self,if_true,j4,if_false]
def uc {E:Env}{k m:Nat}{f:FuncId}{args:List c8}{st:H6}{v:c8}{H1:p9}{l2:H7}(lD:E.prom f=false)(hm:E.mode f=1)(hc:F6 st.H E.lim.strict 8 (C5 args)=m)(hle:m<=st.H.length)(Bh:Z9 ((st.H.take m).drop E.lim.strict)<=m)
  (qU:(⟨0,m,m,F7 st.H E.lim.strict m⟩:H7)=l2) (h:E.cf f args (st.H.take m) l2=some (v,H1)) (hH:H1.length=m) :
  D0 E k f args st=some (put st k v):=by
 simp_all [D0,and_self,if_true,j4,if_false]
variable {dr:Bool} {l5 ops:List o9} {T:List c8} {H:p9} {n:Nat} {rl:List c8} {p7:List Touch} {Q:List c8->p9->List c8->Prop}
def lJ (hn:rl.length=n)(xs:List y5):xs.map (A2.J2 T (rl.reverse++ .any::c9 ops.length .any))=xs.map (rq T n rl):=by
 rw [show A2.J2 T (rl.reverse++ .any::c9 ops.length .any)=rq T n rl from funext fun x=>Y8 hn _ x]
namespace S
def c0 {f:FuncId}{xs:List y5}{u:List Nat}{v:c8}{args:List c8}{m:Nat}{H0 HD H1 H2:p9}{l2:H7}(hc:Pm A f args H0 l2 v H1)(hH1:H1.length=m)(Bh:Z9 ((H.take m).drop l.strict)<=m:=by exact Nat.zero_le _)(hcl:F6 H l.strict 8 (C5 args)=m:=by rfl)
  (hH0:H.take m=H0:=by rfl) (hle:E1 m H.length=true:=by rfl) (qU:(⟨l.VD,l.Vu,m,F7 H l.strict m⟩:H7)=l2:=by rfl) (hd:dr=true->E1 (tX l5) n=true:=by intro;rfl)
  (ha:xs.map (rq T n rl)=args:=by rfl) (lD:A.prom f=false:=by rfl) (hm:A.mode f=0:=by rfl) (hD:H.drop m=HD:=by rfl) (hA:H1++HD=H2:=by first|(simp only [List.cons_append,List.nil_append]<;>rfl)|rfl)
  (h2:Ry A l b dr l5 ops T H2 (n+1) (v::rl) (.below m::p7) Q):Ry A l b dr l5 (⟨.call f xs,none,none,u⟩::ops) T H n rl p7 Q:=fun hn=>by
 obtain ⟨M,hc⟩:=hc;subst hH0 hD hA;have h2:=h2.to hn;have e1:∀ k,M<=k->z6 (N9 A k l b) l5 none rl.reverse.length ⟨.call f xs,none,none,u⟩ ⟨T,H,rl.reverse++ .any::c9 ops.length .any,p7⟩=some (⟨T,H1++H.drop m,rl.reverse++v::c9 ops.length .any,.below m::p7⟩,[]):=fun k hk=>by
  have h3:D0 (N9 A k l b) rl.reverse.length f args ⟨T,H,rl.reverse++ .any::c9 ops.length .any,p7⟩=some (put ⟨T,H1++H.drop m,rl.reverse++ .any::c9 ops.length .any,.below m::p7⟩ rl.reverse.length v) :=
   oU lD hm hcl (j5 hle) Bh qU (hc k hk) hH1
  simp_all [z6,z8,E2,x9.D9,if_true,F3,lJ,y4,G5,put,M1]
 cases dr with
 |false=>exact Rx.stepT (N1:=M) (rs:=[]) rfl e1 h2
 |true =>
  refine Rx.KY (N1:=M) (rs:=[]) rfl rfl rfl e1 (fun h=> ?_) h2;simp_all<;>omega
def c1 {f:FuncId}{xs:List y5}{u:List Nat}{v:c8}{args:List c8}{m:Nat}{H0 H1:p9}{l2:H7}(hc:Pm A f args H0 l2 v H1)(hH1:H1.length=m)(h2:Ry A l b dr l5 ops T H (n+1) (v::rl) p7 Q)(Bh:Z9 ((H.take m).drop l.strict)<=m:=by exact Nat.zero_le _)(hcl:F6 H l.strict 8 (C5 args)=m:=by rfl)
  (hH0:H.take m=H0:=by rfl) (hle:E1 m H.length=true:=by rfl) (qU:(⟨0,m,m,F7 H l.strict m⟩:H7)=l2:=by rfl)
  (ha:xs.map (rq T n rl)=args:=by rfl) (lD:A.prom f=false:=by rfl) (hm:A.mode f=1:=by rfl):Ry A l b dr l5 (⟨.call f xs,none,none,u⟩::ops) T H n rl p7 Q:=fun hn=>by
 obtain ⟨M,hc⟩:=hc;refine Rx.step (N1:=M) (rs:=[]) rfl rfl (fun k hk=> ?_) (fun rs=>by simp [K0]) (h2.to hn);simp_all [D0,N9,c9,put,uc,j5,z6,z8,E2,x9.D9,if_true,F3,lJ,y4,G5,M1]
def cv {f:FuncId}{x:y5}{xs:List y5}{u:List Nat}{v:c8}{first caps args:List c8}(hc:Pf A f args v)(h2:Ry A l b dr l5 ops T H (n+1) (v::rl) p7 Q)(hx:rq T n rl x= .func f first caps:=by rfl)(ha:first++xs.map (rq T n rl)++caps=args:=by rfl)(lD:A.prom f=false:=by rfl)(hm:A.mode f=1:=by rfl)
  (hb:C5 args=0:=by rfl):Ry A l b dr l5 (⟨.aO x xs,none,none,u⟩::ops) T H n rl p7 Q:=fun hn=>by
 obtain ⟨M,hc⟩:=hc;refine Rx.step (N1:=M) (rs:=[]) rfl rfl (fun k hk=> ?_) (fun rs=>by simp [K0]) (h2.to hn);have h3:D0 (N9 A k l b) rl.reverse.length f args ⟨T,H,rl.reverse++ .any::c9 ops.length .any,p7⟩=some (put ⟨T,H,rl.reverse++ .any::c9 ops.length .any,p7⟩ rl.reverse.length v) :=
  gW lD hm hb (hc k hk)
 simp_all [z6,z8,E2,x9.D9,if_true,F3,Y8,lJ,y4,G5,put,M1]
def lk1 {kk:KK}{zero:c8}{x y:y5}{u:List Nat}{id:Nat}{key:Key}{es:List (Key×c8)}{r:Option c8}{v:c8}(hr:dZ kk key es=some r)(hv:r.getD zero=v)(h2:Ry A l b dr l5 ops T H (n+1) (v::rl) p7 Q)
  (hx:rq T n rl x= .map id:=by rfl) (hy:(rq T n rl y).NJ =some key:=by rfl) (ho:H[id]? =some (.map es):=by rfl) (hf:kk.fits key=true:=by rfl):Ry A l b dr l5 (⟨.lookup kk zero false x y,none,none,u⟩::ops) T H n rl p7 Q :=
 Ry.pure (rs:=[id]) rfl (by simp_all [o6]) h2
def lk2 {kk:KK}{zero:c8}{x y:y5}{u:List Nat}{id:Nat}{key:Key}{es:List (Key×c8)}{r:Option c8}{v:c8}{t:Bool}(hr:dZ kk key es=some r)(hv:r.getD zero=v)(ht:r.isSome=t)(h2:Ry A l b dr l5 ops T H (n+1) (.tuple [v,.d (.bool t)]::rl) p7 Q)
  (hx:rq T n rl x= .map id:=by rfl) (hy:(rq T n rl y).NJ =some key:=by rfl) (ho:H[id]? =some (.map es):=by rfl) (hf:kk.fits key=true:=by rfl):Ry A l b dr l5 (⟨.lookup kk zero true x y,none,none,u⟩::ops) T H n rl p7 Q :=
 Ry.pure (rs:=[id]) rfl (by simp_all [o6]) h2
def mp {kk:KK}{x y z:y5}{u:List Nat}{id:Nat}{key:Key}{es es' :List (Key×c8)}{v:c8}{H2:p9}(hr:gJ kk key v es=some es')(hk:Data.fI kk key key=some true)(hx:rq T n rl x= .map id:=by rfl)(hy:(rq T n rl y).NJ =some key:=by rfl)(hz:rq T n rl z=v:=by rfl)(hbv:v.O5<=id+1:=by exact Nat.zero_le _)(hl:l.may id=true:=by rfl)
  (ho:H[id]? =some (.map es):=by rfl) (hd:dr=true->E1 (tX l5) n=true:=by intro;rfl) (hH:H.set id (.map es')=H2:=by simp only [List.set_cons_zero,List.set_cons_succ]<;>rfl)
  (h2:Ry A l b dr l5 ops T H2 (n+1) (.any::rl) (.obj id::p7) Q):Ry A l b dr l5 (⟨.eu kk x y z,none,none,u⟩::ops) T H n rl p7 Q:=fun hn=>by
 subst hH;have e1:∀ k,0<=k->z6 (N9 A k l b) l5 none rl.reverse.length ⟨.eu kk x y z,none,none,u⟩ ⟨T,H,rl.reverse++ .any::c9 ops.length .any,p7⟩=some (⟨T,H.set id (.map es'),rl.reverse++ .any::c9 ops.length .any,.obj id::p7⟩,[]):=fun k _=>by
  simp_all [N9,z6,z8,E2,x9.D9,if_true,F3,Y8,V4,and_self,put,M1,y4,G5]
 cases dr with
 |false=>exact Rx.stepT (N1:=0) (rs:=[]) rfl e1 (h2.to hn)
 |true =>
  refine Rx.KY (N1:=0) (rs:=[]) rfl rfl rfl e1 (fun h=> ?_) (h2.to hn);simp_all<;>omega
end S
end
def dmap (ds:List (List UInt8)):List (Key×c8):=ds.map fun s=>(.str s,.d (.bool true))
def fO:List (List UInt8)->Nat->List (Key×c8)
 |[],_=>[]
 |s::l,i=>(.str s,.d (.int .i64 (i:Int)))::fO l (i+1)
theorem Ei (s:List UInt8):∀ ds,dZ .s (.str s) (dmap ds)=some (if ds.any fun y=>O1 y s then some (.d (.bool true)) else none)
 |[]=>by rfl
 |d::ds=>by
  have h1:=Ei s ds
  grind [dmap,dZ,Data.fI,O1]
theorem Ji (s:List UInt8):∀ ds,(ds.any fun y=>O1 y s)=false->gJ .s (.str s) (.d (.bool true)) (dmap ds)=some (dmap (ds++[s]))
 |[],_=>by rfl
 |d::ds,h=>by
  simp only [List.any_cons,G8] at h;have h1:=Ji s ds h.2
  grind [as1,dmap,gJ,Data.fI]
theorem Kf (s:List UInt8):∀ (l:List (List UInt8)) (i:Nat),(l.any fun y=>O1 y s)=false->gJ .s (.str s) (.d (.int .i64 ((i+l.length:Nat):Int))) (fO l i)=some (fO (l++[s]) i)
 |[],i,_=>by rfl
 |d::l,i,h=>by
  simp only [List.any_cons,G8] at h;have h1:=Kf s l (i+1) h.2
  grind [as1,fO,gJ,Data.fI]
theorem uE:∀ (l:List (List UInt8)) (i:Nat),C5 ((fO l i).map (·.2))=0
 |[],_=>rfl
 |_::l,i=>by simp [fO,C5,c8.O5,uE l (i+1)]
theorem uq:∀ l:List (List UInt8),C5 ((dmap l).map (·.2))=0
 |[]=>rfl
 |_::l=>by
  have:=uq l;simp_all [dmap,L8,C5,c8.O5,Nat.zero_max]
section
variable {A:Prog} {l:H7} {b:Nat}
variable {dr:Bool} {l5 ops:List o9} {T:List c8} {H:p9} {n:Nat} {rl:List c8} {p7:List Touch} {Q:List c8->p9->List c8->Prop}
def SR (id off:Nat)(p7:List Touch)(rs:List Nat):K0 ((Touch.cell id off::p7).take ((Touch.cell id off::p7).length - p7.length)) rs=false:=by
 simp_all [K0,Touch.L4]
def Ry.av4 {j k sz bytes id off:Nat}{y:y5}{u u' :List Nat}{d' :Option Nat}{g' :Option (Nat×Bool)}{n' len m:Nat}{cs' cells new:List Data}{old:List c8}
  (hj:lk n rl j=some (.d (.slice n' cs'))) (ha:l5[j]? =some ⟨.load none (.loc k),d',g',u'⟩) (hk:lk n rl k=some (.ptr id off)) (ht:p7.any (Touch.cF id off)=false) (hl:l.may id=true) (ho:H[id]? =some (.cells old)) (hc:old[off]? =some (.own sz len cells))
  (hy:rq T n rl y= .d (.slice m new)) (hn' :new.length=m * sz) (hr:roomFor (len+m) bytes=true) (h0:0<sz)
  (h2:Ry A l b dr l5 ops T (H.set id (.cells (old.set off (.d (.slice len cells))))) (n+1) (.own sz (len+m) (cells++new)::rl) (.cell id off::p7) Q):Ry A l b dr l5 (⟨.append sz bytes false (.loc j) y,none,none,u⟩::ops) T H n rl p7 Q:=fun hn=>by
 have hjl:rl.reverse[j]? =some (.d (.slice n' cs')):=by simp_all [iT]
 have bS:rl.reverse[k]? =some (.ptr id off):=by simp_all [iT]
 have hL:∀ r:List c8,(rl.reverse++ .any::r)[j]? =some (.d (.slice n' cs')):=fun r=>wW hjl _
 have hK:∀ r:List c8,(rl.reverse++ .any::r)[k]? =some (.ptr id off):=fun r=>wW bS _
 have ay7:A2.J2 T (rl.reverse++ .any::c9 ops.length .any) (.loc j)= .d (.slice n' cs'):=by simp [A2.J2,hL,c8.J3]
 refine Rx.step (N1:=0) (rs:=[]) (by simp_all [I5]) rfl (fun q _=> ?_) (SR id off p7) (h2.to hn);have hl' :(N9 A q l b).lim.may id=true:=hl;have hs:O7 H sz (.d (.slice m new))=some (m,new.map .d):=by simp_all [O7,if_true]
 simp [z6,z8,E2,x9.D9,if_true,F3,ay7,O4,Y8 hn,hy,hs,cL,j4,if_false,Q3,hL,ha,X5,bJ,hK,ht,hl',Bool.not_true,Bool.or_self,ho,hc,hr,h0,and_self,put,M1,y4,G5]
namespace S
def o2 {x:y5}{u:List Nat}{z1 z2:c8}{c d:Data}(h2:Ry A l b dr l5 ops T H (n+1) (.own 2 1 [c,d]::rl) p7 Q)(hx:rq T n rl x= .agg [.d c,.d d]:=by rfl):Ry A l b dr l5 (⟨.F5 2 1 [z1,z2] [(0,2,x)] false,none,none,u⟩::ops) T H n rl p7 Q :=
 Ry.pure (rs:=[]) rfl (by simp [o6,cg,hx,c8.cells?,splice,O0,c8.data?,c8.one]) h2
def ac2 {α:Type}{enc:α->List Data}{xs:List α}{a:α}{j k bytes id off:Nat}{y:y5}{u u' :List Nat}{d' :Option Nat}{g' :Option (Nat×Bool)}{n' :Nat}{cs' :List Data}{c d:Data}{old new:List c8}{H2:p9}
  (hr:roomFor (xs.length+1) bytes=true) (he:enc a=[c,d]) (hj:lk n rl j=some (.d (.slice n' cs')):=by rfl) (ha:l5[j]? =some ⟨.load none (.loc k),d',g',u'⟩:=by rfl) (hk:lk n rl k=some (.ptr id off):=by rfl) (ht:p7.any (Touch.cF id off)=false:=by rfl) (hl:l.may id=true:=by rfl) (ho:H[id]? =some (.cells old):=by rfl) (hc:old[off]? =some (E7 2 enc xs):=by rfl)
  (hy:rq T n rl y= .d (.slice 1 [c,d]):=by rfl) (hN:old.set off (.d (B0 enc xs))=new:=by rfl) (hH:H.set id (.cells new)=H2:=by simp only [List.set_cons_zero,List.set_cons_succ]<;>rfl)
  (h2:Ry A l b dr l5 ops T H2 (n+1) (E7 2 enc (xs++[a])::rl) (.cell id off::p7) Q):Ry A l b dr l5 (⟨.append 2 bytes false (.loc j) y,none,none,u⟩::ops) T H n rl p7 Q :=
 Ry.av4 hj ha hk ht hl ho hc hy rfl hr (by decide) (by
  have e1:E7 2 enc (xs++[a])= .own 2 (xs.length+1) (xs.flatMap enc++[c,d]):=by simp [E7,he]
  rw [e1] at h2;subst hH hN;exact h2)
def ac1 {α:Type}{enc:α->List Data}{xs:List α}{a:α}{j k bytes id off:Nat}{y:y5}{u u' :List Nat}{d' :Option Nat}{g' :Option (Nat×Bool)}{n' :Nat}{cs' :List Data}{c:Data}{old new:List c8}{H2:p9}
  (hr:roomFor (xs.length+1) bytes=true) (he:enc a=[c]) (hj:lk n rl j=some (.d (.slice n' cs')):=by rfl) (ha:l5[j]? =some ⟨.load none (.loc k),d',g',u'⟩:=by rfl) (hk:lk n rl k=some (.ptr id off):=by rfl) (ht:p7.any (Touch.cF id off)=false:=by rfl) (hl:l.may id=true:=by rfl) (ho:H[id]? =some (.cells old):=by rfl) (hc:old[off]? =some (E7 1 enc xs):=by rfl)
  (hy:rq T n rl y= .d (.slice 1 [c]):=by rfl) (hN:old.set off (.d (B0 enc xs))=new:=by rfl) (hH:H.set id (.cells new)=H2:=by simp only [List.set_cons_zero,List.set_cons_succ]<;>rfl)
  (h2:Ry A l b dr l5 ops T H2 (n+1) (E7 1 enc (xs++[a])::rl) (.cell id off::p7) Q):Ry A l b dr l5 (⟨.append 1 bytes false (.loc j) y,none,none,u⟩::ops) T H n rl p7 Q :=
 Ry.av4 hj ha hk ht hl ho hc hy rfl hr (by decide) (by
  have e1:E7 1 enc (xs++[a])= .own 1 (xs.length+1) (xs.flatMap enc++[c]):=by simp [E7,he]
  rw [e1] at h2;subst hH hN;exact h2)
def soO {id off j z n0:Nat}{y:y5}{u:List Nat}{cs:List Data}{old new:List c8}{H2:p9}{r2:List c8}(hy:rq T n rl y= .ptr id off:=by rfl)(hj:lk n rl j=some (.own z n0 cs):=by rfl)(hjb:E1 (j+1) n=true:=by rfl)(hl:l.may id=true:=by rfl)
  (ho:H[id]? =some (.cells old):=by rfl) (hq:E1 (off+1) old.length=true:=by rfl) (hd:dr=true->E1 (tX l5) n=true:=by intro;rfl) (hN:old.set off (.own z n0 cs)=new:=by rfl) (hH:H.set id (.cells new)=H2:=by simp only [List.set_cons_zero,List.set_cons_succ]<;>rfl)
  (hS:rl.set (n - (j+1)) (.d (.slice n0 cs))=r2:=by simp only [Nat.reduceAdd,Nat.reduceSub,List.set_cons_zero,List.set_cons_succ]<;>rfl)
  (h2:Ry A l b dr l5 ops T H2 (n+1) (.any::r2) (.obj id::p7) Q):Ry A l b dr l5 (⟨.store 1 y (.loc j),none,none,u⟩::ops) T H n rl p7 Q:=fun hn=>by
 subst hH hN hS;have hq' :off<old.length:=j5 hq;have hjl:rl.reverse[j]? =some (.own z n0 cs):=by simp_all [iT]
 have hL:∀ r:List c8,(rl.reverse++ .any::r)[j]? =some (.own z n0 cs):=fun r=>wW hjl _
 have hjn:j<rl.reverse.length:=by grind
 have hlen:(rl.reverse.set j (.d (.slice n0 cs))).length=rl.reverse.length:=by simp
 have h4:∀ (a v:c8) (r:List c8),(rl.reverse.set j (.d (.slice n0 cs))++a::r).set rl.reverse.length v=rl.reverse.set j (.d (.slice n0 cs))++v::r:=fun a v r=>by simp_all
 have h1:splice old off [.own z n0 cs]=old.set off (.own z n0 cs):=by
  simp_all [splice,List.length_singleton,List.set_eq_take_append_cons_drop,if_pos]
 have hw:wr H id off [.own z n0 cs]=some (H.set id (.cells (old.set off (.own z n0 cs)))):=by
  simp_all [wr,List.length_singleton,if_pos]
 have h2' :=h2.to (by simp [hn]);rw [<- Hw hn hjb] at h2';have e1:∀ k,0<=k->z6 (N9 A k l b) l5 none rl.reverse.length ⟨.store 1 y (.loc j),none,none,u⟩ ⟨T,H,rl.reverse++ .any::c9 ops.length .any,p7⟩=some (⟨T,H.set id (.cells (old.set off (.own z n0 cs))),rl.reverse.set j (.d (.slice n0 cs))++ .any::c9 ops.length .any,.obj id::p7⟩,[]):=fun k _=>by
  have hl' :(N9 A k l b).lim.may id=true:=hl;have hx:A2.D8 ⟨T,H,rl.reverse++ .any::c9 ops.length .any,p7⟩ (.loc j)=(.own z n0 cs,⟨T,H,rl.reverse.set j (.d (.slice n0 cs))++ .any::c9 ops.length .any,p7⟩):=by
   simp_all [A2.D8]
  have hb0:C5 [c8.own z n0 cs]<=id+1:=Nat.zero_le _;have hc1:(c8.own z n0 cs).cells? =some [.own z n0 cs]:=rfl;simp_all [z6,z8,E2,x9.D9,if_true,F3,Y8,S4,List.length_singleton,true_or,and_self,put,y4,G5]
 cases dr with
 |false=>exact Rx.stepT (N1:=0) (rs:=[]) hlen e1 h2'
 |true =>
  refine Rx.KY (N1:=0) (rs:=[]) hlen rfl rfl e1 (fun h=> ?_) h2';simp_all<;>omega
end S
end
section
variable {A:Prog} {l:H7} {b:Nat}
variable {dr:Bool} {l5 ops:List o9} {T:List c8} {H:p9} {n:Nat} {rl:List c8} {p7:List Touch} {Q:List c8->p9->List c8->Prop}
namespace S
def cv1 {f:FuncId}{x:y5}{xs:List y5}{u:List Nat}{v:c8}{first caps args:List c8}{m:Nat}{H0 H1:p9}{l2:H7}(hc:Pm A f args H0 l2 v H1)(hH1:H1.length=m)(h2:Ry A l b dr l5 ops T H (n+1) (v::rl) p7 Q)(Bh:Z9 ((H.take m).drop l.strict)<=m:=by exact Nat.zero_le _)(hcl:F6 H l.strict 8 (C5 args)=m:=by rfl)
  (hH0:H.take m=H0:=by rfl) (hle:E1 m H.length=true:=by rfl) (qU:(⟨0,m,m,F7 H l.strict m⟩:H7)=l2:=by rfl) (hx:rq T n rl x= .func f first caps:=by rfl)
  (ha:first++xs.map (rq T n rl)++caps=args:=by rfl) (lD:A.prom f=false:=by rfl) (hm:A.mode f=1:=by rfl):Ry A l b dr l5 (⟨.aO x xs,none,none,u⟩::ops) T H n rl p7 Q:=fun hn=>by
 obtain ⟨M,hc⟩:=hc;subst hH0;refine Rx.step (N1:=M) (rs:=[]) rfl rfl (fun k hk=> ?_) (fun rs=>by simp [K0]) (h2.to hn);have h3:D0 (N9 A k l b) rl.reverse.length f args ⟨T,H,rl.reverse++ .any::c9 ops.length .any,p7⟩=some (put ⟨T,H,rl.reverse++ .any::c9 ops.length .any,p7⟩ rl.reverse.length v) :=
  uc lD hm hcl (j5 hle) Bh qU (hc k hk) hH1
 simp_all [z6,z8,E2,x9.D9,if_true,F3,Y8,lJ,y4,G5,put,M1]
def cv0 {f:FuncId}{x:y5}{xs:List y5}{u:List Nat}{v:c8}{first caps args:List c8}{m:Nat}{H0 HD H1 H2:p9}{l2:H7}(hc:Pm A f args H0 l2 v H1)(hH1:H1.length=m)(Bh:Z9 ((H.take m).drop l.strict)<=m:=by exact Nat.zero_le _)(hcl:F6 H l.strict 8 (C5 args)=m:=by rfl)
  (hH0:H.take m=H0:=by rfl) (hle:E1 m H.length=true:=by rfl) (qU:(⟨l.VD,l.Vu,m,F7 H l.strict m⟩:H7)=l2:=by rfl) (hx:rq T n rl x= .func f first caps:=by rfl)
  (ha:first++xs.map (rq T n rl)++caps=args:=by rfl) (lD:A.prom f=false:=by rfl) (hm:A.mode f=0:=by rfl) (hD:H.drop m=HD:=by rfl) (hA:H1++HD=H2:=by first|(simp only [List.cons_append,List.nil_append]<;>rfl)|rfl)
  (h2:Ry A l b false l5 ops T H2 (n+1) (v::rl) (.below m::p7) Q):Ry A l b false l5 (⟨.aO x xs,none,none,u⟩::ops) T H n rl p7 Q:=fun hn=>by
 obtain ⟨M,hc⟩:=hc;subst hH0 hD hA;refine Rx.stepT (N1:=M) (rs:=[]) rfl (fun k hk=> ?_) (h2.to hn);have h3:D0 (N9 A k l b) rl.reverse.length f args ⟨T,H,rl.reverse++ .any::c9 ops.length .any,p7⟩=some (put ⟨T,H1++H.drop m,rl.reverse++ .any::c9 ops.length .any,.below m::p7⟩ rl.reverse.length v) :=
  oU lD hm hcl (j5 hle) Bh qU (hc k hk) hH1
 simp_all [z6,z8,E2,x9.D9,if_true,F3,Y8,lJ,y4,G5,put,M1]
end S
end
section
variable {A:Prog} {l:H7} {b:Nat}
def LC (l5:List o9)(na k:Nat)(e:lZ):Prop :=
 na ∉ e.reads/\(k<tX l5->∀ rs,na ∉ rs->K0 e.JB rs=false)/\e.HB<=na/\(∀ i,l5[k]? =some i->i.op.B6=true->e.id=na)/\(∀ i,l5[k]? =some i->i.op.rdr=false->e.reads=[])
def Rz (A:Prog)(l:H7)(b:Nat)(l5 ops:List o9)(T:List c8)(H:p9)(n:Nat)(rl:List c8)(p7:List Touch)(na:Nat)(Q:List c8->p9->List c8->Prop):Prop :=
 rl.length=n->∃ r N,Q r.T r.H r.L/\∀ k,N<=k->∃ lg:List lZ,T3 (N9 A k l b) l5 ops n na ⟨T,H,rl.reverse++c9 ops.length .any,p7⟩=some (r,lg)/\lg.length=ops.length/\∀ j e,lg[j]? =some e->LC l5 na (n+j) e
variable {l5 ops:List o9} {T:List c8} {H:p9} {n:Nat} {rl:List c8} {p7:List Touch} {na:Nat} {Q:List c8->p9->List c8->Prop}
def Rn.bB9 {T:List c8}{H:p9}{s:Nat}(ya:aN ops=[.dead])(tQ:slotsOf ops=[.slot s])(hu:∀ i,i ∈ ops->∀ e,e ∈ i.cD->e<ops.length)(h:Rz A l b ops ops T (H++[.dead]) 0 [] [.slot s] H.length Q):Rn A l b ops true T H Q:=by
 obtain ⟨r,N,hq,h⟩:=h rfl;refine ⟨r,N,hq,fun n hn=> ?_⟩;obtain ⟨lg,e1,e2,e3⟩:=h n hn;simp [Nat.zero_add] at e1 e3;have bw8:ym ops lg=true:=by
  simp only [ym,Q2];rintro ⟨i,le⟩ DG e he;obtain ⟨j,hj,hji⟩:=List.getElem_of_mem DG;simp [List.length_zip] at hj;have hj1:j<ops.length:=by omega
  have hj2:j<lg.length:=by omega
  simp [List.getElem_zip] at hji;obtain ⟨rfl,rfl⟩:=hji;have hi:ops[j] ∈ ops:=List.getElem_mem hj1;have hlt:=hu _ hi e he;have he2:e<lg.length:=by omega
  rw [n9 he2];have c1:=e3 j _ (n9 hj2);have c2:=e3 e _ (n9 he2);cases hr:ops[j].op.rdr with
  |true =>
   have hb:=Au hi hr he;have h5:=c2.2.1 hb _ c1.1;have ha:ops[j].op.makes=false:=by
    cases ho:ops[j].op<;>rw [ho] at hr<;>first|rfl|(cases hr)
   simp [h5,ha]
  |false =>
   have h5:=c1.2.2.2.2 _ (n9 hj1) hr;cases hm:ops[j].op.makes with
   |false=>simp [h5,K0]
   |true =>
    have ha:ops[j].op.B6=true:=by
     cases ho:ops[j].op<;>rw [ho] at hm<;>first|exact hm|(cases hm)
    have h7:=c1.2.2.2.1 _ (n9 hj1) ha;have h6:=c2.2.2.1;simp_all [K0]
 simp_all [S2,if_true]
def Rz.nil (h:Q T H rl.reverse):Rz A l b l5 [] T H n rl p7 na Q:=fun _=>⟨⟨T,H,rl.reverse,p7⟩,0,h,fun _ _=>⟨[],by simp [T3],rfl,fun j e h=>by simp at h⟩⟩
def Rz.step {i:o9}{T' :List c8}{H' :p9}{v:c8}{gp :List Touch}{rs:List Nat}{N1:Nat}(hk:∀ L,I5 ⟨T,H,L,p7⟩ i.op=false)(hi:l5[n]? =some i)
  (h:rl.length=n->∀ k,N1<=k->z6 (N9 A k l b) l5 (if i.op.B6 then some na else none) n i ⟨T,H,rl.reverse++ .any::c9 ops.length .any,p7⟩=some (⟨T',H',rl.reverse++v::c9 ops.length .any,gp⟩,rs))
  (hr:na ∉ rs) (ht:n<tX l5->∀ rs,na ∉ rs->K0 (nY (if i.op.B6 then some na else none)++gp.take (gp.length - p7.length)) rs=false) (Tx:∀ k,L5 (N9 A k l b) ⟨T,H,rl.reverse++ .any::c9 ops.length .any,p7⟩ i.op<=na)
  (hn2:i.op.B6=true->∀ j,j ∈ ops->j.op.B6=false) (h2:∀ na',(i.op.B6=false->na' =na)->Rz A l b l5 ops T' H' (n+1) (v::rl) gp na Q/\(i.op.B6=true->∀ k r lg,T3 (N9 A k l b) l5 ops (n+1) na ⟨T',H',(v::rl).reverse++c9 ops.length .any,gp⟩=some (r,lg)->T3 (N9 A k l b) l5 ops (n+1) (na+1) ⟨T',H',(v::rl).reverse++c9 ops.length .any,gp⟩=some (r,lg))) :
  Rz A l b l5 (i::ops) T H n rl p7 na Q:=fun hn=>by
 obtain ⟨h2,h2a⟩:=h2 na (fun _=>rfl);obtain ⟨r,N,hq,h2⟩:=h2 (by simp [hn]);refine ⟨r,max N N1,hq,fun k hkk=> ?_⟩;obtain ⟨lg,e1,e2,e3⟩:=h2 k (by omega);have h4:=h hn k (by omega);have e1' :T3 (N9 A k l b) l5 ops (n+1) (if i.op.B6 then na+1 else na) ⟨T',H',rl.reverse++v::c9 ops.length .any,gp⟩=some (r,lg):=by
  grind
 refine ⟨eO (N9 A k l b) i (if i.op.B6 then some na else none) ⟨T,H,rl.reverse++ .any::c9 ops.length .any,p7⟩ ⟨T',H',rl.reverse++v::c9 ops.length .any,gp⟩ rs::lg,?_,by simp [e2],?_⟩
 .simp_all [T3,List.length_cons,List.replicate_succ,kL,Bool.false_and,j4,if_false]
 .intro j e he
  cases j with
  |zero =>
   simp [List.getElem?_cons_zero,Option.some.injEq] at he;subst he;refine ⟨hr,fun hb=>ht (by omega),Tx k,fun i' hi' ha=> ?_,fun i' hi' hr' => ?_⟩
   .simp_all [Nat.add_zero,eO]
   .rw [Nat.add_zero,hi] at hi'
    cases hi';exact Ci h4 hr'
  |succ j =>
   grind
theorem BO {E:Env}:∀ (ops:List o9) (k na na' :Nat) (st:H6),(∀ j,j ∈ ops->j.op.B6=false)->T3 E l5 ops k na st=T3 E l5 ops k na' st
 |[],_,_,_,_,_=>rfl
 |i::ops,k,na,na',st,h=>by
  have hi:=h i (List.mem_cons_self);simp [T3,hi,j4,if_false];cases kL E l5 none k i st with
  |none=>rfl
  |some x=>simp [BO ops (k+1) na na' x.1 (fun j hj=>h j (List.mem_cons_of_mem _ hj))]
end
section
variable {A:Prog} {l:H7} {b:Nat}
variable {l5 ops:List o9} {T:List c8} {H:p9} {n:Nat} {rl:List c8} {p7:List Touch} {na:Nat} {Q:List c8->p9->List c8->Prop}
def Rz.simple {i:o9}{v:c8}{rs:List Nat}{N1:Nat}(ha:i.op.B6=false)(hk:∀ L,I5 ⟨T,H,L,p7⟩ i.op=false)(hi:l5[n]? =some i)
  (h:rl.length=n->∀ k,N1<=k->z6 (N9 A k l b) l5 none n i ⟨T,H,rl.reverse++ .any::c9 ops.length .any,p7⟩=some (⟨T,H,rl.reverse++v::c9 ops.length .any,p7⟩,rs))
  (hr:na ∉ rs) (hs:∀ k,L5 (N9 A k l b) ⟨T,H,rl.reverse++ .any::c9 ops.length .any,p7⟩ i.op<=na) (h2:Rz A l b l5 ops T H (n+1) (v::rl) p7 na Q):Rz A l b l5 (i::ops) T H n rl p7 na Q :=
 Rz.step (N1:=N1) hk hi (fun hn k hk=>by simp_all) hr (fun _ rs _=>by grind [nY,K0]) hs (fun h=>by simp_all) (fun _ _=>⟨h2,fun h=>by simp_all⟩)
namespace S
def zn (h:Q T H rl.reverse):Rz A l b l5 [] T H n rl p7 na Q:=Rz.nil h
def zp {op:x9}{u:List Nat}{rs:List Nat}(v:c8)(hp:o6 (rq T n rl) H op=some (v,rs))(h2:Rz A l b l5 ops T H (n+1) (v::rl) p7 na Q)(hr:na ∉ rs:=by simp)(hE:op.D9=false:=by rfl)(ha:op.B6=false:=by rfl)(hk:∀ L,I5 ⟨T,H,L,p7⟩ op=false:=by intro;rfl)(hi:l5[n]? =some ⟨op,none,none,u⟩:=by rfl)
  (hs:∀ k,L5 (N9 A k l b) ⟨T,H,rl.reverse++ .any::c9 ops.length .any,p7⟩ op<=na:=by intro;exact Nat.zero_le _):Rz A l b l5 (⟨op,none,none,u⟩::ops) T H n rl p7 na Q:=by
 refine Rz.simple (N1:=0) (rs:=rs) ha hk hi (fun hn k _=> ?_) hr hs h2;have hmv:∀ x,op≠ .Q5 x:=by
  grind [o6]
 have h4:o6 (A2.J2 T (rl.reverse++ .any::c9 ops.length .any)) H op=some (v,rs):=by
  rw [show A2.J2 T (rl.reverse++ .any::c9 ops.length .any)=rq T n rl from funext fun x=>Y8 hn _ x];exact hp
 have hsm:∀ (a:c8) (r:List c8),(rl.reverse++a::r).set n v=rl.reverse++v::r:=fun a r=>by simp_all
 simp_all [E2,N9,c9,absurd,j4,if_false,put,x9.D9,z6,z8,y4,G5]
def zm {x:y5}{u:List Nat}{v:c8}(h2:Rz A l b l5 ops T H (n+1) (v::rl) p7 na Q)(hx:Oq T n rl x v:=by exact ⟨rfl,rfl⟩)(hi:l5[n]? =some ⟨.Q5 x,none,none,u⟩:=by rfl):Rz A l b l5 (⟨.Q5 x,none,none,u⟩::ops) T H n rl p7 na Q:=by
 refine Rz.simple (N1:=0) (rs:=[]) rfl (fun _=>rfl) hi (fun hn k _=> ?_) (by simp) (fun k=>Nat.zero_le _) h2;have hsm:∀ (a:c8) (r:List c8),(rl.reverse++a::r).set n v=rl.reverse++v::r:=fun a r=>by simp_all
 simp [z6,z8,E2,x9.D9,j4,if_false,(hx.op hn).D8,put,hsm,y4,G5]
def zc {f:FuncId}{xs:List y5}{u:List Nat}{v:c8}{args:List c8}{m:Nat}{H0 H1:p9}{l2:H7}(hc:Pm A f args H0 l2 v H1)(hH1:H1.length=m)(h2:Rz A l b l5 ops T H (n+1) (v::rl) p7 na Q)(hmn:m<=na:=by decide)(Bh:Z9 ((H.take m).drop l.strict)<=m:=by exact Nat.zero_le _)(hcl:F6 H l.strict 8 (C5 args)=m:=by rfl)
  (hH0:H.take m=H0:=by rfl) (hle:E1 m H.length=true:=by rfl) (qU:(⟨0,m,m,F7 H l.strict m⟩:H7)=l2:=by rfl)
  (ha:xs.map (rq T n rl)=args:=by rfl) (lD:A.prom f=false:=by rfl) (hm:A.mode f=1:=by rfl) (hi:l5[n]? =some ⟨.call f xs,none,none,u⟩:=by rfl) (hn0:rl.length=n:=by rfl):Rz A l b l5 (⟨.call f xs,none,none,u⟩::ops) T H n rl p7 na Q:=by
 obtain ⟨M,hc⟩:=hc;have aR6 :∀ k,(N9 A k l b).prom f=false:=fun _=>lD
 refine Rz.simple (N1:=M) (rs:=[]) rfl (fun _=>rfl) hi (fun hn k hk=> ?_) (by simp) (fun k=> ?_) h2
 .have hsm:∀ (a:c8) (r:List c8),(rl.reverse++a::r).set n v=rl.reverse++v::r:=fun a r=>by simp_all
  simp_all [D0,N9,c9,put,uc,j5,z6,z8,E2,x9.D9,if_true,F3,lJ,y4,G5]
 .have cb9 :F6 H (N9 A k l b).lim.strict 8 (C5 args)=m:=hcl
  simp_all [L5,j4,if_false,lJ]
def za {zero:List c8}{u:List Nat}{s:Nat}{T2:List c8}{H2:p9}(hs:T[s]?.isSome=true:=by rfl)(htc:p7.any (Touch.U9 s)=true:=by rfl)(hT:T.set s (.ptr na 0)=T2:=by simp only [List.set_cons_zero,List.set_cons_succ]<;>rfl)(hH:H.set na (.cells zero)=H2:=by simp only [List.set_cons_zero,List.set_cons_succ]<;>rfl)
  (hi:l5[n]? =some ⟨.alloc zero,some s,none,u⟩:=by rfl) (hno:ops.all (fun j=> !j.op.B6)=true:=by rfl) (h2:Rz A l b l5 ops T2 H2 (n+1) (.ptr na 0::rl) p7 na Q):Rz A l b l5 (⟨.alloc zero,some s,none,u⟩::ops) T H n rl p7 na Q:=by
 have hs:s<T.length:=by
  simp_all
 have bx2 :∀ j,j ∈ ops->j.op.B6=false:=fun j hj=>by simp_all
 refine Rz.step (N1:=0) (rs:=[]) (fun _=>rfl) hi (fun hn k _=> ?_) (by simp) (fun _ rs hrs=> ?_) (fun k=>Nat.zero_le _) (fun _=>bx2) (fun _ _=>⟨h2,fun _ k r lg h=>by grind [BO]⟩)
 .have hsm:∀ (a v:c8) (r:List c8),(rl.reverse++a::r).set n v=rl.reverse++v::r:=fun a v r=>by simp_all
  simp_all [List.length_reverse,x9.B6,if_true,z6,z8,E2,x9.D9,F3,M4,newId,Option.getD_some,put,y4,X6,A2.D8,decide_true,Bool.and_self,A2.J2,c8.J3]
 grind [x9.B6,nY,K0,Touch.L4]
def zs {m:Nat}{x y:y5}{u:List Nat}{v:c8}{cs old:List c8}{H2:p9}(hd:E1 (tX l5) n=true:=by rfl)(hy:rq T n rl y= .ptr na 0:=by rfl)(hx:Oq T n rl x v:=by exact ⟨rfl,rfl⟩)(hc:v.cells? =some cs:=by rfl)(hm:cs.length=m:=by rfl)(hl:l.may na=true:=by rfl)(hb:C5 cs=0:=by rfl)
  (ho:H[na]? =some (.cells old):=by rfl) (hq:old.length=m:=by rfl) (hH:H.set na (.cells cs)=H2:=by simp only [List.set_cons_zero,List.set_cons_succ]<;>rfl) (hi:l5[n]? =some ⟨.store m y x,none,none,u⟩:=by rfl)
  (h2:Rz A l b l5 ops T H2 (n+1) (.any::rl) (.obj na::p7) na Q):Rz A l b l5 (⟨.store m y x,none,none,u⟩::ops) T H n rl p7 na Q:=by
 have hw:wr H na 0 cs=some H2:=by
  simp_all [wr,splice,l6]
 refine Rz.step (N1:=0) (rs:=[]) (fun _=>rfl) hi (fun hn k _=> ?_) (by simp) (fun h=> ?_) (fun k=>Nat.zero_le _) (fun h=>by cases h) (fun _ _=>⟨h2,fun h=>by cases h⟩)
 .have hl' :(N9 A k l b).lim.may na=true:=hl
  have hb' :C5 cs<=na+1:=by omega
  have hsm:∀ (a v:c8) (r:List c8),(rl.reverse++a::r).set n v=rl.reverse++v::r:=fun a v r=>by simp_all
  simp [x9.B6,j4,if_false,z6,z8,E2,x9.D9,if_true,F3,Y8 hn,hy,S4,(hx.op hn).D8,hc,hm,hl',hb',true_or,and_self,hw,put,hsm,y4,G5]
 simp_all<;>omega
end S
end
section
variable {A:Prog} {l:H7} {b:Nat}
variable {dr:Bool} {l5 ops:List o9} {T:List c8} {H:p9} {n:Nat} {rl:List c8} {p7:List Touch} {Q:List c8->p9->List c8->Prop}
namespace S
def o12 {x y:y5}{u:List Nat}{z1 z2:c8}{c d:Data}(h2:Ry A l b dr l5 ops T H (n+1) (.own 1 2 [c,d]::rl) p7 Q)(hx:rq T n rl x= .d c:=by rfl)(hy:rq T n rl y= .d d:=by rfl):Ry A l b dr l5 (⟨.F5 1 2 [z1,z2] [(0,1,x),(1,1,y)] false,none,none,u⟩::ops) T H n rl p7 Q :=
 Ry.pure (rs:=[]) rfl (by simp [o6,cg,hx,hy,c8.cells?,splice,O0,c8.data?,c8.one]) h2
def lq2 {α β:Type}{e1:α->List Data}{e2:β->List Data}{xs:List α}{ys:List β}{x:y5}{u:List Nat}{id z1 z2:Nat}(h2:Ry A l b dr l5 ops T H (n+1) (.agg [.d (B0 e1 xs),.d (B0 e2 ys)]::rl) p7 Q)(hx:rq T n rl x= .ptr id 0:=by rfl)(ho:H[id]? =some (.cells [E7 z1 e1 xs,E7 z2 e2 ys]):=by rfl) :
  Ry A l b dr l5 (⟨.load (some 2) x,none,none,u⟩::ops) T H n rl p7 Q :=
 Ry.pure (rs:=[id]) rfl (by simp [o6,hx,rd,ho,E7,B0,c8.J3]) h2
end S
end
section
variable {A:Prog} {l:H7} {b:Nat}
variable {l5 ops:List o9} {T:List c8} {H:p9} {n:Nat} {rl:List c8} {p7:List Touch} {na:Nat} {Q:List c8->p9->List c8->Prop}
namespace S
def zix {α:Type} [Inhabited α] {enc:α->List Data}{xs:List α}{sz:Nat}{e:Int}{x y:y5}{k:IntKind}{u:List Nat}(h0:0<=e/\e<xs.length)(h2:Rz A l b l5 ops T H (n+1) (.T4 (enc (nth xs e.toNat)++(xs.drop (e.toNat+1)).flatMap enc)::rl) p7 na Q)(hx:rq T n rl x= .d (B0 enc xs):=by rfl)(hy:rq T n rl y= .d (.int k e):=by rfl)(hs:∀ a,(enc a).length=sz:=by intro;rfl)
  (hi:l5[n]? =some ⟨.N8 sz x y,none,none,u⟩:=by rfl):Rz A l b l5 (⟨.N8 sz x y,none,none,u⟩::ops) T H n rl p7 na Q:=by
 refine zp (rs:=[]) _ ?_ h2 (hi:=hi);simp_all [nN,F2,o6,B0,and_self,if_true]
def zle {cs rest:List Data}{x:y5}{m:Nat}{u:List Nat}(h2:Rz A l b l5 ops T H (n+1) (.agg (cs.map .d)::rl) p7 na Q)(hx:rq T n rl x= .T4 (cs++rest):=by rfl)(hm:cs.length=m:=by rfl)(hi:l5[n]? =some ⟨.load (some m) x,none,none,u⟩:=by rfl):Rz A l b l5 (⟨.load (some m) x,none,none,u⟩::ops) T H n rl p7 na Q:=by
 refine zp (rs:=[]) _ ?_ h2 (hi:=hi);simp_all [o6]
def soD {dr:Bool}{m id:Nat}{x y:y5}{u:List Nat}{v:c8}{cs old:List c8}{H2:p9}(hd:E1 (tX l5) n=true:=by rfl)(hy:rq T n rl y= .ptr id 0:=by rfl)(hx:Oq T n rl x v:=by exact ⟨rfl,rfl⟩)(hc:v.cells? =some cs:=by rfl)(hm:cs.length=m:=by rfl)(hl:l.may id=true:=by rfl)(hb:C5 cs=0:=by rfl)
  (ho:H[id]? =some (.cells old):=by rfl) (hq:old.length=m:=by rfl) (hH:H.set id (.cells cs)=H2:=by simp only [List.set_cons_zero,List.set_cons_succ]<;>rfl)
  (h2:Ry A l b dr l5 ops T H2 (n+1) (.any::rl) (.obj id::p7) Q):Ry A l b dr l5 (⟨.store m y x,none,none,u⟩::ops) T H n rl p7 Q :=
 Cj hd hy hx hc hm hl (by omega) (by simp_all [wr,splice,l6]) h2
end S
end
section
variable {A:Prog} {l:H7} {b:Nat}
variable {dr:Bool} {l5 ops:List o9} {T:List c8} {H:p9} {n:Nat} {rl:List c8} {p7:List Touch} {Q:List c8->p9->List c8->Prop}
namespace S
def mk {u:List Nat}{id:Nat}{H2:p9}(hi:H.length=id:=by simp only [List.length_cons,List.length_nil,Nat.reduceAdd]<;>rfl)(hH:H++[.map []]=H2:=by simp only [List.cons_append,List.nil_append]<;>rfl)
  (h2:Ry A l b false l5 ops T H2 (n+1) (.map id::rl) p7 Q):Ry A l b false l5 (⟨.makeMap,none,none,u⟩::ops) T H n rl p7 Q:=fun hn=>by
 refine Rx.stepT (N1:=0) (rs:=[]) rfl (fun n _=> ?_) (h2.to hn);simp_all [z6,z8,E2,x9.D9,F3,M4,newId,put,y4,G5]
def bso {sz len:Nat}{zero:List c8}{parts:List (Nat×Nat×y5)}{u:List Nat}{id:Nat}{H2:p9}(cs:List c8)(hr:cg zero (parts.map fun p=>(p.1,p.2.1,rq T n rl p.2.2))=some cs)(h0:0<sz/\cs.length=len * sz)(hi:H.length=id:=by simp only [List.length_cons,List.length_nil,Nat.reduceAdd]<;>rfl)(hH:H++[.cells cs]=H2:=by simp only [List.cons_append,List.nil_append]<;>rfl)
  (h2:Ry A l b false l5 ops T H2 (n+1) (.B4 id sz 0 len::rl) p7 Q):Ry A l b false l5 (⟨.F5 sz len zero parts true,none,none,u⟩::ops) T H n rl p7 Q:=fun hn=>by
 refine Rx.stepT (N1:=0) (rs:=[]) rfl (fun k _=> ?_) (h2.to hn);have hr' :cg zero (parts.map fun p=>(p.1,p.2.1,A2.J2 T (rl.reverse++ .any::c9 ops.length .any) p.2.2))=some cs:=by
  rw [show A2.J2 T (rl.reverse++ .any::c9 ops.length .any)=rq T n rl from funext fun x=>Y8 hn _ x];exact hr
 simp_all [z6,z8,E2,x9.D9,if_true,F3,and_self,M4,newId,Option.getD_none,put,M1,y4,G5]
def lrT {x:y5}{u:List Nat}{id sz lo len s:Nat}{T2:List c8}(hx:rq T n rl x= .B4 id sz lo len:=by rfl)(hs:T[s]?.isSome=true:=by rfl)(hT:T.set s (.d (.int .i64 (len:Int)))=T2:=by simp only [List.set_cons_zero,List.set_cons_succ]<;>rfl)
  (h2:Ry A l b dr l5 ops T2 H (n+1) (.d (.int .i64 (len:Int))::rl) (.slot s::p7) Q):Ry A l b dr l5 (⟨.len x,some s,none,u⟩::ops) T H n rl p7 Q :=
 Ry.BL (v:= .d (.int .i64 (len:Int))) (rs:=[]) rfl (by grind [o6,i64]) rfl rfl hs (by simp_all)
def ixs {x y:y5}{u:List Nat}{id sz lo len i:Nat}{k:IntKind}(hi:i<len)(h2:Ry A l b dr l5 ops T H (n+1) (.ptr id (lo+i * sz)::rl) p7 Q)(hx:rq T n rl x= .B4 id sz lo len:=by rfl)(hy:rq T n rl y= .d (.int k ((i:Nat):Int)):=by rfl):Ry A l b dr l5 (⟨.N8 sz x y,none,none,u⟩::ops) T H n rl p7 Q :=
 Ry.pure (rs:=[]) rfl (by
  simp_all [o6]) h2
def lqV {x:y5}{u:List Nat}{id o m:Nat}{vs:List c8}(hr:rd H id o m=some vs)(hv:vs.map c8.J3=vs)(h2:Ry A l b dr l5 ops T H (n+1) (.agg vs::rl) p7 Q)(hx:rq T n rl x= .ptr id o:=by rfl):Ry A l b dr l5 (⟨.load (some m) x,none,none,u⟩::ops) T H n rl p7 Q :=
 Ry.pure (rs:=[id]) rfl (by simp_all [o6]) h2
def soB {m id:Nat}{x y:y5}{u:List Nat}{v:c8}{cs old:List c8}{H2:p9}(hb:C5 cs<=id+1)(hy:rq T n rl y= .ptr id 0:=by rfl)(hx:Oq T n rl x v:=by exact ⟨rfl,rfl⟩)(hc:v.cells? =some cs:=by rfl)(hm:cs.length=m:=by rfl)(hl:l.may id=true:=by rfl)
  (ho:H[id]? =some (.cells old):=by rfl) (hq:old.length=m:=by rfl) (hH:H.set id (.cells cs)=H2:=by simp only [List.set_cons_zero,List.set_cons_succ]<;>rfl)
  (h2:Ry A l b false l5 ops T H2 (n+1) (.any::rl) (.obj id::p7) Q):Ry A l b false l5 (⟨.store m y x,none,none,u⟩::ops) T H n rl p7 Q :=
 rF hy hx hc hm hl hb (by simp_all [wr,splice,l6]) h2
end S
def V8 {mask:List Bool}{strict m:Nat}{T:List c8}{H:p9}(h1:C5 (X1 mask T)<=m)(h2:Z9 ((H.take m).drop strict)<=m):clean mask strict m ⟨T,H⟩=⟨X1 mask T,H.take m⟩:=by
 grind [clean]
end
section
variable {A:Prog} {l:H7} {b:Nat}
variable {l5 ops:List o9} {T:List c8} {H:p9} {n:Nat} {rl:List c8} {p7:List Touch} {Q:List c8->p9->List c8->Prop}
namespace S
def cp {f:FuncId}{xs:List y5}{u:List Nat}{v:c8}{args:List c8}{H1:p9}(hc:Pm A f args H l v H1)(hle:H.length<=H1.length)(h2:Ry A l b false l5 ops T H1 (n+1) (v::rl) (.below H1.length::p7) Q)(ha:xs.map (rq T n rl)=args:=by rfl)(lD:A.prom f=true:=by rfl) :
  Ry A l b false l5 (⟨.call f xs,none,none,u⟩::ops) T H n rl p7 Q:=fun hn=>by
 obtain ⟨M,hc⟩:=hc;refine Rx.stepT (N1:=M) (rs:=[]) rfl (fun k hk=> ?_) (h2.to hn);have aR6 :(N9 A k l b).prom f=true:=lD;have ux :(N9 A k l b).cf f args H (N9 A k l b).lim=some (v,H1):=hc k hk;have h3:D0 (N9 A k l b) rl.reverse.length f args ⟨T,H,rl.reverse++ .any::c9 ops.length .any,p7⟩=some (put ⟨T,H1,rl.reverse++ .any::c9 ops.length .any,.below H1.length::p7⟩ rl.reverse.length v):=by
  simp only [D0,aR6,if_true,ux,hle]
 simp only [z6,z8,E2,x9.D9,if_true,F3,lJ hn,ha,h3,y4,G5,put,M1]
end S
end
theorem Ew (id:Nat):∀ l:List c8,I6 id l=l.map (c8.kill id)
 |[]=>rfl
 |v::l=>by simp [I6,Ew id l]
def TC {id m:Nat}(rl:List c8):I6 id (rl.reverse++ .any::c9 m .any)=(I6 id rl).reverse++ .any::c9 m .any:=by
 simp [Ew,c8.kill]
theorem Pm.fP {A:Prog}{f:FuncId}{args:List c8}{H H1:p9}{l:H7}{v:c8}{p:List c8->p9->H7->Option (c8×p9)}(hp:A.fP f=some p)(h:p args H l=some (v,H1)):Pm A f args H l v H1 :=
 ⟨1,fun n hn=>by
  obtain ⟨n,rfl⟩:∃ j,n=j+1:=⟨n - 1,by omega⟩;simp_all [call]⟩
section
variable {A:Prog} {l:H7} {b:Nat}
variable {dr:Bool} {l5 ops:List o9} {T:List c8} {H:p9} {n:Nat} {rl:List c8} {p7:List Touch} {Q:List c8->p9->List c8->Prop}
def S.MK {s:Nat}{w v:c8}{u:List Nat}(hw:w.J3=v)(h2:Ry A l b dr l5 ops T H (n+1) (v::rl) p7 Q)(hx:T[s]? =some w:=by rfl):Ry A l b dr l5 (⟨.Q5 (.slot s),none,none,u⟩::ops) T H n rl p7 Q:=fun hn=>by
 refine Rx.step (N1:=0) (rs:=[]) rfl rfl (fun q _=> ?_) (fun rs=>by simp [K0]) (h2.to hn);simp_all [A2.J2,c9,z6,z8,E2,x9.D9,j4,if_false,A2.D8,put,M1,y4,G5]
end
section
variable {A:Prog} {l:H7} {b:Nat}
variable {l5 ops:List o9} {T:List c8} {H:p9} {n:Nat} {rl:List c8} {p7:List Touch} {Q:List c8->p9->List c8->Prop}
namespace S
def mn {dr:Bool}{s:Nat}{T2:List c8}{u:List Nat}(hs:T[s]?.isSome=true:=by rfl)(hT:T.set s .O2=T2:=by simp only [List.set_cons_zero,List.set_cons_succ]<;>rfl)(h2:Ry A l b dr l5 ops T2 H (n+1) (.O2::rl) (.slot s::p7) Q) :
  Ry A l b dr l5 (⟨.Q5 (.const .O2),some s,none,u⟩::ops) T H n rl p7 Q:=fun hn=>by
 have hs' :s<T.length:=by
  simp_all
 refine Rx.step (N1:=0) (rs:=[]) rfl rfl (fun n _=> ?_) (eV s p7) (h2.to hn);simp_all [z6,z8,E2,x9.D9,j4,if_false,A2.D8,put,M1,y4,G5,if_true]
def apo {x y:y5}{u:List Nat}{sz bytes id len m k2:Nat}{old cs T2 rl2:List c8}{H2:p9}(hr:roomFor (len+m) bytes=true)(hc:O7 H sz (rq T n rl y)=some (m,cs))(hol:len * sz=old.length)(hone:cs.all c8.one=true)(hbc:C5 cs=0)
  (hx:rq T n rl x= .B4 id sz 0 len:=by rfl) (hid:E1 l.base id=true:=by rfl) (hbi:E1 b id=true:=by rfl) (hl:l.may id=true:=by rfl) (ho:H[id]? =some (.cells old):=by rfl) (hsz:E1 1 sz=true:=by rfl)
  (hT:I6 id T=T2:=by rfl) (hL:I6 id rl=rl2:=by rfl) (hH:(H.take l.base++(H.drop l.base).map (A1.kill id)).set id (.cells (I6 id old++cs))=H2:=by rfl)
  (hk2:len+m=k2:=by rfl) (h2:Ry A l b false l5 ops T2 H2 (n+1) (.B4 id sz 0 k2::rl2) (.obj id::p7) Q):Ry A l b false l5 (⟨.append sz bytes true x y,none,none,u⟩::ops) T H n rl p7 Q:=fun hn=>by
 subst hT hH hL hk2;have hid:=j5 hid;have hbi:=j5 hbi;have hsz:0<sz:=j5 hsz;have hn2:(I6 id rl).length=n:=by grind [S1]
 refine Rx.stepT (N1:=0) (rs:=[]) (by simp_all) (fun k _=> ?_) (h2.to hn2);have hl' :(N9 A k l b).lim.may id=true:=hl;have he:(N9 A k l b).lim.base<=id/\(N9 A k l b).entry<=id/\(N9 A k l b).lim.may id=true:=⟨hid,hbi,hl'⟩;have hk:C5 cs<=id:=by omega
 have h5:U0 (N9 A k l b) rl.reverse.length sz bytes ⟨T,H,rl.reverse++ .any::c9 ops.length .any,p7⟩ id 0 len (rq T n rl y)=some (put ⟨I6 id T,(H.take l.base++(H.drop l.base).map (A1.kill id)).set id (.cells (I6 id old++cs)),(I6 id rl).reverse++ .any::c9 ops.length .any,.obj id::p7⟩ rl.reverse.length (.B4 id sz 0 (len+m))):=by
  simp [U0,he,ho,hc,hol,hr,hk,hone,hsz,TC];rfl
 simp_all [I6,S1,z6,z8,E2,x9.D9,if_true,F3,Y8,y4,G5,put,M1]
end S
end
end Go.A2
namespace Go.A2.S
def gx {Γ Δ:Prop}(k:Δ)(h:PLift Δ->Γ:=by intro K;(first|refine Ex.seq ?_|refine Ex.region (Rn.text ?_)|refine Ex.region (Rn.draw ?_)|refine Ex.block ?_|refine nl ?_|refine Ex.skip ?_|refine Ex.exit ?_|refine Ex.ret ?_|refine wa ?_|refine sk ?_|refine st ?_|refine mv ?_|refine mt (h2:= ?_)|refine mo ?_|refine lp ?_|refine lpo ?_|refine fp ?_|refine ld ?_|refine lf ?_|refine ln ?_|refine li ?_|refine lo ?_|refine gi ?_|refine go ?_|refine ei ?_|refine ni ?_|refine es ?_|refine ns ?_|refine ad ?_|refine sb ?_|refine ng ?_|refine lt ?_|refine le ?_|refine lq ?_|refine lq3 ?_|refine lq2 ?_|refine o12 ?_|refine et ?_|refine ix (h2:= ?_)|refine pt ?_|refine pk ?_|refine mw (h2:= ?_)|refine ow (h2:= ?_)|refine bx (h2:= ?_)|refine bxn (h2:= ?_)|refine nk ?_|refine nki ?_|refine ac (h2:= ?_)|refine so (h2:= ?_)|refine sp1 (h2:= ?_)|refine o1 ?_|refine o1z ?_|refine ap1 (h2:= ?_)|refine e0 ?_|refine apN (h2:= ?_)|refine al1 (h2:= ?_)|refine alN (h2:= ?_)|refine alE (h2:= ?_)|refine xs (h2:= ?_)|refine xsN (h2:= ?_)|refine ixN (h2:= ?_)|refine ixZ (h2:= ?_)|refine ls ?_|refine lnT (h2:= ?_)|refine lsT (h2:= ?_)|refine ldT (h2:= ?_)|refine lpT (h2:= ?_)|refine qs ?_|refine qb ?_|refine mm ?_|refine ip ?_|refine ipN ?_|refine ipM ?_|refine bA2 ?_|refine df ?_|refine mf ?_|refine Dv ?_|refine svh (h2:= ?_)|refine svl (h2:= ?_)|refine svb (h2:= ?_)|fail);exact K.down):Γ:=h ⟨k⟩
def gr {Γ Δ:Prop}(k:Δ)(h:PLift Δ->Γ:=by intro K;(repeat' (first|refine gx ?_|fail));exact K.down):Γ:=h ⟨k⟩
def cc {p:Prop}(h:p:=by first|(simp [*,j3];done)|(simp_all [j3];done)|(simp_all [j3,u0,s6,o8,E5];done)|(simp_all [j3,u0,s6,o8,E5]<;>omega)):p:=h
section
variable {A:Prog} {l:H7} {b:Nat}
def tB {ops:List o9}{draw:Bool}{c:y5}{d e:q6}{T:List c8}{H:p9}{Q:G7->St->Prop}{Δ:Prop}(t:Bool)(k:Δ)(h2:t=true->Ex A l b d ⟨T,H⟩ Q)(h3:t=false->Ex A l b e ⟨T,H⟩ Q)
  (h:PLift Δ->Rn A l b ops draw T H fun T' H' L=>T' =T/\H' =H/\∃ t',J2 T' L c= .d (.bool t')/\t' =t:=by intro K;first|exact Rn.text K.down|exact Rn.draw K.down):Ex A l b (.test ops draw c d e) ⟨T,H⟩ Q:=Ex.Yo t (h ⟨k⟩) h2 h3
def tb {ops:List o9}{draw:Bool}{c:y5}{d e:q6}{T:List c8}{H:p9}{Q:G7->St->Prop}(t:Bool)(h2:t=true->Ex A l b d ⟨T,H⟩ Q)(h3:t=false->Ex A l b e ⟨T,H⟩ Q)
  (h:Rn A l b ops draw T H fun T' H' L=>T' =T/\H' =H/\∃ t',J2 T' L c= .d (.bool t')/\t' =t:=by (first|refine Rn.text ?_|refine Rn.draw ?_|fail);(repeat' (first|refine gx ?_|refine fk (h1:=fun hw=> ?_) (h2:=fun hw=> ?_)|refine U1 (h1:=fun hw=> ?_) (h2:=fun hw=> ?_)|refine ⟨rfl,rfl,_,rfl,?_⟩|refine ⟨rfl,rfl⟩|fail));all_goals exact cc) :
  Ex A l b (.test ops draw c d e) ⟨T,H⟩ Q:=Ex.Yo t h h2 h3
end
end Go.A2.S
namespace Go.A2
abbrev S8:=Int×Int
structure C4 where
 src:S8
 dst:S8
 dat:Bool
 deriving DecidableEq,Inhabited
def bd7 (S:List S8)(f:C4):List S8:=if f.src ∈ S/\f.dst ∉ S then S++[f.dst] else S
def pass:List S8->List C4->List S8
 |S,[]=>S
 |S,f::r=>pass (bd7 S f) r
def Dx (fs:List C4):Nat->List S8->List S8
 |0,S=>S
 |n+1,S=>if (pass S fs).length=S.length then S else Dx fs n (pass S fs)
def C4.rev (f:C4):C4:=⟨f.dst,f.src,f.dat⟩
def kZ (a b:Int):Int:=if a<b then -1 else if b<a then 1 else 0
def wk (a b:S8):Int:=if kZ a.1 b.1≠0 then kZ a.1 b.1 else kZ a.2 b.2
def ZF (a b:Bool):Int:=if a==b then 0 else if a then -1 else 1
def IT (a b:C4):Int:=if wk a.src b.src≠0 then wk a.src b.src else if wk a.dst b.dst≠0 then wk a.dst b.dst else ZF a.dat b.dat
def ND {α:Type}(cf:α->α->Int)(x:α):List α->List α
 |[]=>[x]
 |y::l=>if cf y x<0 then y::ND cf x l else x::y::l
def EW {α:Type}(cf:α->α->Int):List α->List α
 |[]=>[]
 |x::l=>ND cf x (EW cf l)
theorem wR {α:Type}(cf:α->α->Int)(x:α):∀ l,(ND cf x l).Perm (x::l)
 |[]=>List.Perm.refl _
 |y::l=>by
  simp [ND];split
  .exact ((wR cf x l).cons y).trans (List.Perm.swap x y l)
  rfl
theorem oh {α:Type}(cf:α->α->Int):∀ l,(EW cf l).Perm l
 |[]=>List.Perm.refl _
 |x::l=>(wR cf x _).trans ((oh cf l).cons x)
theorem Pz {α:Type}{cf:α->α->Int}(htr:∀ a b c,¬ cf b a<0->¬ cf c b<0->¬ cf c a<0)(hto:∀ a b,cf b a<0->¬ cf a b<0)(x:α):∀ l:List α,l.Pairwise (fun a b=>¬ cf b a<0)->(ND cf x l).Pairwise fun a b=>¬ cf b a<0
 |[],_=>by simp [ND]
 |y::l,h=>by
  simp only [ND];rw [List.pairwise_cons] at h;split
  .refine List.pairwise_cons.2 ⟨fun z hz=> ?_,Pz htr hto x l h.2⟩
   grind [wR]
  grind [List.pairwise_cons]
theorem uR {α:Type}{cf:α->α->Int}(htr:∀ a b c,¬ cf b a<0->¬ cf c b<0->¬ cf c a<0)(hto:∀ a b,cf b a<0->¬ cf a b<0):∀ l:List α,(EW cf l).Pairwise fun a b=>¬ cf b a<0
 |[]=>List.Pairwise.nil
 |x::l=>Pz htr hto x _ (uR htr hto l)
def yD {α:Type}{cf:α->α->Int}(htr:∀ a b c,¬ cf b a<0->¬ cf c b<0->¬ cf c a<0)(hto:∀ a b,cf b a<0->¬ cf a b<0)(han:∀ a b,¬ cf b a<0->¬ cf a b<0->a=b)(l:List α):(l.mergeSort fun x y=> !decide (cf y x<0))=EW cf l:=by
 refine List.Perm.eq_of_pairwise (le:=fun a b=>¬ cf b a<0) (fun a b _ _ h1 h2=>han a b h1 h2) ?_ (uR htr hto l) ((List.mergeSort_perm l _).trans (oh cf l).symm);have:=List.pairwise_mergeSort (le:=fun x y:α=> !decide (cf y x<0)) (fun a b c h1 h2=>by grind) (fun a b=>by
  grind) l
 simp_all
def sortP (l:List S8):List S8:=EW wk l
def aX (l:List C4):List C4:=EW IT l
theorem gM (l:List C4):(aX l).Perm l:=oh _ _
theorem rC (l:List C4):(aX l).length=l.length:=(gM l).length_eq
def C4.enc (f:C4):List Data:=[num f.src.1,num f.src.2,num f.dst.1,num f.dst.2,.bool f.dat]
def pF:List Data->Option (List C4)
 |[]=>some []
 | .int .i64 a:: .int .i64 b:: .int .i64 c:: .int .i64 d:: .bool t::r=>match pF r with
  |some l=>some (⟨(a,b),(c,d),t⟩::l)
  |none=>none
 |_=>none
def xe (g:FuncId):List c8->p9->H7->Option (c8×p9)
 |[.B4 id 5 lo len,.func g' [] []],H,l=>if g' =g/\l.may id=true/\len<=1000000 then match rd H id lo (len * 5) with
   |some vs=>match O0 vs with
    |some cs=>match pF cs with
     |some fs=>match wr H id lo (((aX fs).flatMap C4.enc).map .d) with
      |some H1=>some (.tuple [],H1)
      |none=>none
     |none=>none
    |none=>none
   |none=>none
  else none
 |[.d (.slice 0 _),.func g' [] []],H,_=>if g' =g then some (.tuple [],H) else none
 |_,_,_=>none
def Hl:List c8->p9->H7->Option (c8×p9)
 |[.map id],H,_=>match H[id]? with
  |some (.map es)=>match Bm es with
   |some ks=>if ks.length<=1000000 then some (.own 2 ks.length (ic (sortP ks)),H) else none
   |none=>none
  |_=>none
 |_,_,_=>none
def aD7:List c8->p9->H7->Option (c8×p9)
 |[x],H,_=>match rowOf 5 H x with
  |some (n,cs)=>match pF cs with
   |some fs=>if n=fs.length/\n<=1000000 then some (.own 5 fs.length ((fs.map C4.rev).reverse.flatMap C4.enc),H) else none
   |none=>none
  |none=>none
 |_,_,_=>none
def wZ:List c8->p9->H7->Option (c8×p9)
 |[.d (.slice 0 _)],H,_=>some (.d (.slice 0 []),H)
 |as,H,l=>mP as H l
def ag5:List c8->Bool
 |[]=>true
 | .d _::r=>ag5 r
 |_::_=>false
theorem wm (k:Nat):∀ l:List c8,ag5 l=true->I6 k l=l
 |[],_=>rfl
 | .d x::l,h=>by rw [I6,wm k l h];simp [c8.kill]
 | .ptr .. ::_,h=>by cases h
 | .B4 .. ::_,h=>by cases h
 | .T4 .. ::_,h=>by cases h
 | .map .. ::_,h=>by cases h
 | .agg .. ::_,h=>by cases h
 | .tuple .. ::_,h=>by cases h
 | .own .. ::_,h=>by cases h
 | .func .. ::_,h=>by cases h
 | .O2::_,h=>by cases h
 | .any::_,h=>by cases h
def pCl:List c8->p9->H7->Option (c8×p9)
 |[.d (.slice 0 [])],H,_=>some (.d (.slice 0 []),H)
 |[.d (.slice (n+1) cs)],[.cells a,.cells b],⟨0,0,0,0⟩=>if cs.length=(n+1) * 5/\n<1000000/\ag5 a=true/\ag5 b=true then some (.B4 2 5 0 (n+1),[.cells a,.cells b,.cells (cs.map .d)]) else none
 |_,_,_=>none
def oP (op:Int):Int :=
 if s9 op 1||s9 op 2 then 0 else if s9 op 3||s9 op 9||s9 op 13||s9 op 16 then 1 else if s9 op 18 then 3 else if bV 1 op&&bV op 18 then 2 else -1
def iW (k n:Int)(s:K4):Bool :=
 if s9 k 0 then s9 n 0&&O1 s [] else if s9 k 1 then bV (-4294967296) n&&bV n 4294967296&&O1 s [] else if s9 k 2 then s9 n 0&&bV s.length 32 else false
def zeroV (t:X0):Bool:=s9 t.kind 0&&s9 t.int 0&&O1 t.text []
def dY (t:X0):Bool :=
 if s9 t.op 1 then iW t.kind t.int t.text&& !s9 t.kind 0&&s9 t.col 0 else if s9 t.op 2 then zeroV t&&bV 0 t.col else zeroV t&&s9 t.col 0
def zW (t:X0):Bool:= !E4 (oP t.op) 0&&dY t
def qM (op:Int):oP op<=3:=by
 grind [oP]
inductive bg where
 |node (t:X0) (l:List bg)
mutual
def bg.flat:bg->List X0
 | .node t l=>t::N7 l
def N7:List bg->List X0
 |[]=>[]
 |a::l=>a.flat++N7 l
end
mutual
def bg.dep:bg->Nat
 | .node _ l=>nJ l+1
def nJ:List bg->Nat
 |[]=>0
 |a::l=>max a.dep (nJ l)
end
mutual
def bg.wf:bg->Prop
 | .node t l=>zW t=true/\(oP t.op).toNat=l.length/\ZQ l
def ZQ:List bg->Prop
 |[]=>True
 |a::l=>a.wf/\ZQ l
end
def fJ (f:List X0->Option (bg×List X0)):Nat->List X0->Option (List bg×List X0)
 |0,r=>some ([],r)
 |k+1,r=>match f r with
  |none=>none
  |some (a,r')=>match fJ f k r' with
   |none=>none
   |some (l,r2)=>some (a::l,r2)
def O6:Nat->List X0->Option (bg×List X0)
 |0,_=>none
 |_+1,[]=>none
 |d+1,t::r=>if zW t then match fJ (O6 d) (oP t.op).toNat r with
   |none=>none
   |some (l,r')=>some (.node t l,r')
  else none
theorem Bn {f:List X0->Option (bg×List X0)}{d:Nat}(hf:∀ r a r',f r=some (a,r')->r=a.flat++r' /\a.wf/\a.dep<=d):∀ (k:Nat) (r:List X0) (l:List bg) (r' :List X0),fJ f k r=some (l,r')->r=N7 l++r' /\ZQ l/\nJ l<=d/\l.length=k
 |0,r,l,r',h=>by
  simp_all [fJ,Option.some.injEq,Prod.mk.injEq,N7,ZQ,nJ]
 |k+1,r,l,r',h=>by
  simp [fJ] at h;split at h
  .cases h
  .rename_i a r1 h1
   split at h
   .cases h
   .rename_i l2 r2 h2
    obtain ⟨rfl,rfl⟩:=h;obtain ⟨e1,e2,e3⟩:=hf _ _ _ h1;obtain ⟨g1,g2,g3,g4⟩:=Bn hf k _ _ _ h2;refine ⟨?_,⟨e2,g2⟩,?_,by simp [g4]⟩
    all_goals grind [N7,nJ]
theorem U3:∀ (d:Nat) (r:List X0) (a:bg) (r' :List X0),O6 d r=some (a,r')->r=a.flat++r' /\a.wf/\a.dep<=d
 |0,r,a,r',h=>by simp [O6] at h
 |d+1,[],a,r',h=>by simp [O6] at h
 |d+1,t::r,a,r',h=>by
  simp only [O6] at h;split at h
  .rename_i ht
   split at h
   .cases h
   .rename_i l r1 h1
    obtain ⟨rfl,rfl⟩:=h;obtain ⟨g1,g2,g3,g4⟩:=Bn (U3 d) _ _ _ _ h1;refine ⟨?_,⟨ht,g4.symm,g2⟩,?_⟩
    all_goals simp_all [bg.flat,bg.dep]
  .cases h
mutual
theorem Y7:∀ (a:bg) (d:Nat) (r:List X0),a.wf->a.dep<=d->O6 d (a.flat++r)=some (a,r)
 | .node t l,0,r,_,h=>by simp [bg.dep] at h
 | .node t l,d+1,r,hw,h=>by
  simp [bg.dep] at h;obtain ⟨h1,h2,h3⟩:=hw;have h4:=rV l d r h3 (by omega);simp_all [bg.flat,List.cons_append,O6,if_true]
theorem rV:∀ (l:List bg) (d:Nat) (r:List X0),ZQ l->nJ l<=d->fJ (O6 d) l.length (N7 l++r)=some (l,r)
 |[],d,r,_,_=>by rfl
 |a::l,d,r,hw,h=>by
  simp [nJ] at h;have h1:=Y7 a d (N7 l++r) hw.1 (by omega);have h2:=rV l d r hw.2 (by omega);simp_all [N7,D2,List.length_cons,fJ]
end
mutual
theorem pn:∀ a:bg,a.dep<=a.flat.length
 | .node t l=>by
  have:=Eh l;simp_all [bg.dep,bg.flat,List.length_cons]
theorem Eh:∀ l:List bg,nJ l<=(N7 l).length
 |[]=>by simp [nJ]
 |a::l=>by
  have h1:=pn a;have h2:=Eh l
  grind [nJ,N7,List.length_append]
end
def jN (a:bg):0<a.flat.length:=by
 cases a;simp [bg.flat]
theorem wM:∀ l:List bg,l.length<=(N7 l).length
 |[]=>by simp
 |a::l=>by
  have:=jN a;have:=wM l
  grind [N7,List.length_append,List.length_cons]
def Hp {d d' :Nat}{r:List X0}(h:r.length<=d)(h' :r.length<=d'):O6 d r=O6 d' r:=by
 cases h1:O6 d r with
 |some p =>
  obtain ⟨a,r'⟩:=p;obtain ⟨e,w,_⟩:=U3 d r a r' h1
  grind [pn,Y7]
 |none =>
  cases h2:O6 d' r with
  |none=>rfl
  |some p =>
   obtain ⟨a,r'⟩:=p;obtain ⟨e,w,_⟩:=U3 d' r a r' h2
   grind [pn,Y7]
def iV (op:Int)(t:List Int):Int :=
 if s9 op 3||s9 op 13 then (if s9 (nth t 0) 1 then 1 else 0)
 else if s9 op 8 then (if s9 (nth t 0) 2&&s9 (nth t 1) 2 then 2 else 0)
 else if s9 op 9 then (if s9 (nth t 0) 2 then 1 else 0)
 else if s9 op 10 then (if s9 (nth t 0) 2&&s9 (nth t 1) 1 then 2 else 0)
 else if s9 op 11||s9 op 12 then (if s9 (nth t 0) (nth t 1) then 1 else 0)
 else if s9 op 16 then 1
 else if s9 op 17 then (if s9 (nth t 0) (nth t 1) then nth t 0 else 0)
 else if s9 op 18 then (if s9 (nth t 0) 1&&s9 (nth t 1) (nth t 2) then nth t 1 else 0)
 else (if s9 (nth t 0) 1&&s9 (nth t 1) 1 then 1 else 0)
def Cr (ty:List Int)(t:X0)(ts:List Int):Int×Int :=
 if s9 t.op 1 then (t.kind,0) else if s9 t.op 2 then (if bV ty.length t.col then (0,3) else (nth ty t.col.toNat,0))
 else if s9 (iV t.op ts) 0 then (0,5) else (iV t.op ts,0)
mutual
def bg.typ (ty:List Int):bg->Int×Int
 | .node t l=>if s9 (iH ty l).2 0 then Cr ty t (iH ty l).1 else (0,(iH ty l).2)
def iH (ty:List Int):List bg->List Int×Int
 |[]=>([],0)
 |a::l=>if s9 (a.typ ty).2 0 then ((a.typ ty).1::(iH ty l).1,(iH ty l).2) else ([],(a.typ ty).2)
end
def dx (ty:List Int):Bool:=ty.all fun t=>s9 t 1||s9 t 2
def gR (e:List X0):Option bg:=if bV 1 e.length&&bV e.length 64 then match O6 16 e with
  |some (a,[])=>some a
  |_=>none
 else none
def M5 (e:List X0)(ty:List Int):Int×Int:=match gR e with
 |none=>(0,1)
 |some a=>if dx ty then a.typ ty else (0,1)
def zV {α:Type} [Inhabited α] (i:Nat):nth ([]:List α) i=default:=by simp [nth]
def Hv (ty:List Int)(t:X0)(a b c:Int):Int×Bool :=
 if s9 t.op 1 then (t.kind,true) else if s9 t.op 2 then (nth ty t.col.toNat,true)
 else if s9 t.op 3||s9 t.op 13 then (1,s9 a 1)
 else if s9 t.op 8 then (2,s9 a 2&&s9 b 2)
 else if s9 t.op 9 then (1,s9 a 2)
 else if s9 t.op 10 then (2,s9 a 2&&s9 b 1)
 else if s9 t.op 11||s9 t.op 12 then (1,s9 a b)
 else if s9 t.op 16 then (1,true)
 else if s9 t.op 17 then (a,s9 a b)
 else if s9 t.op 18 then (b,s9 a 1&&s9 b c)
 else (1,s9 a 1&&s9 b 1)
def good (x:Int):Prop:=x=1\/x=2
def Ki {l:List Int}(h:∀ x,x ∈ l->good x){i:Nat}(hn:nth l i≠0):good (nth l i):=by
 simp_all [nth]<;>grind
theorem Nv {ty:List Int}(h:dx ty=true):∀ x,x ∈ ty->good x:=by
 intro x hx;have:=Q2.1 h x hx;simp_all [o8,good]
def Lo {op:Int}{ts:List Int}(h:∀ x,x ∈ ts->good x)(hn:iV op ts≠0):good (iV op ts):=by
 unfold iV at hn ⊢;split
 .rename_i h1;rw [if_pos h1] at hn;split at hn<;>simp_all [good]
 rename_i h1;rw [if_neg h1] at hn;split
 .rename_i h1;rw [if_pos h1] at hn;split at hn<;>simp_all [good]
 rename_i h1;rw [if_neg h1] at hn;split
 .rename_i h1;rw [if_pos h1] at hn;split at hn<;>simp_all [good]
 rename_i h1;rw [if_neg h1] at hn;split
 .rename_i h1;rw [if_pos h1] at hn;split at hn<;>simp_all [good]
 rename_i h1;rw [if_neg h1] at hn;split
 .rename_i h1;rw [if_pos h1] at hn;split at hn<;>simp_all [good]
 rename_i h1;rw [if_neg h1] at hn;split
 .exact Or.inl rfl
 rename_i h1;rw [if_neg h1] at hn;split
 .rename_i h1;rw [if_pos h1] at hn
  split at hn
  .rename_i h2;rw [if_pos h2];exact Ki h hn
  .exact absurd rfl hn
 rename_i h1;rw [if_neg h1] at hn;split
 .rename_i h1;rw [if_pos h1] at hn
  split at hn
  .rename_i h2;rw [if_pos h2];exact Ki h hn
  .exact absurd rfl hn
 rename_i h1;rw [if_neg h1] at hn;split at hn<;>simp_all [good]
mutual
theorem Ln {ty:List Int}(tu:dx ty=true):∀ a:bg,a.wf->s9 (a.typ ty).2 0=true->good (a.typ ty).1
 | .node t l,hw,h=>by
  obtain ⟨hok,har,ZK⟩:=hw;simp [bg.typ] at h ⊢;split
  .have hl:=xC tu l ZK
   simp [Cr] at h ⊢;split
   .rename_i h2
    simp [zW,dY,h2,if_true,Bool.and_eq_true] at hok;have h3:=hok.2.1.1;unfold iW at h3
    grind [good,fH]
   .split
    .split
     .simp_all [if_pos,o8]
     .rename_i h4
      have h5:=Bp (Bool.not_eq_true _ ▸ h4);have h6:0<=t.col:=by
       simp_all [zW,dY,if_true,j4,if_false,Bool.and_eq_true,rW]
      grind [Nv,S9]
    .split
     all_goals simp_all [if_pos,o8,Lo]
  simp_all
theorem xC {ty:List Int}(tu:dx ty=true):∀ l:List bg,ZQ l->∀ x,x ∈ (iH ty l).1->good x
 |[],_,x,h=>by simp [iH] at h
 |a::l,hw,x,h=>by
  simp [iH] at h;split at h
  .rename_i h1
   rcases B8.1 h with rfl|h
   .exact Ln tu a hw.1 h1
   .exact xC tu l hw.2 x h
  .cases h
end
def ak4 {ty:List Int}{t:X0}{ts:List Int}(hts:∀ x,x ∈ ts->good x)(hc:s9 t.op 2=true->bV ty.length t.col=false)
  (h17:s9 t.op 17=true->0<ts.length) (h18:s9 t.op 18=true->1<ts.length) :
  Cr ty t ts=if (Hv ty t (nth ts 0) (nth ts 1) (nth ts 2)).2 then ((Hv ty t (nth ts 0) (nth ts 1) (nth ts 2)).1,0) else (0,5):=by
 unfold Cr Hv;cases d1:s9 t.op 1 with
 |true=>rfl
 |false =>
 cases d2:s9 t.op 2 with
 |true=>simp_all
 |false =>
 have z1:s9 1 0=false:=by simp [o8]
 have z2:s9 2 0=false:=by simp [o8]
 have z0:s9 0 0=true:=by simp [o8]
 have sel:∀ (b:Bool) (x:Int),(b=true->s9 x 0=false)->(if s9 (if b=true then x else 0) 0=true then ((0:Int),(5:Int)) else (if b=true then x else 0,0))=if b=true then (x,0) else (0,5):=by
  simp_all
 have gz:∀ {i:Nat},i<ts.length->s9 (nth ts i) 0=false:=fun {i} hi=>by
  grind [S9,good,o8]
 unfold iV;cases c1:(s9 t.op 3||s9 t.op 13) with
 |true=>grind
 |false =>
 cases c2:s9 t.op 8 with
 |true=>grind
 |false =>
 cases c3:s9 t.op 9 with
 |true=>grind
 |false =>
 cases c4:s9 t.op 10 with
 |true=>grind
 |false =>
 cases c5:(s9 t.op 11||s9 t.op 12) with
 |true=>grind
 |false =>
 cases c6:s9 t.op 16 with
 |true=>simp [z1]
 |false =>
 grind
end Go.A2
namespace Go.A2.S
section
variable {A:Prog} {l:H7} {b:Nat} {dr:Bool}
variable {l5 ops:List o9} {T:List c8} {H:p9} {n:Nat} {rl:List c8} {p7:List Touch} {Q:List c8->p9->List c8->Prop}
def lqo {x:y5}{m id o:Nat}{cs:List c8}{u:List Nat}(h2:Ry A l b dr l5 ops T H (n+1) (.agg cs::rl) p7 Q)(hx:rq T n rl x= .ptr id o:=by rfl)(hr:rd H id o m=some cs:=by rfl)(hv:cs.map c8.J3=cs:=by rfl) :
  Ry A l b dr l5 (⟨.load (some m) x,none,none,u⟩::ops) T H n rl p7 Q:=Ry.pure (rs:=[id]) rfl (by simp_all [o6]) h2
end
end Go.A2.S
namespace Go.A2
section
variable {A:Prog} {l:H7} {b:Nat}
variable {l5 ops:List o9} {T:List c8} {H:p9} {n:Nat} {rl:List c8} {p7:List Touch} {na nb:Nat} {Q:List c8->p9->List c8->Prop}
namespace S
end S
end
section
variable {A:Prog} {l:H7} {b:Nat}
variable {l5 ops:List o9} {T:List c8} {H:p9} {n:Nat} {rl:List c8} {p7:List Touch} {na nb:Nat} {Q:List c8->p9->List c8->Prop}
namespace S
section
variable {dr:Bool}
def ixo {x y:y5}{u:List Nat}{sz id lo len:Nat}{k:IntKind}{e:Int}(h0:0<=e/\e<len)(h2:Ry A l b dr l5 ops T H (n+1) (.ptr id (lo+e.toNat * sz)::rl) p7 Q)(hx:rq T n rl x= .B4 id sz lo len:=by rfl)(hy:rq T n rl y= .d (.int k e):=by rfl) :
  Ry A l b dr l5 (⟨.N8 sz x y,none,none,u⟩::ops) T H n rl p7 Q:=Ry.pure (rs:=[]) rfl (by simp_all [o6,and_self,if_true]) h2
def lpx {x:y5}{id o:Nat}{v:c8}{u:List Nat}(hr:rd H id o 1=some [v])(hv:v.J3=v)(h2:Ry A l b dr l5 ops T H (n+1) (v::rl) p7 Q)(hx:rq T n rl x= .ptr id o:=by rfl) :
  Ry A l b dr l5 (⟨.load none x,none,none,u⟩::ops) T H n rl p7 Q:=Ry.pure (rs:=[id]) rfl (by simp_all [o6]) h2
def sox {id off:Nat}{x y:y5}{u:List Nat}{v:c8}{H2:p9}(hw:wr H id off [v]=some H2)(hd:E1 (tX l5) n=true:=by rfl)(hy:rq T n rl y= .ptr id off:=by rfl)(hx:Oq T n rl x v:=by exact ⟨rfl,rfl⟩)(hc:v.cells? =some [v]:=by rfl)(hl:l.may id=true:=by rfl)(hb:v.O5<=id+1:=by exact Nat.zero_le _)
  (h2:Ry A l b dr l5 ops T H2 (n+1) (.any::rl) (.obj id::p7) Q):Ry A l b dr l5 (⟨.store 1 y x,none,none,u⟩::ops) T H n rl p7 Q :=
 Cj hd hy hx hc rfl hl (by simp_all [C5]) hw h2
end
end S
def iv (n:Int):c8:= .d (num n)
end
section
variable {A:Prog} {l:H7} {b:Nat}
theorem Ex.fz {s:Nat}{st st' :St}{Q:G7->St->Prop}(h:nQ l b s st=some st')(h2:Q .normal st'):Ex A l b (.fz s) st Q:=⟨_,_,0,h2,fun n _=>by
 simp_all [nQ,N9,exec]⟩
def Pr {lim:H7}{s z n:Nat}{xs:List Data}{T:List c8}{H:p9}(hT:T[s]? =some (.own z n xs))(h0:n≠0)(hb:lim.base=0)(hs:lim.strict=0)(hf:xs.all Data.flat=true) :
  nQ lim 0 s ⟨T,H⟩=some ⟨(R9 T).set s (.B4 H.length z 0 n),H.map A1.forget++[.cells (xs.map .d)]⟩:=by
 simp_all [nQ,uw,Lh,if_false,and_self,if_true]
def Pp {T:List c8}(hT:T[1000]? =none:=by rfl):nQ an 0 1000 ⟨T,[]⟩=some ⟨T,[.dead]⟩:=by
 simp only [nQ,uw,hT,Lh,an,and_self,if_true,List.nil_append]
def VL {lim:H7}{s z:Nat}{xs:List Data}{T:List c8}{H:p9}(hT:T[s]? =some (.own z 0 xs)):nQ lim 0 s ⟨T,H⟩=some ⟨T,H⟩:=by
 simp_all [nQ,uw,Lh]
def ab6 {lim:H7}{s z n p:Nat}{xs:List Data}{T:List c8}{H:p9}(hT:T[s]? =some (.ptr p 0))(hH:H[p]? =some (.cells [.own z n xs]))(h0:n≠0)(hb:lim.base=0)(hs:lim.strict=0)(hf:xs.all Data.flat=true) :
  nQ lim 0 s ⟨T,H⟩=some ⟨R9 T,(H.map A1.forget).set p (.cells [.B4 H.length z 0 n])++[.cells (xs.map .d)]⟩:=by
 simp_all [nQ,uw,eS,Lh,yp,if_false,and_self,if_true,R9,c8.forget,List.set_cons_zero]
def VK {lim:H7}{s z p:Nat}{xs:List Data}{T:List c8}{H:p9}(hT:T[s]? =some (.ptr p 0))(hH:H[p]? =some (.cells [.own z 0 xs])):nQ lim 0 s ⟨T,H⟩=some ⟨T,H⟩:=by
 simp_all [nQ,uw,eS,Lh,yp,if_true]
def AZ {α:Type}{enc:α->List Data}(h:∀ a,(enc a).all Data.flat=true):∀ l:List α,(l.flatMap enc).all Data.flat=true
 |[]=>rfl
 |a::l=>by grind
end
namespace S
section
variable {A:Prog} {l:H7} {b:Nat} {dr:Bool} {l5 ops:List o9} {T:List c8} {H:p9} {n:Nat} {rl:List c8} {p7:List Touch} {Q:List c8->p9->List c8->Prop}
def aV5:∀ cs:List Data,(cs.map c8.d).all c8.one=true
 |[]=>rfl
 |c::cs=>by
  simp_all [L8,List.all_cons,c8.one,Bool.and_self]
def oN {α:Type}{enc:α->List Data}(a:α){sz:Nat}{zero:List c8}{x:y5}{u:List Nat}(h2:Ry A l b dr l5 ops T H (n+1) (.own sz 1 (enc a)::rl) p7 Q)(hx:rq T n rl x= .agg ((enc a).map .d):=by rfl)(hc:(enc a).length=sz:=by rfl)(hz:zero.length=sz:=by rfl)(h0:E1 1 sz=true:=by rfl) :
  Ry A l b dr l5 (⟨.F5 sz 1 zero [(0,sz,x)] false,none,none,u⟩::ops) T H n rl p7 Q:=by
 have h0' :=j5 h0;have h1:cg zero [(0,sz,c8.agg ((enc a).map .d))]=some ((enc a).map .d):=by
  simp only [cg,c8.cells?,aV5,splice,List.take_zero];simp_all
 refine Ry.pure (rs:=[]) rfl ?_ h2;simp [o6,L8,List.map_nil,hx,h1,cL,and_true]
 grind
def msv {s:Nat}{w:c8}{x:Data}{u:List Nat}(hw:w= .d x\/∃ z,w= .own z 0 []/\x= .slice 0 [])(h2:Ry A l b dr l5 ops T H (n+1) (.d x::rl) p7 Q)(hT:T[s]? =some w:=by rfl) :
  Ry A l b dr l5 (⟨.Q5 (.slot s),none,none,u⟩::ops) T H n rl p7 Q:=by
 rcases hw with rfl|⟨z,rfl,rfl⟩
 .exact mv h2 ⟨hT,rfl⟩
 grind [mo]
def IW {f:FuncId}{xs:List y5}{u:List Nat}{v:c8}{args:List c8}(hc:Pf A f args v)(h2:Ry A l b dr l5 ops T H (n+1) (v::rl) (.below 0::p7) Q)(ha:xs.map (rq T n rl)=args:=by rfl)(hb:C5 args=0:=by rfl)(lD:A.prom f=false:=by rfl)(hm:A.mode f=0:=by rfl)
  (qU:(⟨l.VD,l.Vu,0,F7 H l.strict 0⟩:H7)=an:=by rfl):Ry A l b dr l5 (⟨.call f xs,none,none,u⟩::ops) T H n rl p7 Q:=fun hn=>by
 obtain ⟨M,hc⟩:=hc;have h3:∀ k,M<=k->D0 (N9 A k l b) rl.reverse.length f args ⟨T,H,rl.reverse++ .any::c9 ops.length .any,p7⟩=some (put ⟨T,[]++H.drop 0,rl.reverse++ .any::c9 ops.length .any,.below 0::p7⟩ rl.reverse.length v):=fun k hk =>
  oU (m:=0) (l2:=an) lD hm (by simp_all [F6]) (Nat.zero_le _) (by simp_all [Z9]) qU (by exact hc k hk) rfl
 refine Rx.step (N1:=M) (rs:=[]) rfl rfl (fun k hk=> ?_) (fun rs=> ?_) (h2.to hn)
 all_goals simp_all [z6,z8,E2,x9.D9,if_true,F3,lJ,y4,G5,put,M1,List.drop_zero,List.nil_append,K0,Touch.L4]
def aO5 {f:FuncId}{x:y5}{xs:List y5}{first caps:List c8}{u:List Nat}{v:c8}{args:List c8}(hc:Pf A f args v)(h2:Ry A l b dr l5 ops T H (n+1) (v::rl) (.below 0::p7) Q)(hx:rq T n rl x= .func f first caps:=by rfl)(ha:first++xs.map (rq T n rl)++caps=args:=by rfl)(hb:C5 args=0:=by rfl)(lD:A.prom f=false:=by rfl)(hm:A.mode f=0:=by rfl)
  (qU:(⟨l.VD,l.Vu,0,F7 H l.strict 0⟩:H7)=an:=by rfl):Ry A l b dr l5 (⟨.aO x xs,none,none,u⟩::ops) T H n rl p7 Q:=fun hn=>by
 obtain ⟨M,hc⟩:=hc;have h3:∀ k,M<=k->D0 (N9 A k l b) rl.reverse.length f args ⟨T,H,rl.reverse++ .any::c9 ops.length .any,p7⟩=some (put ⟨T,[]++H.drop 0,rl.reverse++ .any::c9 ops.length .any,.below 0::p7⟩ rl.reverse.length v):=fun k hk =>
  oU (m:=0) (l2:=an) lD hm (by simp_all [F6]) (Nat.zero_le _) (by simp_all [Z9]) qU (by exact hc k hk) rfl
 refine Rx.step (N1:=M) (rs:=[]) rfl rfl (fun k hk=> ?_) (fun rs=> ?_) (h2.to hn)
 all_goals simp_all [z6,z8,E2,x9.D9,if_true,F3,Y8,lJ,y4,G5,put,M1,List.drop_zero,List.nil_append,K0,Touch.L4]
def bs1 {f:FuncId}{xs:List y5}{u:List Nat}{z n0:Nat}{cs:List Data}{args:List c8}{s:Nat}{T2:List c8}(hc:Pf A f args (.own z n0 cs))(ha:xs.map (rq T n rl)=args:=by rfl)(lD:A.prom f=false:=by rfl)(hm:A.mode f=1:=by rfl)
  (hb:C5 args=0:=by rfl) (hs:T[s]?.isSome=true:=by rfl) (hT:T.set s (.own z n0 cs)=T2:=by simp only [List.set_cons_zero,List.set_cons_succ]<;>rfl)
  (h2:Ry A l b dr l5 ops T2 H (n+1) (.d (.slice n0 cs)::rl) (.slot s::p7) Q):Ry A l b dr l5 (⟨.call f xs,some s,none,u⟩::ops) T H n rl p7 Q:=fun hn=>by
 obtain ⟨M,hc⟩:=hc;have hs:s<T.length:=by
  simp_all
 have h2:=h2.to hn;refine Rx.step (N1:=M) (rs:=[]) rfl rfl (fun k hk=> ?_) (eV s p7) h2;have h3:D0 (N9 A k l b) rl.reverse.length f args ⟨T,H,rl.reverse++ .any::c9 ops.length .any,p7⟩=some (put ⟨T,H,rl.reverse++ .any::c9 ops.length .any,p7⟩ rl.reverse.length (.own z n0 cs)) :=
  gW lD hm hb (hc k hk)
 have ha' :xs.map (A2.J2 T (rl.reverse++ .any::c9 ops.length .any))=args:=by
  rw [show A2.J2 T (rl.reverse++ .any::c9 ops.length .any)=rq T n rl from funext fun x=>Y8 hn _ x];exact ha
 have h5:A2.D8 ⟨T,H,rl.reverse++ .own z n0 cs::c9 ops.length .any,p7⟩ (.loc rl.reverse.length)=(.own z n0 cs,⟨T,H,rl.reverse++ .d (.slice n0 cs)::c9 ops.length .any,p7⟩):=by
  simp_all [A2.D8]
 simp_all [z6,z8,E2,x9.D9,if_true,F3,y4,G5,put,M1]
def bA7 {k:Nat}{cs:List Data}{x:y5}{u:List Nat}{s:Nat}{T2:List c8}(hx:rq T n rl x= .d (.slice k cs):=by rfl)(hs:T[s]?.isSome=true:=by rfl)(hT:T.set s (.d (.int .i64 k))=T2:=by simp only [List.set_cons_zero,List.set_cons_succ]<;>rfl)
  (h2:Ry A l b dr l5 ops T2 H (n+1) (.d (.int .i64 k)::rl) (.slot s::p7) Q):Ry A l b dr l5 (⟨.len x,some s,none,u⟩::ops) T H n rl p7 Q :=
 Ry.BL (v:= .d (.int .i64 k)) (rs:=[]) rfl (by grind [o6,i64]) rfl rfl hs (by simp_all)
def ZE {sz len:Nat}{zero:List c8}{parts:List (Nat×Nat×y5)}(cs:List Data){u:List Nat}(h2:Ry A l b dr l5 ops T H (n+1) (.own sz len cs::rl) p7 Q)(hr:cg zero (parts.map fun p=>(p.1,p.2.1,rq T n rl p.2.2))=some (cs.map .d):=by rfl)(hl:cs.length=len * sz:=by rfl)(h0:E1 1 sz=true:=by rfl) :
  Ry A l b dr l5 (⟨.F5 sz len zero parts false,none,none,u⟩::ops) T H n rl p7 Q:=by
 have h0' :=j5 h0;refine Ry.pure (rs:=[]) rfl ?_ h2;have hr' :cg zero (parts.map fun x=>match x with|(o,s,x)=>(o,s,rq T n rl x))=some (cs.map .d):=hr;simp [o6,hr',cL,hl]
 grind
def owS {j s d z n0 n' :Nat}{cs cs' :List Data}{u u' :List Nat}{d' :Option Nat}{g' :Option (Nat×Bool)}{T2:List c8}(h2:Ry A l b dr l5 ops T2 H (n+1) (.d (.slice n0 cs)::rl) (.slot d:: .slot s::p7) Q)
  (hj:lk n rl j=some (.d (.slice n' cs')):=by rfl) (ha:l5[j]? =some ⟨.Q5 (.slot s),d',g',u'⟩:=by rfl) (ht:p7.any (Touch.U9 s)=false:=by rfl) (hT:T[s]? =some (.own z n0 cs):=by rfl)
  (hs:T[d]?.isSome=true:=by rfl) (hT2:(T.set s (.d (.slice n0 cs))).set d (.own z n0 cs)=T2:=by simp only [List.set_cons_zero,List.set_cons_succ]<;>rfl) :
  Ry A l b dr l5 (⟨.own z (.loc j),some d,none,u⟩::ops) T H n rl p7 Q:=fun hn=>by
 have hj' :rl.reverse[j]? =some (.d (.slice n' cs')):=by simp_all [iT]
 have hjl:j<rl.reverse.length:=by
  grind
 have hs' :d<(T.set s (.d (.slice n0 cs))).length:=by
  simp_all
 have hL:∀ r:List c8,(rl.reverse++ .any::r)[j]? =some (.d (.slice n' cs')):=fun r=>by grind
 have h2:=h2.to hn;rw [<- hT2] at h2;refine Rx.step (N1:=0) (rs:=[]) rfl rfl (fun k _=> ?_) (fun rs=> ?_) h2
 .have h5:A2.D8 ⟨T.set s (.d (.slice n0 cs)),H,rl.reverse++ .own z n0 cs::c9 ops.length .any,.slot s::p7⟩ (.loc rl.reverse.length)=(.own z n0 cs,⟨T.set s (.d (.slice n0 cs)),H,rl.reverse++ .d (.slice n0 cs)::c9 ops.length .any,.slot s::p7⟩):=by
   simp_all [A2.D8]
  simp only [z6,z8,E2,x9.D9,if_true,F3,Q3,hL,ha,X5,ht,hT,j4,if_false,put,M1,y4,G5,hs',h5]
 .have:p7.length+1+1 - p7.length=2:=by omega
  simp [K0,this,Touch.L4]
def moT {s d z n0:Nat}{cs:List Data}{u:List Nat}{T2:List c8}(hx:T[s]? =some (.own z n0 cs):=by rfl)(hs:T[d]?.isSome=true:=by rfl)(hT:T.set d (.d (.slice n0 cs))=T2:=by simp only [List.set_cons_zero,List.set_cons_succ]<;>rfl)
  (h2:Ry A l b dr l5 ops T2 H (n+1) (.d (.slice n0 cs)::rl) (.slot d::p7) Q):Ry A l b dr l5 (⟨.Q5 (.slot s),some d,none,u⟩::ops) T H n rl p7 Q:=fun hn=>by
 have hs' :d<T.length:=by
  simp_all
 have h2:=h2.to hn;refine Rx.step (N1:=0) (rs:=[]) rfl rfl (fun k _=> ?_) (eV d p7) h2;have e1:∀ r,A2.D8 ⟨T,H,r,p7⟩ (.slot s)=(.d (.slice n0 cs),⟨T,H,r,p7⟩):=fun r=>by simp [A2.D8,A2.J2,hx,c8.J3]
 have h5:A2.D8 ⟨T,H,rl.reverse++ .d (.slice n0 cs)::c9 ops.length .any,p7⟩ (.loc rl.reverse.length)=(.d (.slice n0 cs),⟨T,H,rl.reverse++ .d (.slice n0 cs)::c9 ops.length .any,p7⟩):=by
  simp_all [A2.D8,A2.J2,c8.J3]
 simp_all [z6,z8,E2,x9.D9,j4,if_false,put,M1,y4,G5,if_true]
def acN {α:Type}{enc:α->List Data}{xs:List α}(a:α){j k sz bytes id off:Nat}{y:y5}{u u' :List Nat}{d' :Option Nat}{g' :Option (Nat×Bool)}{n' :Nat}{cs' :List Data}{old new:List c8}{H2:p9}
  (hr:roomFor (xs.length+1) bytes=true) (hy:rq T n rl y= .d (.slice 1 (enc a)):=by rfl) (hs:(enc a).length=1 * sz:=by rfl) (h0:E1 1 sz=true:=by rfl) (hj:lk n rl j=some (.d (.slice n' cs')):=by rfl) (ha:l5[j]? =some ⟨.load none (.loc k),d',g',u'⟩:=by rfl) (hk:lk n rl k=some (.ptr id off):=by rfl) (ht:p7.any (Touch.cF id off)=false:=by rfl) (hl:l.may id=true:=by rfl) (ho:H[id]? =some (.cells old):=by rfl) (hc:old[off]? =some (E7 sz enc xs):=by rfl)
  (hN:old.set off (.d (B0 enc xs))=new:=by rfl) (hH:H.set id (.cells new)=H2:=by simp only [List.set_cons_zero,List.set_cons_succ]<;>rfl)
  (h2:Ry A l b dr l5 ops T H2 (n+1) (E7 sz enc (xs++[a])::rl) (.cell id off::p7) Q):Ry A l b dr l5 (⟨.append sz bytes false (.loc j) y,none,none,u⟩::ops) T H n rl p7 Q :=
 Ry.av4 hj ha hk ht hl ho hc hy hs hr (j5 h0) (by
  have e1:E7 sz enc (xs++[a])= .own sz (xs.length+1) (xs.flatMap enc++enc a):=by simp [E7]
  rw [e1] at h2;subst hH hN;exact h2)
end
end S
open List
theorem jH (a b:S8):wk a b<0↔a.1<b.1\/(a.1=b.1/\a.2<b.2):=by
 grind [wk,kZ]
theorem ae3 (a b:S8):(!decide (wk b a<0))=true↔a.1<b.1\/(a.1=b.1/\a.2<=b.2):=by
 simp [Bool.not_eq_true',decide_eq_false_iff_not,jH];omega
def tJ (l:List S8):(sortP l).Perm l:=oh _ _
def Uf (l:List S8):(sortP l).length=l.length:=(tJ l).length_eq
def KU (l:List S8):(sortP l).Pairwise fun a b=>(!decide (wk b a<0))=true :=
 (uR (fun a b c h1 h2=>by rw [jH] at *;omega) (fun a b h=>by grind [jH]) l).imp fun h=>by simpa using h
def DP {l m:List S8}(h:l.Perm m):sortP l=sortP m:=by
 refine ((tJ l).trans (h.trans (tJ m).symm)).eq_of_pairwise (fun a b _ _ h1 h2=> ?_) (KU l) (KU m)
 grind [ae3,Prod.ext]
end Go.A2
namespace Go.A2
section
variable {α:Type} [Inhabited α] {enc:α->List Data} {sz:Nat} {H:p9} {id:Nat} {xs:List α}
def Oc (hs:∀ a,(enc a).length=sz)(h:H[id]? =some (.cells ((xs.flatMap enc).map .d))){i:Nat}(hi:i<xs.length):rd H id (0+i * sz) sz=some ((enc (nth xs i)).map .d):=by
 have h1:i * sz+sz<=xs.length * sz:=by rw [<- Nat.succ_mul];exact Nat.mul_le_mul_right _ hi
 simp [rd,h,List.length_map,aS hs,Nat.zero_add,if_true];rw [<- List.map_drop,<- List.map_take,qQ hs,D3 hi];simp_all
def aI2 (hs:∀ a,(enc a).length=sz){ys zs:List α}{z:α}(h:H[id]? =some (.cells (((ys++z::zs).flatMap enc).map .d)))(x:α) :
  wr H id (0+ys.length * sz) ((enc x).map .d)=some (H.set id (.cells (((ys++x::zs).flatMap enc).map .d))):=by
 have l1:((ys.flatMap enc).map c8.d).length=ys.length * sz:=by rw [List.length_map,aS hs]
 have l2:((enc z).map c8.d).length=sz:=by simp_all
 have l3:((enc x).map c8.d).length=sz:=by simp_all
 simp_all [wr,Nat.zero_add,splice,if_pos,List.length_append,List.take_left,List.drop_append,List.drop_eq_nil_of_le,List.drop_left]
end
namespace S
section
variable {A:Prog} {l:H7} {b:Nat} {dr:Bool} {l5 ops:List o9} {T:List c8} {H:p9} {n:Nat} {rl:List c8} {p7:List Touch} {Q:List c8->p9->List c8->Prop}
def lnr {x:y5}{u:List Nat}{id sz lo len:Nat}(h2:Ry A l b dr l5 ops T H (n+1) (.d (.int .i64 (len:Int))::rl) p7 Q)(hx:rq T n rl x= .B4 id sz lo len:=by rfl):Ry A l b dr l5 (⟨.len x,none,none,u⟩::ops) T H n rl p7 Q :=
 Ry.pure (rs:=[]) rfl (by grind [o6,i64]) h2
def svr {x y:y5}{u:List Nat}{id sz lo len i:Nat}{k:IntKind}(hi:i<len)(h2:Ry A l b dr l5 ops T H (n+1) (.B4 id sz (lo+i * sz) (len - i)::rl) p7 Q)(hx:rq T n rl x= .B4 id sz lo len:=by rfl)(hy:rq T n rl y= .d (.int k ((i:Nat):Int)):=by rfl) :
  Ry A l b dr l5 (⟨.aW sz x (some y) none,none,none,u⟩::ops) T H n rl p7 Q :=
 Ry.pure (rs:=[]) rfl (by
  grind [o6,X4]) h2
def svf {x y:y5}{u:List Nat}{id sz lo len i:Nat}{k:IntKind}(hi:i<=len)(h0:0<i)(h2:Ry A l b dr l5 ops T H (n+1) (.B4 id sz lo i::rl) p7 Q)(hx:rq T n rl x= .B4 id sz lo len:=by rfl)(hy:rq T n rl y= .d (.int k ((i:Nat):Int)):=by rfl) :
  Ry A l b dr l5 (⟨.aW sz x none (some y),none,none,u⟩::ops) T H n rl p7 Q :=
 Ry.pure (rs:=[]) rfl (by
  grind [o6,X4]) h2
def clS {x:y5}{u:List Nat}{id sz lo len:Nat}{zero:List c8}{H2:p9}(hw:wr H id lo ((c9 len zero).flatten)=some H2)(h2:Ry A l b false l5 ops T H2 (n+1) (.tuple []::rl) (.obj id::p7) Q)(hx:rq T n rl x= .B4 id sz lo len:=by rfl)(hz:zero.length=sz:=by rfl)(hb:C5 zero=0:=by rfl)(hl:l.may id=true:=by rfl) :
  Ry A l b false l5 (⟨.clear sz zero x,none,none,u⟩::ops) T H n rl p7 Q:=fun hn=>by
 refine Rx.stepT (N1:=0) (rs:=[]) rfl (fun k _=> ?_) (h2.to hn);simp_all [N9,z6,z8,E2,x9.D9,if_true,F3,Y8,Y4,and_self,put,M1,y4,G5]
end
end S
theorem xQ {A B:Prog}(hf:A.fn=B.fn)(hi:A.idle=B.idle)(hm:A.mode=B.mode)(M:Nat)(hn:∀ f,A.fP f=none->B.fP f=none\/A.fn f=none)
  (hp:∀ f p,A.fP f=some p->∀ args H l r,p args H l=some r->call B M f args H l=some r):∀ n,LeC (call A n) (call B (n+M))
 |0=>fun _ _ _ _=>kz.no _
 |n+1=>fun f args H l=>by
  intro r hr;have ye:A.prom=B.prom:=by grind [Prog.prom]
  unfold call at hr;split at hr
  .rename_i p hq
   exact Gs B M (n+1+M) (by omega) f args H l r (hp f p hq args H l r hr)
  .split at hr
   .rename_i af haf
    have hb:B.fP f=none:=by
     grind
    rw [show n+1+M=(n+M)+1 by omega,Gr hb (by rw [<- hf];exact haf)];unfold iA at hr ⊢;split at hr
    .rename_i hlen
     rw [if_pos hlen];cases hx:exec ⟨call A n,A.prom,A.mode,A.idle,l,H.length⟩ n af.body ⟨args++c9 (af.names.length - args.length) .any,H⟩ with
     |none=>simp_all
     |some x =>
      rw [hx] at hr;rw [ye,hi,hm] at hx;rw [hU (xQ hf hi hm M hn hp n) (Nat.le_add_right n M) _ _ _ hx];exact hr
    .cases hr
   .cases hr
def Pf.aH8 {A:Prog}{es:List DW}{M n:Nat}(ZH:∀ e,e ∈ es->call A M e.f e.args [] an=some (e.res,[])){f:FuncId}{args:List c8}{v:c8}(h:call (memo A es) n f args [] an=some (v,[]))(hM:0<M):Pf A f args v:=by
 refine Pf.af9 (xQ (A:=memo A es) (B:=A) rfl rfl rfl M ?_ ?_ n _ _ _ _ _ h)
 .grind [memo]
 .intro f p hp args H l r hr
  simp [memo] at hp;split at hp
  .cases hp
   simp only at hr;split at hr
   .grind [GS,Bu]
   .cases hr
  .obtain ⟨k,rfl⟩:∃ k,M=k+1:=⟨M - 1,by omega⟩
   simp_all [call]
end Go.A2


/- Texts D52 D53 (made short by a program) -/
import Derived.Test.YtkmclibmmlgogaaGreatX1
set_option linter.unusedVariables false
set_option linter.unusedSimpArgs false
open List renaming cons_append → D9, drop_of_length_le → m6, mem_cons → x9, mem_singleton → p4, take_of_length_le → q7
open Nat renaming le_refl → k9
namespace Go.Proofs.YtkmclibmmlgogaaGreat
open Go.z7 Go.z7.S
attribute [local irreducible] Rx Ry Rn Ex Pf
def l8:H7:=⟨0,8,8,8⟩
def ji (st:Int)(deps:List Int)(s:Int):Bool:=o9 s st||deps.any fun y=>o9 y s
theorem aC2 (a0 a2 a3 a4 a5 a6:z6)(st s:Int)(deps:List Int)(hd:deps.length<=10000):Pm A 48 [.d (num s),.ptr 1 0,.ptr 7 0] [a0,.cells [.d (num st)],a2,a3,a4,a5,a6,.cells [B4 1 (fun n=>[num n]) deps]] l8 (.d (.bool (ji st deps s))) [a0,.cells [.d (num st)],a2,a3,a4,a5,a6,.cells [B4 1 (fun n=>[num n]) deps]]:=by
 have p49:=VA deps s (by omega)
 suffices h:Pq A 48 [.d (num s),.ptr 1 0,.ptr 7 0] [a0,.cells [.d (num st)],a2,a3,a4,a5,a6,.cells [B4 1 (fun n=>[num n]) deps]] l8 fun v H1=>v= .d (.bool (ji st deps s))/\H1=[a0,.cells [.d (num st)],a2,a3,a4,a5,a6,.cells [B4 1 (fun n=>[num n]) deps]] by
  obtain ⟨v,H1,⟨rfl,rfl⟩,h⟩:=h;exact h
 refine Pq.run (b:=8) [.d (num s),.ptr 1 0,.ptr 7 0,.any] rfl rfl rfl rfl rfl ?_;unfold ji
 repeat' (first|refine cl (p49) ?_|refine gx ?_|refine fk (h1:=fun hw=> ?_) (h2:=fun hw=> ?_)|refine L3 (h1:=fun hw=> ?_) (h2:=fun hw=> ?_)|refine Ex.I4 ?_|refine Ex.I6 ?_|refine Ex.cond rfl (fun ht=> ?_) (fun ht=> ?_)|refine Ex.test (Rn.text ?_)|refine Ex.test (Rn.draw ?_)|refine ⟨_,rfl,fun ht=> ?_,fun ht=> ?_⟩|refine ⟨_,rfl,?_⟩|fail)
 all_goals exact ⟨_,_,rfl,by simp [*,b9],rfl⟩
def MK (st:Int)(deps:List Int):List Int->Nat->Int
 |[],_=> -1
 |y::r,i=>if ji st deps y then i else MK st deps r (i+1)
theorem Iu (st:Int)(deps:List Int):∀ (l:List Int) (i:Nat),W6 0 (MK st deps l i)=l.any (ji st deps)
 |[],i=>by simp [MK,p5]
 |y::r,i=>by
  have h1:=Iu st deps r (i+1);simp only [MK,List.any_cons];cases h3:ji st deps y with
  |true=>simp [p5]
  |false=>simpa using h1
set_option maxHeartbeats 2000000 in
theorem aC3 (a0 a2 a3 a4 a5 a6:z6)(st:Int)(deps ys:List Int)(hd:deps.length<=10000)(hy:ys.length<=1000):Pm A 81 [.d (ints ys),.func 48 [] [.ptr 1 0,.ptr 7 0]] [a0,.cells [.d (num st)],a2,a3,a4,a5,a6,.cells [B4 1 (fun n=>[num n]) deps]] l8 (.d (num (MK st deps ys 0))) [a0,.cells [.d (num st)],a2,a3,a4,a5,a6,.cells [B4 1 (fun n=>[num n]) deps]]:=by
 suffices h:Pq A 81 [.d (ints ys),.func 48 [] [.ptr 1 0,.ptr 7 0]] [a0,.cells [.d (num st)],a2,a3,a4,a5,a6,.cells [B4 1 (fun n=>[num n]) deps]] l8 fun v H1=>v= .d (num (MK st deps ys 0))/\H1=[a0,.cells [.d (num st)],a2,a3,a4,a5,a6,.cells [B4 1 (fun n=>[num n]) deps]] by
  obtain ⟨v,H1,⟨rfl,rfl⟩,h⟩:=h;exact h
 refine Pq.run (b:=8) [.d (ints ys),.func 48 [] [.ptr 1 0,.ptr 7 0],.any,.any,.any,.any] rfl rfl rfl rfl rfl ?_;refine gr ?_;refine Ex.J1 (fun k T H=>∃ (i:Nat) (v w:b6),T=[.d (ints ys),.func 48 [] [.ptr 1 0,.ptr 7 0],v,w,.d (num ys.length),.d (num i)]/\H=[a0,.cells [.d (num st)],a2,a3,a4,a5,a6,.cells [B4 1 (fun n=>[num n]) deps]]/\i+k=ys.length/\MK st deps ys 0=MK st deps (ys.drop i) i) (by rintro _ _ _ ⟨_,_,_,_,rfl,_⟩;rfl) ?_ (k:=ys.length) ⟨0,_,_,rfl,rfl,by simp,by simp⟩;rintro k _ _ ⟨i,v,w,rfl,rfl,hk,hi⟩;refine Ex.nT ?_;refine Ex.seq ?_;refine tb (C7 i ys.length) (fun h1=> ?_) (fun h1=> ?_)
 ·have h2:=A4 h1
  rw [A8 (by omega)] at hi;have p1:=aC2 a0 a2 a3 a4 a5 a6 st (nth ys i) deps hd;refine gr ?_;refine tB (ji st deps (nth ys i)) ?_ (fun h3=> ?_) (fun h3=> ?_)
  ·repeat' (first|refine Yp p1 rfl ?_|refine gx ?_|refine fk (h1:=fun hw=> ?_) (h2:=fun hw=> ?_)|refine L3 (h1:=fun hw=> ?_) (h2:=fun hw=> ?_)|refine ⟨rfl,rfl,_,rfl,?_⟩|refine ⟨rfl,rfl⟩|fail)
   all_goals exact cc
  ·refine gr ?_
   exact ⟨_,_,rfl,by rw [hi,MK,h3];rfl,rfl⟩
  ·refine gr ?_
   exact ⟨k - 1,by omega,i+1,_,_,rfl,rfl,by omega,by rw [hi,MK,h3];rfl⟩
 ·have h2:=z8 h1
  rw [m6 (by omega)] at hi;refine gr ?_;exact ⟨_,_,rfl,by rw [hi];rfl,rfl⟩
theorem aC1 (a0 a2 a3 a4 a5 a6:z6)(st:Int)(deps ys:List Int)(hd:deps.length<=10000)(hy:ys.length<=1000):Pm A 47 [.d (ints ys),.func 48 [] [.ptr 1 0,.ptr 7 0]] [a0,.cells [.d (num st)],a2,a3,a4,a5,a6,.cells [B4 1 (fun n=>[num n]) deps]] l8 (.d (.bool (ys.any (ji st deps)))) [a0,.cells [.d (num st)],a2,a3,a4,a5,a6,.cells [B4 1 (fun n=>[num n]) deps]]:=by
 have p1:=aC3 a0 a2 a3 a4 a5 a6 st deps ys hd hy;rw [<- Iu st deps ys 0]
 suffices h:Pq A 47 [.d (ints ys),.func 48 [] [.ptr 1 0,.ptr 7 0]] [a0,.cells [.d (num st)],a2,a3,a4,a5,a6,.cells [B4 1 (fun n=>[num n]) deps]] l8 fun v H1=>v= .d (.bool (W6 0 (MK st deps ys 0)))/\H1=[a0,.cells [.d (num st)],a2,a3,a4,a5,a6,.cells [B4 1 (fun n=>[num n]) deps]] by
  obtain ⟨v,H1,⟨rfl,rfl⟩,h⟩:=h;exact h
 refine Pq.run (b:=8) [.d (ints ys),.func 48 [] [.ptr 1 0,.ptr 7 0],.any] rfl rfl rfl rfl rfl ?_
 repeat' (first|refine c1 p1 rfl ?_|refine gx ?_|fail)
 exact ⟨_,_,rfl,rfl,rfl⟩
def aa (c:n5)(st:Int):Nat->List Int
 |0=>[]
 |k+1=>aa c st k++(if (ay c k).any (ji st (aa c st k)) then [(k:Int)] else [])
theorem lN (c:n5)(st:Int):∀ k,(aa c st k).length<=k
 |0=>k9 _
 |k+1=>by
  have:=lN c st k;simp only [aa];split<;>simp<;>omega
theorem zA :∀ v ns,(nP v ns).length<=2:=fun v ns=>by
 unfold nP;refine Nat.le_trans (lM _) ?_;rw [jF];split<;>simp
theorem EE (c:n5)(n:Int):(ay c n).length<=2:=by
 unfold ay;split
 ·simp
 ·exact zA _ _
theorem Jh {c:n5}(hv:K7 c=true){k:Nat}(hk:k<n5.ns c):∀ s,s ∈ ay c k->s<k:=by
 have hmem:∀ (l:List Int) (s:Int),s ∈ O2 l->s ∈ l:=by
  intro l
  induction l using O2.induct with
  |case1=>simp [O2]
  |case2 x=>simp [O2]
  |case3 x l ih=>intro s hs;simp only [O2,if_true] at hs;have:=ih s hs;simp at this ⊢;rcases this with h|h<;>simp [h]
  |case4 x y l h ih =>
   intro s hs;simp only [O2,h,if_false,x9] at hs;rcases hs with hs|hs;· simp [hs]
   have:=ih s hs;simp only [x9] at this ⊢;exact .inr this
 have hins:∀ (x:Int) (l:List Int) (s:Int),s ∈ fA x l->s=x\/s ∈ l:=by
  intro x l
  induction l with
  |nil=>intro s hs;simpa [fA] using hs
  |cons y l ih =>
   intro s hs;simp only [fA] at hs;split at hs
   ·simpa using hs
   ·simp only [x9] at hs
    rcases hs with hs|hs
    ·simp [hs]
    ·rcases ih s hs with h|h<;>simp [h]
 have hsort:∀ (l:List Int) (s:Int),s ∈ O6 l->s ∈ l:=by
  intro l
  induction l with
  |nil=>intro s hs;simp [O6] at hs
  |cons y l ih =>
   intro s hs
   rcases hins y (O6 l) s hs with h|h
   ·simp [h]
   ·simp [ih s h]
 intro s hs;unfold ay at hs;split at hs
 ·simp at hs
 ·rename_i ht
  have ht:(c.j3.length:Int)<=k:=by simpa [p8] using ht
  have h2:=(fh hv).2.2 k (by omega) hk;rw [show (((k:Nat):Int) - c.j3.length).toNat=k - c.j3.length by omega] at hs;have h3:=hsort _ _ (hmem _ _ hs);have b1:=I7 c (nth c.views (k - c.j3.length)).left k;have b2:=I7 c (nth c.views (k - c.j3.length)).right k;split at h3
  ·simp only [p4] at h3
   rw [lS h2.1] at h3;omega
  ·rename_i g
   have g:J4 (nth c.views (k - c.j3.length)).right []=false:=by simpa using g
   simp only [x9,List.not_mem_nil,or_false] at h3;rw [lS h2.1,lS (h2.2 g)] at h3;have:=h2.2 g;omega
theorem zD {c:n5}(hv:K7 c=true){st:Nat}:∀ k,k<=st+1->k<=n5.ns c->aa c st k=[]
 |0,_,_=>rfl
 |k+1,h,h2=>by
  have ih:=zD hv (st:=st) k (by omega) (by omega);simp only [aa,ih,List.nil_append];have e:((ay c k).any (ji st []))=false:=by
   rw [List.any_eq_false];intro s hs;have:=Jh hv (k:=k) (by omega) s hs;unfold ji;simp [j9];omega
  rw [e];rfl
theorem zE (c:n5)(st:Int):∀ k,k<=c.j3.length->aa c st k=[]
 |0,_=>rfl
 |k+1,h=>by
  have ih:=zE c st k (by omega);have:ay c k=[]:=by unfold ay;rw [if_pos (by rw [p8];simp;omega)]
  simp [aa,ih,this]
def HD (c:n5)(st:Int)(x:b6):o6:=[.cells (c.enc.map .d),.cells [.d (num st)],.cells (c.enc.map .d),.map (dmap c.names),.map (S6 ((A6 c (n5.ns c)).map (·.1)) 0),.cells (c.enc.map .d++[.map 3,.map 4,B4 2 G5 (A6 c (n5.ns c))]),.cells (dK.Q4 c),.cells [x]]
theorem Uu (c:n5)(st:Int)(x:b6)(hx:x.N7=0):Y2 (HD c st x)<=8:=by
 have h1:=dc c.names;have h2:=dx ((A6 c (n5.ns c)).map (·.1)) 0;have e0:A9 [b6.d (num st)]=0:=rfl;have e1:A9 (c.enc.map b6.d)=0:=rfl;have e2:A9 (c.enc.map b6.d++[.map 3,.map 4,B4 2 G5 (A6 c (n5.ns c))])=5:=rfl;have e3:A9 (dK.Q4 c)=6:=rfl;have e4:A9 [x]=0:=by simp [A9,hx]
 simp only [HD,Y2,z6.N7,h1,h2,e0,e1,e2,e3,e4]
 decide
theorem Qs (c:n5)(st:Int)(x:b6)(hx:x.N7=0):P3 (HD c st x) 0=true:=by
 have h1:=dc c.names;have h2:=dx ((A6 c (n5.ns c)).map (·.1)) 0;have e0:A9 [b6.d (num st)]=0:=rfl;have e1:A9 (c.enc.map b6.d)=0:=rfl;have e2:A9 (c.enc.map b6.d++[.map 3,.map 4,B4 2 G5 (A6 c (n5.ns c))])=5:=rfl;have e3:A9 (dK.Q4 c)=6:=rfl;have e4:A9 [x]=0:=by simp [A9,hx]
 simp only [HD,P3,z6.N7,h1,h2,e0,e1,e2,e3,e4]
 decide
section
variable {b:Nat} {dr:Bool} {j4 ops:List n9} {T:List b6} {n:Nat} {rl:List b6} {n7:List z7.Touch} {Q:List b6->o6->List b6->Prop}
theorem ckD {c:n5}{st:Int}{x:b6}{f:FuncId}{xs:List u5}{u:List Nat}{v:b6}{args:List b6}(hc:Pm A f args (@dK.HH ⟨⟨st⟩⟩ c c.names (A6 c (n5.ns c))) dK.lR v (@dK.HH ⟨⟨st⟩⟩ c c.names (A6 c (n5.ns c))))(h2:Ry A cU b dr j4 ops T (HD c st x) (n+1) (v::rl) n7 Q)
  (ha:xs.map (rq T n rl)=args:=by rfl) (hb:A9 args=6:=by rfl) (dM:A.prom f=false:=by rfl) (hm:A.mode f=1:=by rfl):Ry A cU b dr j4 (⟨.call f xs,none,none,u⟩::ops) T (HD c st x) n rl n7 Q :=
 @dK.ck ⟨⟨st⟩⟩ b dr j4 ops T n rl n7 Q c c.names (A6 c (n5.ns c)) [.cells (dK.Q4 c),.cells [x]] f xs u v args hc h2 ha hb dM hm
theorem ckE {c:n5}{st:Int}{x:b6}{f:FuncId}{xs:List u5}{u:List Nat}{v:b6}{args:List b6}(hx:x.N7=0)(hc:Pm A f args (HD c st x) l8 v (HD c st x))(h2:Ry A cU b dr j4 ops T (HD c st x) (n+1) (v::rl) n7 Q)
  (ha:xs.map (rq T n rl)=args:=by rfl) (hb:A9 args=8:=by rfl) (dM:A.prom f=false:=by rfl) (hm:A.mode f=1:=by rfl):Ry A cU b dr j4 (⟨.call f xs,none,none,u⟩::ops) T (HD c st x) n rl n7 Q:=by
 have hb8:=Uu c st x hx;have hd8:=Qs c st x hx;refine c1 hc rfl h2 (m:=8) ?_ ?_ rfl rfl ?_ ha dM hm
 ·show Y2 (HD c st x)<=8
  exact hb8
 ·rw [hb]
  exact fT (by show Y2 (HD c st x)<=8;exact hb8)
 ·show H7.mk 0 8 8 (C5 _ 0 8)=l8
  have:C5 (HD c st x) 0 8=8:=by
   unfold C5;rw [if_neg (by decide),if_pos (by show P3 (HD c st x) 0=true;exact hd8)]
  rw [this];rfl
end
set_option maxHeartbeats 8000000 in
theorem TL (c:n5)(hs:C0 c)(st:Nat)(h:P9 c st=true):Pf A 20 [cat c,.d (num st)] (.d (ints (aa c st (n5.ns c)))):=by
 letI:Inhabited dK.XO:=⟨⟨st⟩⟩
 obtain ⟨v,H1,hp,oV⟩:=dK.mD c hs;have hle:=dK.gj hp;obtain ⟨_,hp1,hp2⟩:=hp;obtain ⟨e,h2,h3⟩:=bT h;have hv:=fO h;obtain ⟨f0,f1,f2,f3,f4,f5,f6,f7⟩:=id hs.sm.fq;have aY:n5.ns c=c.j3.length+c.views.length:=rfl;obtain ⟨rfl,rfl⟩:=hp2 e;have h6:=C8 c (n5.ns c);have sR:=dK.BY c c.names (A6 c (n5.ns c)) st;rw [C8,h2] at sR;refine Pf.run [cat c,.d (num st),.any,.any,.any,.any,.any,.any,.any] rfl rfl rfl rfl ?_
 repeat' (first|refine cp oV hle ?_|refine gx ?_|fail)
 refine tB (false) ?_ (fun h1=> ?_) (fun h1=> ?_)
 ·repeat' (first|refine dK.ck sR ?_|refine gx ?_|refine fk (h1:=fun hw=> ?_) (h2:=fun hw=> ?_)|refine L3 (h1:=fun hw=> ?_) (h2:=fun hw=> ?_)|refine ⟨rfl,rfl,_,rfl,?_⟩|refine ⟨rfl,rfl⟩|fail)
  all_goals exact cc
 ·cases h1
 refine gr ?_;refine ac (id:=7) (H2:=HD c st (B4 1 (fun n=>[num n]) [])) (h2:= ?_) (hi:=rfl) (hH:=rfl);refine gr ?_;refine Ex.J1 (fun q T H=>∃ (k:Nat) (w0 w1 w2 w4 w6:b6),T=[w0,w1,w2,.ptr 1 0,w4,.ptr 5 0,w6,.ptr 7 0,.d (num k)]/\H=HD c st (B4 1 (fun n=>[num n]) (aa c st k))/\k+q=n5.ns c/\st+1<=k) (by rintro _ _ _ ⟨_,_,_,_,_,_,_,rfl,_⟩;rfl) ?_ (k:=n5.ns c - (st+1)) ⟨st+1,_,_,_,_,_,rfl,by rw [zD hv _ (k9 _) (by omega)],by omega,k9 _⟩;rintro q _ _ ⟨k,w0,w1,w2,w4,w6,rfl,rfl,hq,hk⟩;refine Ex.nT ?_;refine Ex.seq ?_;refine tB (C7 k (n5.ns c)) ?_ (fun g1=> ?_) (fun g1=> ?_)
 ·repeat' (first|refine cl (h6) ?_|refine gx ?_|refine fk (h1:=fun hw=> ?_) (h2:=fun hw=> ?_)|refine L3 (h1:=fun hw=> ?_) (h2:=fun hw=> ?_)|refine ⟨rfl,rfl,_,rfl,?_⟩|refine ⟨rfl,rfl⟩|fail)
  all_goals exact cc
 ·have g2:=A4 g1
  have p45:=dK.VD c c.names k (by omega) f1;have p47:=aC1 (.cells (c.enc.map .d)) (.cells (c.enc.map .d)) (.map (dmap c.names)) (.map (S6 ((A6 c (n5.ns c)).map (·.1)) 0)) (.cells (c.enc.map .d++[.map 3,.map 4,B4 2 G5 (A6 c (n5.ns c))])) (.cells (dK.Q4 c)) st (aa c st k) (ay c k) (by have:=lN c st k;omega) (by have:=EE c k;omega);refine gr ?_;refine tB ((ay c k).any (ji st (aa c st k))) ?_ (fun g3=> ?_) (fun g3=> ?_)
  ·repeat' (first|refine ckD p45 ?_|refine ckE rfl p47 ?_|refine gx ?_|refine fk (h1:=fun hw=> ?_) (h2:=fun hw=> ?_)|refine L3 (h1:=fun hw=> ?_) (h2:=fun hw=> ?_)|refine ⟨rfl,rfl,_,rfl,?_⟩|refine ⟨rfl,rfl⟩|fail)
   all_goals exact cc
  ·have hr:roomFor ((aa c st k).length+1) 8=true:=by have:=lN c st k;simp only [roomFor,decide_eq_true_eq];omega
   have e1:aa c st (k+1)=aa c st k++[(k:Int)]:=by simp only [aa];rw [g3];rfl
   refine gr ?_;refine aj9 (a:=(k:Int)) (xs:=aa c st k) (enc:=fun n=>[num n]) (H2:=HD c st (.d (ints (aa c st k)))) hr rfl (hH:=rfl) (h2:= ?_);refine soO (H2:=HD c st (B4 1 (fun n=>[num n]) (aa c st k++[(k:Int)]))) (hH:=rfl) (h2:= ?_);refine gr ?_;exact ⟨q - 1,by omega,k+1,_,_,_,_,_,rfl,by rw [e1],by omega,by omega⟩
  ·have e1:aa c st (k+1)=aa c st k:=by simp only [aa];rw [g3];simp
   refine gr ?_;exact ⟨q - 1,by omega,k+1,_,_,_,_,_,rfl,by rw [e1],by omega,by omega⟩
 ·have g2:=z8 g1
  obtain rfl:k=n5.ns c:=by omega
  refine gr ?_;exact ⟨_,rfl,rfl⟩
theorem ZZ (c:n5)(hs:C0 c)(n:Int)(h:P9 c n=false):Pf A 20 [cat c,.d (num n)] (.own 1 0 []):=by
 letI:Inhabited dK.XO:=⟨⟨n⟩⟩
 obtain ⟨v,H1,hp,oV⟩:=dK.mD c hs;have hle:=dK.gj hp;obtain ⟨⟨R,hR⟩,hp1,hp2⟩:=hp;refine Pf.run [cat c,.d (num n),.any,.any,.any,.any,.any,.any,.any] rfl rfl rfl rfl ?_;cases e:o9 (K6 c).2 0 with
 |false =>
  obtain rfl:=hp1 e;subst hR
  repeat' (first|refine cp oV hle ?_|refine gx ?_|fail)
  refine tB (true) ?_ (fun h1=> ?_) (fun h1=> ?_)
  ·repeat' (first|refine cl (e) ?_|refine gx ?_|refine fk (h1:=fun hw=> ?_) (h2:=fun hw=> ?_)|refine L3 (h1:=fun hw=> ?_) (h2:=fun hw=> ?_)|refine ⟨rfl,rfl,_,rfl,?_⟩|refine ⟨rfl,rfl⟩|fail)
   all_goals exact cc
  ·refine gr ?_
   exact ⟨_,rfl,rfl⟩
  ·cases h1
 |true =>
  obtain ⟨rfl,hH⟩:=hp2 e;subst hH;have sR:=dK.BY c c.names (A6 c (n5.ns c)) n;rw [C8] at sR;have h2:(W6 0 n&&C7 n (n5.ns c))=false:=by unfold P9 K7 at h;rw [e] at h;exact h
  rw [h2] at sR
  repeat' (first|refine cp oV hle ?_|refine gx ?_|fail)
  refine tB (true) ?_ (fun h1=> ?_) (fun h1=> ?_)
  ·repeat' (first|refine dK.ck sR ?_|refine gx ?_|refine fk (h1:=fun hw=> ?_) (h2:=fun hw=> ?_)|refine L3 (h1:=fun hw=> ?_) (h2:=fun hw=> ?_)|refine ⟨rfl,rfl,_,rfl,?_⟩|refine ⟨rfl,rfl⟩|fail)
   all_goals exact cc
  ·refine gr ?_
   exact ⟨_,rfl,rfl⟩
  ·cases h1
theorem aa5 (c:n5)(hs:C0 c)(n:Int)(h:P9 c n=false):Pf A 56 [cat c,.d (num n)] (.own 1 0 []):=by
 have wW:=BX c hs n;rw [h] at wW;refine Pf.run [cat c,.d (num n),.any,.any,.any,.any,.any,.any] rfl rfl rfl rfl ?_;refine gr ?_;refine tB (true) ?_ (fun h1=> ?_) (fun h1=> ?_)
 ·repeat' (first|refine cl (wW) ?_|refine gx ?_|refine fk (h1:=fun hw=> ?_) (h2:=fun hw=> ?_)|refine L3 (h1:=fun hw=> ?_) (h2:=fun hw=> ?_)|refine ⟨rfl,rfl,_,rfl,?_⟩|refine ⟨rfl,rfl⟩|fail)
  all_goals exact cc
 ·refine gr ?_
  exact ⟨_,rfl,rfl⟩
 ·cases h1
theorem Iq (c:n5)(st:Int):∀ k,∀ s,s ∈ aa c st k->s<k
 |0,s,h=>by simp [aa] at h
 |k+1,s,h=>by
  simp only [aa,List.mem_append] at h
  rcases h with h|h
  ·have:=Iq c st k s h;omega
  ·split at h
   ·simp only [p4] at h;omega
   ·simp at h
theorem zo:∀ (l:List Int) (n:Int),(∀ s,s ∈ l->s<n)->Z4 l n=l++[n]
 |[],n,_=>rfl
 |x::l,n,h=>by
  have:=h x (by simp);simp only [Z4,this,if_true,zo l n (fun s hs=>h s (by simp [hs])),D9]
theorem vt:∀ (l:List Int) (n:Int),(∀ s,s ∈ l->s<n)->Z4 (l++[n]) n=l++[n]
 |[],n,_=>by simp [Z4]
 |x::l,n,h=>by
  have:=h x (by simp);simp only [D9,Z4,this,if_true,vt l n (fun s hs=>h s (by simp [hs]))]
theorem MU:∀ (l:List Int) (s:Int),hasB l s=l.any fun y=>o9 y s:=by
 intro l s
 induction l with
 |nil=>rfl
 |cons x l ih=>simp [hasB,ih]
def oN (c:n5)(st:Int)(k i:Nat):List Int:=aa c st k++(if ((ay c k).take i).any (ji st (aa c st k)) then [(k:Int)] else [])
set_option maxHeartbeats 8000000 in
theorem TQ (c:n5)(hs:C0 c)(st:Nat)(h:P9 c st=true):Pf A 56 [cat c,.d (num st)] (.d (ints (aa c st (n5.ns c)))):=by
 have wW:=BX c hs st;rw [h] at wW;have hv:=fO h;have h3:=(bT h).2.2;obtain ⟨f0,f1,f2,f3,f4,f5,f6,f7⟩:=id hs.sm.fq;have aY:n5.ns c=c.j3.length+c.views.length:=rfl;have h20:=BP (fh hv).2.1;have p55:∀ k:Nat,c.j3.length<=k->k<n5.ns c->Pf A 55 [cat c,.d (num k)] (.d (ints (ay c k))):=fun k hk hk2=>by
  refine TP c hs k ?_ (by omega);unfold P9;rw [hv];simp [p5,p8];omega
 refine Pf.run [cat c,.d (num st),.any,.any,.any,.any,.any,.any] rfl rfl rfl rfl ?_;refine gr ?_;refine tB (false) ?_ (fun h1=> ?_) (fun h1=> ?_)
 ·repeat' (first|refine cl (wW) ?_|refine gx ?_|refine fk (h1:=fun hw=> ?_) (h2:=fun hw=> ?_)|refine L3 (h1:=fun hw=> ?_) (h2:=fun hw=> ?_)|refine ⟨rfl,rfl,_,rfl,?_⟩|refine ⟨rfl,rfl⟩|fail)
  all_goals exact cc
 ·cases h1
 refine gr ?_;refine Ex.J1 (fun q T H=>∃ (k:Nat) (w0 w3 w4 w6 w7:b6),T=[w0,.d (num st),.ptr 0 0,w3,w4,.d (num k),w6,w7]/\H=[.cells (c.enc.map .d)]/\SL w4 (aa c st k)/\k+q=n5.ns c/\c.j3.length<=k) (by rintro _ _ _ ⟨_,_,_,_,_,_,_,rfl,_⟩;rfl) ?_ (k:=c.views.length) ⟨c.j3.length,_,_,_,_,_,rfl,rfl,.inr (by rw [zE c st _ (k9 _)];rfl),by omega,k9 _⟩;rintro q _ _ ⟨k,w0,w3,w4,w6,w7,rfl,rfl,hw,hq,hk⟩;refine Ex.nT ?_;refine Ex.seq ?_;refine tB (C7 k (n5.ns c)) ?_ (fun g1=> ?_) (fun g1=> ?_)
 ·repeat' (first|refine cl (aY) ?_|refine gx ?_|refine fk (h1:=fun hw=> ?_) (h2:=fun hw=> ?_)|refine L3 (h1:=fun hw=> ?_) (h2:=fun hw=> ?_)|refine ⟨rfl,rfl,_,rfl,?_⟩|refine ⟨rfl,rfl⟩|fail)
  all_goals exact cc
 ·have g2:=A4 g1
  have p1:=p55 k hk (by omega);have uD:=EE c k;have hdl:=lN c st k
  repeat' (first|refine cl (p1) ?_|refine gx ?_|fail)
  refine Ex.J1 (fun q2 T H=>∃ (i:Nat) (w0 w3 w4:b6),T=[w0,.d (num st),.ptr 0 0,w3,w4,.d (num k),.d (ints (ay c k)),.d (num i)]/\H=[.cells (c.enc.map .d)]/\SL w4 (oN c st k i)/\i+q2=(ay c k).length) (by rintro _ _ _ ⟨_,_,_,_,_,rfl,_⟩;rfl) ?_ (k:=(ay c k).length) ⟨0,_,_,_,rfl,rfl,by simpa [oN] using hw,by simp⟩;clear hw;rintro q2 _ _ ⟨i,w0,w3,w4,rfl,rfl,hw,Qi⟩;refine Ex.nT ?_;refine Ex.seq ?_;refine tb (C7 i (ay c k).length) (fun g3=> ?_) (fun g3=> ?_)
  ·have g4:=A4 g3
   have uB:i<(ay c k).length:=by omega
   have hlt:nth (ay c k) i<k:=Jh hv (by omega) _ (by rw [K0 uB];exact List.getElem_mem uB);have hha:hasB (oN c st k i) (nth (ay c k) i)=(aa c st k).any fun y=>o9 y (nth (ay c k) i):=by
    rw [MU];unfold oN;rw [List.any_append];split
    ·have:o9 (k:Int) (nth (ay c k) i)=false:=by rw [j9];simp;omega
     simp [this]
    ·simp
   have hIl:(oN c st k i).length<=k+1:=by unfold oN;split<;>simp<;>omega
   have p89:=aa9 (oN c st k i) (nth (ay c k) i) (by omega);rw [hha] at p89;have NH:=VC (oN c st k i) k (by omega);have hlt2:=Iq c st k;have UH:Z4 (oN c st k i) k=aa c st k++[(k:Int)]:=by
    unfold oN;split
    ·exact vt _ _ hlt2
    ·simpa using zo _ _ hlt2
   rw [UH] at NH;obtain ⟨w5,hw5,NH⟩:=NH;have Qk:=hw.as;have e1:oN c st k (i+1)=if ji st (aa c st k) (nth (ay c k) i) then aa c st k++[(k:Int)] else oN c st k i:=by
    unfold oN;rw [F6 uB];simp only [List.any_append,List.any_cons,List.any_nil,Bool.or_false];cases ji st (aa c st k) (nth (ay c k) i)<;>simp
   refine gr ?_;refine tB (ji st (aa c st k) (nth (ay c k) i)) ?_ (fun g5=> ?_) (fun g5=> ?_)
   ·repeat' (first|refine Vk Qk ?_|refine cl (p89) ?_|refine gx ?_|refine fk (h1:=fun hw=> ?_) (h2:=fun hw=> ?_)|refine L3 (h1:=fun hw=> ?_) (h2:=fun hw=> ?_)|refine ⟨rfl,rfl,_,rfl,?_⟩|refine ⟨rfl,rfl⟩|fail)
    all_goals first|(simp [*,b9,ji];done)|(simp_all [b9,ji];done)|(simp_all [b9,ji,p8,p5,j9,B7];done)|(simp_all [b9,ji,p8,p5,j9,B7]<;>omega)
   ·rw [g5,if_pos rfl] at e1
    rcases hw5 with rfl|rfl
    ·repeat' (first|refine Vk Qk ?_|refine cl (NH) ?_|refine gx ?_|fail)
     exact ⟨q2 - 1,by omega,i+1,_,_,_,rfl,rfl,.inl (by rw [e1]),by omega⟩
    ·repeat' (first|refine Vk Qk ?_|refine cl (NH) ?_|refine gx ?_|fail)
     exact ⟨q2 - 1,by omega,i+1,_,_,_,rfl,rfl,.inr (by rw [e1];rfl),by omega⟩
   ·rw [g5,if_neg (by simp)] at e1
    refine gr ?_;exact ⟨q2 - 1,by omega,i+1,_,_,_,rfl,rfl,by rw [e1];exact hw,by omega⟩
  ·have g4:=z8 g3
   refine gr ?_;refine ⟨q - 1,by omega,k+1,_,_,_,_,_,rfl,rfl,?_,by omega,by omega⟩;have:oN c st k i=aa c st (k+1):=by unfold oN;rw [q7 (by omega)];rfl
   rw [<- this];exact hw
 ·have g2:=z8 g1
  obtain rfl:k=n5.ns c:=by omega
  have Qk:=hw.as
  repeat' (first|refine Vk Qk ?_|refine gx ?_|fail)
  exact ⟨_,rfl,rfl⟩
end Go.Proofs.YtkmclibmmlgogaaGreat


/- Texts D52 D53 (made short by a program) -/
import Derived.Test.YtkmclibmmlgogaaGreatX1
set_option linter.unusedVariables false
set_option linter.unusedSimpArgs false
open List renaming drop_of_length_le → m7, mem_cons → B8, mem_singleton → p8
open Nat renaming le_refl → l5
namespace Go.Proofs.YtkmclibmmlgogaaGreat
open Go.u7 Go.u7.S
attribute [local irreducible] Rx Ry Rn Ex Pf
def l8:F9:=⟨0,8,8,8⟩
def pg (st:Int)(deps:List Int)(s:Int):Bool:=o8 s st||deps.any fun y=>o8 y s
theorem au2 (a0 a2 a3 a4 a5 a6:u5)(st s:Int)(deps:List Int)(hd:deps.length<=10000):Pm A 48 [.d (num s),.ptr 1 0,.ptr 7 0] [a0,.cells [.d (num st)],a2,a3,a4,a5,a6,.cells [A5 1 (fun n=>[num n]) deps]] l8 (.d (.bool (pg st deps s))) [a0,.cells [.d (num st)],a2,a3,a4,a5,a6,.cells [A5 1 (fun n=>[num n]) deps]]:=by
 have p49:=Us deps s (by omega)
 suffices h:Pq A 48 [.d (num s),.ptr 1 0,.ptr 7 0] [a0,.cells [.d (num st)],a2,a3,a4,a5,a6,.cells [A5 1 (fun n=>[num n]) deps]] l8 fun v H1=>v= .d (.bool (pg st deps s))/\H1=[a0,.cells [.d (num st)],a2,a3,a4,a5,a6,.cells [A5 1 (fun n=>[num n]) deps]] by
  obtain ⟨v,H1,⟨rfl,rfl⟩,h⟩:=h;exact h
 refine Pq.run (b:=8) [.d (num s),.ptr 1 0,.ptr 7 0,.any] rfl rfl rfl rfl rfl ?_;unfold pg
 repeat' (first|refine cl (p49) ?_|refine gx ?_|refine fk (h1:=fun hw=> ?_) (h2:=fun hw=> ?_)|refine M8 (h1:=fun hw=> ?_) (h2:=fun hw=> ?_)|refine Ex.J6 ?_|refine Ex.J8 ?_|refine Ex.cond rfl (fun ht=> ?_) (fun ht=> ?_)|refine Ex.test (Rn.text ?_)|refine Ex.test (Rn.draw ?_)|refine ⟨_,rfl,fun ht=> ?_,fun ht=> ?_⟩|refine ⟨_,rfl,?_⟩|fail)
 all_goals exact ⟨_,_,rfl,by simp [*,b9],rfl⟩
def Mh (st:Int)(deps:List Int):List Int->Nat->Int
 |[],_=> -1
 |y::r,i=>if pg st deps y then i else Mh st deps r (i+1)
theorem HO (st:Int)(deps:List Int):∀ (l:List Int) (i:Nat),X4 0 (Mh st deps l i)=l.any (pg st deps)
 |[],i=>by simp [Mh,o5]
 |y::r,i=>by
  have h1:=HO st deps r (i+1);simp only [Mh,List.any_cons];cases h3:pg st deps y with
  |true=>simp [o5]
  |false=>simpa using h1
set_option maxHeartbeats 2000000 in
theorem au3 (a0 a2 a3 a4 a5 a6:u5)(st:Int)(deps ys:List Int)(hd:deps.length<=10000)(hy:ys.length<=1000):Pm A 81 [.d (ints ys),.func 48 [] [.ptr 1 0,.ptr 7 0]] [a0,.cells [.d (num st)],a2,a3,a4,a5,a6,.cells [A5 1 (fun n=>[num n]) deps]] l8 (.d (num (Mh st deps ys 0))) [a0,.cells [.d (num st)],a2,a3,a4,a5,a6,.cells [A5 1 (fun n=>[num n]) deps]]:=by
 suffices h:Pq A 81 [.d (ints ys),.func 48 [] [.ptr 1 0,.ptr 7 0]] [a0,.cells [.d (num st)],a2,a3,a4,a5,a6,.cells [A5 1 (fun n=>[num n]) deps]] l8 fun v H1=>v= .d (num (Mh st deps ys 0))/\H1=[a0,.cells [.d (num st)],a2,a3,a4,a5,a6,.cells [A5 1 (fun n=>[num n]) deps]] by
  obtain ⟨v,H1,⟨rfl,rfl⟩,h⟩:=h;exact h
 refine Pq.run (b:=8) [.d (ints ys),.func 48 [] [.ptr 1 0,.ptr 7 0],.any,.any,.any,.any] rfl rfl rfl rfl rfl ?_;refine gr ?_;refine Ex.I7 (fun k T H=>∃ (i:Nat) (v w:b6),T=[.d (ints ys),.func 48 [] [.ptr 1 0,.ptr 7 0],v,w,.d (num ys.length),.d (num i)]/\H=[a0,.cells [.d (num st)],a2,a3,a4,a5,a6,.cells [A5 1 (fun n=>[num n]) deps]]/\i+k=ys.length/\Mh st deps ys 0=Mh st deps (ys.drop i) i) (by rintro _ _ _ ⟨_,_,_,_,rfl,_⟩;rfl) ?_ (k:=ys.length) ⟨0,_,_,rfl,rfl,by simp,by simp⟩;rintro k _ _ ⟨i,v,w,rfl,rfl,hk,hi⟩;refine Ex.nT ?_;refine Ex.seq ?_;refine tb (C2 i ys.length) (fun h1=> ?_) (fun h1=> ?_)
 ·have h2:=z6 h1
  rw [A4 (by omega)] at hi;have p1:=au2 a0 a2 a3 a4 a5 a6 st (nth ys i) deps hd;refine gr ?_;refine tB (pg st deps (nth ys i)) ?_ (fun h3=> ?_) (fun h3=> ?_)
  ·repeat' (first|refine WY p1 rfl ?_|refine gx ?_|refine fk (h1:=fun hw=> ?_) (h2:=fun hw=> ?_)|refine M8 (h1:=fun hw=> ?_) (h2:=fun hw=> ?_)|refine ⟨rfl,rfl,_,rfl,?_⟩|refine ⟨rfl,rfl⟩|fail)
   all_goals exact cc
  ·refine gr ?_
   exact ⟨_,_,rfl,by rw [hi,Mh,h3];rfl,rfl⟩
  ·refine gr ?_
   exact ⟨k - 1,by omega,i+1,_,_,rfl,rfl,by omega,by rw [hi,Mh,h3];rfl⟩
 ·have h2:=z8 h1
  rw [m7 (by omega)] at hi;refine gr ?_;exact ⟨_,_,rfl,by rw [hi];rfl,rfl⟩
theorem au1 (a0 a2 a3 a4 a5 a6:u5)(st:Int)(deps ys:List Int)(hd:deps.length<=10000)(hy:ys.length<=1000):Pm A 47 [.d (ints ys),.func 48 [] [.ptr 1 0,.ptr 7 0]] [a0,.cells [.d (num st)],a2,a3,a4,a5,a6,.cells [A5 1 (fun n=>[num n]) deps]] l8 (.d (.bool (ys.any (pg st deps)))) [a0,.cells [.d (num st)],a2,a3,a4,a5,a6,.cells [A5 1 (fun n=>[num n]) deps]]:=by
 have p1:=au3 a0 a2 a3 a4 a5 a6 st deps ys hd hy;rw [<- HO st deps ys 0]
 suffices h:Pq A 47 [.d (ints ys),.func 48 [] [.ptr 1 0,.ptr 7 0]] [a0,.cells [.d (num st)],a2,a3,a4,a5,a6,.cells [A5 1 (fun n=>[num n]) deps]] l8 fun v H1=>v= .d (.bool (X4 0 (Mh st deps ys 0)))/\H1=[a0,.cells [.d (num st)],a2,a3,a4,a5,a6,.cells [A5 1 (fun n=>[num n]) deps]] by
  obtain ⟨v,H1,⟨rfl,rfl⟩,h⟩:=h;exact h
 refine Pq.run (b:=8) [.d (ints ys),.func 48 [] [.ptr 1 0,.ptr 7 0],.any] rfl rfl rfl rfl rfl ?_
 repeat' (first|refine c1 p1 rfl ?_|refine gx ?_|fail)
 exact ⟨_,_,rfl,rfl,rfl⟩
def cJ (c:m9)(st:Int):Nat->List Int
 |0=>[]
 |k+1=>cJ c st k++(if (jV c k).any (pg st (cJ c st k)) then [(k:Int)] else [])
theorem kQ (c:m9)(st:Int):∀ k,(cJ c st k).length<=k
 |0=>l5 _
 |k+1=>by
  have:=kQ c st k;simp only [cJ];split<;>simp<;>omega
theorem Kj :∀ v ns,(lY v ns).length<=2:=fun v ns=>by
 unfold lY;refine Nat.le_trans (kP _) ?_;rw [jj];split<;>simp
theorem DZ (c:m9)(n:Int):(jV c n).length<=2:=by
 unfold jV;split
 ·simp
 ·exact Kj _ _
theorem BM {c:m9}(hv:M7 c=true){k:Nat}(hk:k<m9.ns c):∀ s,s ∈ jV c k->0<=s/\s<k:=by
 intro s hs;unfold jV at hs;split at hs
 ·simp at hs
 ·rename_i ht
  have ht:(c.j3.length:Int)<=k:=by simpa [o9] using ht
  have h2:=(mh hv).2.2 k (by omega) hk;rw [show (((k:Nat):Int) - c.j3.length).toNat=k - c.j3.length by omega] at hs;have h3:=(mV _ _).1 ((pV _ _).1 hs);have b1:=G8 c (nth c.views (k - c.j3.length)).left k;have b2:=G8 c (nth c.views (k - c.j3.length)).right k;split at h3
  ·simp only [p8] at h3
   rw [vi h2.1] at h3;omega
  ·rename_i g
   have g:I9 (nth c.views (k - c.j3.length)).right []=false:=by simpa using g
   simp only [B8,List.not_mem_nil,or_false] at h3;rw [vi h2.1,vi (h2.2 g)] at h3;have:=h2.2 g;omega
theorem yL {c:m9}(hv:M7 c=true){st:Nat}:∀ k,k<=st+1->k<=m9.ns c->cJ c st k=[]
 |0,_,_=>rfl
 |k+1,h,h2=>by
  have ih:=yL hv (st:=st) k (by omega) (by omega);simp only [cJ,ih,List.nil_append];have e:((jV c k).any (pg st []))=false:=by
   rw [List.any_eq_false];intro s hs;have:=BM hv (k:=k) (by omega) s hs;unfold pg;simp [j5];omega
  rw [e];rfl
def HD (c:m9)(st:Int)(x:b6):o6:=[.cells (c.enc.map .d),.cells [.d (num st)],.cells (c.enc.map .d),.map (dmap c.names),.map (R1 ((z7 c (m9.ns c)).map (·.1)) 0),.cells (c.enc.map .d++[.map 3,.map 4,A5 2 E9 (z7 c (m9.ns c))]),.cells (fB.P4 c),.cells [x]]
theorem Tn (c:m9)(st:Int)(x:b6)(hx:x.M3=0):W8 (HD c st x)<=8:=by
 have h1:=cK c.names;have h2:=cS ((z7 c (m9.ns c)).map (·.1)) 0;have e0:y9 [b6.d (num st)]=0:=rfl;have e1:y9 (c.enc.map b6.d)=0:=rfl;have e2:y9 (c.enc.map b6.d++[.map 3,.map 4,A5 2 E9 (z7 c (m9.ns c))])=5:=rfl;have e3:y9 (fB.P4 c)=6:=rfl;have e4:y9 [x]=0:=by simp [y9,hx]
 simp only [HD,W8,u5.M3,h1,h2,e0,e1,e2,e3,e4]
 decide
theorem PG (c:m9)(st:Int)(x:b6)(hx:x.M3=0):O1 (HD c st x) 0=true:=by
 have h1:=cK c.names;have h2:=cS ((z7 c (m9.ns c)).map (·.1)) 0;have e0:y9 [b6.d (num st)]=0:=rfl;have e1:y9 (c.enc.map b6.d)=0:=rfl;have e2:y9 (c.enc.map b6.d++[.map 3,.map 4,A5 2 E9 (z7 c (m9.ns c))])=5:=rfl;have e3:y9 (fB.P4 c)=6:=rfl;have e4:y9 [x]=0:=by simp [y9,hx]
 simp only [HD,O1,u5.M3,h1,h2,e0,e1,e2,e3,e4]
 decide
section
variable {b:Nat} {dr:Bool} {j4 ops:List n8} {T:List b6} {n:Nat} {rl:List b6} {n5:List u7.Touch} {Q:List b6->o6->List b6->Prop}
theorem ckD {c:m9}{st:Int}{x:b6}{f:FuncId}{xs:List r8}{u:List Nat}{v:b6}{args:List b6}(hc:Pm A f args (@fB.HH ⟨⟨st⟩⟩ c c.names (z7 c (m9.ns c))) fB.lR v (@fB.HH ⟨⟨st⟩⟩ c c.names (z7 c (m9.ns c))))(h2:Ry A bK b dr j4 ops T (HD c st x) (n+1) (v::rl) n5 Q)
  (ha:xs.map (rq T n rl)=args:=by rfl) (hb:y9 args=6:=by rfl) (dc:A.prom f=false:=by rfl) (hm:A.mode f=1:=by rfl):Ry A bK b dr j4 (⟨.call f xs,none,none,u⟩::ops) T (HD c st x) n rl n5 Q :=
 @fB.ck ⟨⟨st⟩⟩ b dr j4 ops T n rl n5 Q c c.names (z7 c (m9.ns c)) [.cells (fB.P4 c),.cells [x]] f xs u v args hc h2 ha hb dc hm
theorem ckE {c:m9}{st:Int}{x:b6}{f:FuncId}{xs:List r8}{u:List Nat}{v:b6}{args:List b6}(hx:x.M3=0)(hc:Pm A f args (HD c st x) l8 v (HD c st x))(h2:Ry A bK b dr j4 ops T (HD c st x) (n+1) (v::rl) n5 Q)
  (ha:xs.map (rq T n rl)=args:=by rfl) (hb:y9 args=8:=by rfl) (dc:A.prom f=false:=by rfl) (hm:A.mode f=1:=by rfl):Ry A bK b dr j4 (⟨.call f xs,none,none,u⟩::ops) T (HD c st x) n rl n5 Q:=by
 have hb8:=Tn c st x hx;have hd8:=PG c st x hx;refine c1 hc rfl h2 (m:=8) ?_ ?_ rfl rfl ?_ ha dc hm
 ·show W8 (HD c st x)<=8
  exact hb8
 ·rw [hb]
  exact fF (by show W8 (HD c st x)<=8;exact hb8)
 ·show F9.mk 0 8 8 (B5 _ 0 8)=l8
  have:B5 (HD c st x) 0 8=8:=by
   unfold B5;rw [if_neg (by decide),if_pos (by show O1 (HD c st x) 0=true;exact hd8)]
  rw [this];rfl
end
set_option maxHeartbeats 8000000 in
theorem SC (c:m9)(hs:E8 c)(st:Nat)(h:dA c st=true):Pf A 20 [cat c,.d (num st)] (.d (ints (cJ c st (m9.ns c)))):=by
 letI:Inhabited fB.XO:=⟨⟨st⟩⟩
 obtain ⟨v,H1,hp,FB⟩:=fB.zk c hs;have hle:=fB.ru hp;obtain ⟨_,hp1,hp2⟩:=hp;obtain ⟨e,h2,h3⟩:=mS h;have hv:=Be h;obtain ⟨f0,f1,f2,f3,f4,f5,f6,f7⟩:=id hs.sm.fI;have aN:m9.ns c=c.j3.length+c.views.length:=rfl;obtain ⟨rfl,rfl⟩:=hp2 e;have h6:=C4 c (m9.ns c);have MZ:=fB.Np c c.names (z7 c (m9.ns c)) st;rw [C4,h2] at MZ;refine Pf.run [cat c,.d (num st),.any,.any,.any,.any,.any,.any,.any] rfl rfl rfl rfl ?_
 repeat' (first|refine cp FB hle ?_|refine gx ?_|fail)
 refine tB (false) ?_ (fun h1=> ?_) (fun h1=> ?_)
 ·repeat' (first|refine fB.ck MZ ?_|refine gx ?_|refine fk (h1:=fun hw=> ?_) (h2:=fun hw=> ?_)|refine M8 (h1:=fun hw=> ?_) (h2:=fun hw=> ?_)|refine ⟨rfl,rfl,_,rfl,?_⟩|refine ⟨rfl,rfl⟩|fail)
  all_goals exact cc
 ·cases h1
 refine gr ?_;refine ac (id:=7) (H2:=HD c st (A5 1 (fun n=>[num n]) [])) (h2:= ?_) (hi:=rfl) (hH:=rfl);refine gr ?_;refine Ex.I7 (fun q T H=>∃ (k:Nat) (w0 w1 w2 w4 w6:b6),T=[w0,w1,w2,.ptr 1 0,w4,.ptr 5 0,w6,.ptr 7 0,.d (num k)]/\H=HD c st (A5 1 (fun n=>[num n]) (cJ c st k))/\k+q=m9.ns c/\st+1<=k) (by rintro _ _ _ ⟨_,_,_,_,_,_,_,rfl,_⟩;rfl) ?_ (k:=m9.ns c - (st+1)) ⟨st+1,_,_,_,_,_,rfl,by rw [yL hv _ (l5 _) (by omega)],by omega,l5 _⟩;rintro q _ _ ⟨k,w0,w1,w2,w4,w6,rfl,rfl,hq,hk⟩;refine Ex.nT ?_;refine Ex.seq ?_;refine tB (C2 k (m9.ns c)) ?_ (fun g1=> ?_) (fun g1=> ?_)
 ·repeat' (first|refine cl (h6) ?_|refine gx ?_|refine fk (h1:=fun hw=> ?_) (h2:=fun hw=> ?_)|refine M8 (h1:=fun hw=> ?_) (h2:=fun hw=> ?_)|refine ⟨rfl,rfl,_,rfl,?_⟩|refine ⟨rfl,rfl⟩|fail)
  all_goals exact cc
 ·have g2:=z6 g1
  have p45:=fB.Uu c c.names k (by omega) f1;have p47:=au1 (.cells (c.enc.map .d)) (.cells (c.enc.map .d)) (.map (dmap c.names)) (.map (R1 ((z7 c (m9.ns c)).map (·.1)) 0)) (.cells (c.enc.map .d++[.map 3,.map 4,A5 2 E9 (z7 c (m9.ns c))])) (.cells (fB.P4 c)) st (cJ c st k) (jV c k) (by have:=kQ c st k;omega) (by have:=DZ c k;omega);refine gr ?_;refine tB ((jV c k).any (pg st (cJ c st k))) ?_ (fun g3=> ?_) (fun g3=> ?_)
  ·repeat' (first|refine ckD p45 ?_|refine ckE rfl p47 ?_|refine gx ?_|refine fk (h1:=fun hw=> ?_) (h2:=fun hw=> ?_)|refine M8 (h1:=fun hw=> ?_) (h2:=fun hw=> ?_)|refine ⟨rfl,rfl,_,rfl,?_⟩|refine ⟨rfl,rfl⟩|fail)
   all_goals exact cc
  ·have hr:roomFor ((cJ c st k).length+1) 8=true:=by have:=kQ c st k;simp only [roomFor,decide_eq_true_eq];omega
   have e1:cJ c st (k+1)=cJ c st k++[(k:Int)]:=by simp only [cJ];rw [g3];rfl
   refine gr ?_;refine ab9 (a:=(k:Int)) (xs:=cJ c st k) (enc:=fun n=>[num n]) (H2:=HD c st (.d (ints (cJ c st k)))) hr rfl (hH:=rfl) (h2:= ?_);refine Zq (H2:=HD c st (A5 1 (fun n=>[num n]) (cJ c st k++[(k:Int)]))) (hH:=rfl) (h2:= ?_);refine gr ?_;exact ⟨q - 1,by omega,k+1,_,_,_,_,_,rfl,by rw [e1],by omega,by omega⟩
  ·have e1:cJ c st (k+1)=cJ c st k:=by simp only [cJ];rw [g3];simp
   refine gr ?_;exact ⟨q - 1,by omega,k+1,_,_,_,_,_,rfl,by rw [e1],by omega,by omega⟩
 ·have g2:=z8 g1
  obtain rfl:k=m9.ns c:=by omega
  refine gr ?_;exact ⟨_,rfl,rfl⟩
end Go.Proofs.YtkmclibmmlgogaaGreat


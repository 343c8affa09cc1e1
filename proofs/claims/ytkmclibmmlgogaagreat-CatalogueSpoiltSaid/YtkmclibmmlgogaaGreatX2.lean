/- Texts D52 D53 (made short by a program) -/
import Derived.Test.YtkmclibmmlgogaaGreatX1
set_option linter.unusedVariables false
set_option linter.unusedSimpArgs false
open List renaming cons_append → L6, drop_of_length_le → k9, mem_cons → C6, mem_singleton → B0, take_of_length_le → q5
open Nat renaming le_refl → n5
namespace Go.Proofs.YtkmclibmmlgogaaGreat
open Go.y3 Go.y3.S
attribute [local irreducible] Rx Ry Rn Ex Pf
def l8:G9:=⟨0,8,8,8⟩
def jB (st:Int)(deps:List Int)(s:Int):Bool:=o9 s st||deps.any fun y=>o9 y s
theorem aO9 (a0 a2 a3 a4 a5 a6:y7)(st s:Int)(deps:List Int)(hd:deps.length<=10000):Pm A 48 [.d (num s),.ptr 1 0,.ptr 7 0] [a0,.cells [.d (num st)],a2,a3,a4,a5,a6,.cells [B3 1 (fun n=>[num n]) deps]] l8 (.d (.bool (jB st deps s))) [a0,.cells [.d (num st)],a2,a3,a4,a5,a6,.cells [B3 1 (fun n=>[num n]) deps]]:=by
 have p49:=XU deps s (by omega)
 suffices h:Pq A 48 [.d (num s),.ptr 1 0,.ptr 7 0] [a0,.cells [.d (num st)],a2,a3,a4,a5,a6,.cells [B3 1 (fun n=>[num n]) deps]] l8 fun v H1=>v= .d (.bool (jB st deps s))/\H1=[a0,.cells [.d (num st)],a2,a3,a4,a5,a6,.cells [B3 1 (fun n=>[num n]) deps]] by
  obtain ⟨v,H1,⟨rfl,rfl⟩,h⟩:=h;exact h
 refine Pq.run (b:=8) [.d (num s),.ptr 1 0,.ptr 7 0,.any] rfl rfl rfl rfl rfl ?_;unfold jB
 repeat' (first|refine cl (p49) ?_|refine gx ?_|refine fk (h1:=fun hw=> ?_) (h2:=fun hw=> ?_)|refine L7 (h1:=fun hw=> ?_) (h2:=fun hw=> ?_)|refine Ex.H7 ?_|refine Ex.H8 ?_|refine Ex.cond rfl (fun ht=> ?_) (fun ht=> ?_)|refine Ex.test (Rn.text ?_)|refine Ex.test (Rn.draw ?_)|refine ⟨_,rfl,fun ht=> ?_,fun ht=> ?_⟩|refine ⟨_,rfl,?_⟩|fail)
 all_goals exact ⟨_,_,rfl,by simp [*,b8],rfl⟩
def OE (st:Int)(deps:List Int):List Int->Nat->Int
 |[],_=> -1
 |y::r,i=>if jB st deps y then i else OE st deps r (i+1)
theorem JF (st:Int)(deps:List Int):∀ (l:List Int) (i:Nat),W8 0 (OE st deps l i)=l.any (jB st deps)
 |[],i=>by simp [OE,p4]
 |y::r,i=>by
  have h1:=JF st deps r (i+1);simp only [OE,List.any_cons];cases h3:jB st deps y with
  |true=>simp [p4]
  |false=>simpa using h1
set_option maxHeartbeats 2000000 in
theorem aP0 (a0 a2 a3 a4 a5 a6:y7)(st:Int)(deps ys:List Int)(hd:deps.length<=10000)(hy:ys.length<=1000):Pm A 81 [.d (ints ys),.func 48 [] [.ptr 1 0,.ptr 7 0]] [a0,.cells [.d (num st)],a2,a3,a4,a5,a6,.cells [B3 1 (fun n=>[num n]) deps]] l8 (.d (num (OE st deps ys 0))) [a0,.cells [.d (num st)],a2,a3,a4,a5,a6,.cells [B3 1 (fun n=>[num n]) deps]]:=by
 suffices h:Pq A 81 [.d (ints ys),.func 48 [] [.ptr 1 0,.ptr 7 0]] [a0,.cells [.d (num st)],a2,a3,a4,a5,a6,.cells [B3 1 (fun n=>[num n]) deps]] l8 fun v H1=>v= .d (num (OE st deps ys 0))/\H1=[a0,.cells [.d (num st)],a2,a3,a4,a5,a6,.cells [B3 1 (fun n=>[num n]) deps]] by
  obtain ⟨v,H1,⟨rfl,rfl⟩,h⟩:=h;exact h
 refine Pq.run (b:=8) [.d (ints ys),.func 48 [] [.ptr 1 0,.ptr 7 0],.any,.any,.any,.any] rfl rfl rfl rfl rfl ?_;refine gr ?_;refine Ex.J0 (fun k T H=>∃ (i:Nat) (v w:b6),T=[.d (ints ys),.func 48 [] [.ptr 1 0,.ptr 7 0],v,w,.d (num ys.length),.d (num i)]/\H=[a0,.cells [.d (num st)],a2,a3,a4,a5,a6,.cells [B3 1 (fun n=>[num n]) deps]]/\i+k=ys.length/\OE st deps ys 0=OE st deps (ys.drop i) i) (by rintro _ _ _ ⟨_,_,_,_,rfl,_⟩;rfl) ?_ (k:=ys.length) ⟨0,_,_,rfl,rfl,by simp,by simp⟩;rintro k _ _ ⟨i,v,w,rfl,rfl,hk,hi⟩;refine Ex.nT ?_;refine Ex.seq ?_;refine tb (C9 i ys.length) (fun h1=> ?_) (fun h1=> ?_)
 ·have h2:=y9 h1
  rw [A2 (by omega)] at hi;have p1:=aO9 a0 a2 a3 a4 a5 a6 st (nth ys i) deps hd;refine gr ?_;refine tB (jB st deps (nth ys i)) ?_ (fun h3=> ?_) (fun h3=> ?_)
  ·repeat' (first|refine cv1 p1 rfl ?_|refine gx ?_|refine fk (h1:=fun hw=> ?_) (h2:=fun hw=> ?_)|refine L7 (h1:=fun hw=> ?_) (h2:=fun hw=> ?_)|refine ⟨rfl,rfl,_,rfl,?_⟩|refine ⟨rfl,rfl⟩|fail)
   all_goals exact cc
  ·refine gr ?_
   exact ⟨_,_,rfl,by rw [hi,OE,h3];rfl,rfl⟩
  ·refine gr ?_
   exact ⟨k - 1,by omega,i+1,_,_,rfl,rfl,by omega,by rw [hi,OE,h3];rfl⟩
 ·have h2:=y8 h1
  rw [k9 (by omega)] at hi;refine gr ?_;exact ⟨_,_,rfl,by rw [hi];rfl,rfl⟩
theorem aO8 (a0 a2 a3 a4 a5 a6:y7)(st:Int)(deps ys:List Int)(hd:deps.length<=10000)(hy:ys.length<=1000):Pm A 47 [.d (ints ys),.func 48 [] [.ptr 1 0,.ptr 7 0]] [a0,.cells [.d (num st)],a2,a3,a4,a5,a6,.cells [B3 1 (fun n=>[num n]) deps]] l8 (.d (.bool (ys.any (jB st deps)))) [a0,.cells [.d (num st)],a2,a3,a4,a5,a6,.cells [B3 1 (fun n=>[num n]) deps]]:=by
 have p1:=aP0 a0 a2 a3 a4 a5 a6 st deps ys hd hy;rw [<- JF st deps ys 0]
 suffices h:Pq A 47 [.d (ints ys),.func 48 [] [.ptr 1 0,.ptr 7 0]] [a0,.cells [.d (num st)],a2,a3,a4,a5,a6,.cells [B3 1 (fun n=>[num n]) deps]] l8 fun v H1=>v= .d (.bool (W8 0 (OE st deps ys 0)))/\H1=[a0,.cells [.d (num st)],a2,a3,a4,a5,a6,.cells [B3 1 (fun n=>[num n]) deps]] by
  obtain ⟨v,H1,⟨rfl,rfl⟩,h⟩:=h;exact h
 refine Pq.run (b:=8) [.d (ints ys),.func 48 [] [.ptr 1 0,.ptr 7 0],.any] rfl rfl rfl rfl rfl ?_
 repeat' (first|refine c1 p1 rfl ?_|refine gx ?_|fail)
 exact ⟨_,_,rfl,rfl,rfl⟩
def an (c:m8)(st:Int):Nat->List Int
 |0=>[]
 |k+1=>an c st k++(if (aG c k).any (jB st (an c st k)) then [(k:Int)] else [])
theorem mg (c:m8)(st:Int):∀ k,(an c st k).length<=k
 |0=>n5 _
 |k+1=>by
  have:=mg c st k;simp only [an];split<;>simp<;>omega
theorem AB :∀ v ns,(ov v ns).length<=2:=fun v ns=>by
 unfold ov;refine Nat.le_trans (me _) ?_;rw [jS];split<;>simp
theorem FK (c:m8)(n:Int):(aG c n).length<=2:=by
 unfold aG;split
 ·simp
 ·exact AB _ _
theorem Ks {c:m8}(hv:J3 c=true){k:Nat}(hk:k<m8.ns c):∀ s,s ∈ aG c k->0<=s/\s<k:=by
 intro s hs;unfold aG at hs;split at hs
 ·simp at hs
 ·rename_i ht
  have ht:(c.j3.length:Int)<=k:=by simpa [p5] using ht
  have h2:=(fC hv).2.2 k (by omega) hk;rw [show (((k:Nat):Int) - c.j3.length).toNat=k - c.j3.length by omega] at hs;have h3:=(tD _ _).1 ((qX _ _).1 hs);have b1:=I6 c (nth c.views (k - c.j3.length)).left k;have b2:=I6 c (nth c.views (k - c.j3.length)).right k;split at h3
  ·simp only [B0] at h3
   rw [mB h2.1] at h3;omega
  ·rename_i g
   have g:J2 (nth c.views (k - c.j3.length)).right []=false:=by simpa using g
   simp only [C6,List.not_mem_nil,or_false] at h3;rw [mB h2.1,mB (h2.2 g)] at h3;have:=h2.2 g;omega
theorem AE {c:m8}(hv:J3 c=true){st:Nat}:∀ k,k<=st+1->k<=m8.ns c->an c st k=[]
 |0,_,_=>rfl
 |k+1,h,h2=>by
  have ih:=AE hv (st:=st) k (by omega) (by omega);simp only [an,ih,List.nil_append];have e:((aG c k).any (jB st []))=false:=by
   rw [List.any_eq_false];intro s hs;have:=Ks hv (k:=k) (by omega) s hs;unfold jB;simp [j9];omega
  rw [e];rfl
theorem AF (c:m8)(st:Int):∀ k,k<=c.j3.length->an c st k=[]
 |0,_=>rfl
 |k+1,h=>by
  have ih:=AF c st k (by omega);have:aG c k=[]:=by unfold aG;rw [if_pos (by rw [p5];simp;omega)]
  simp [an,ih,this]
def HD (c:m8)(st:Int)(x:b6):o6:=[.cells (c.enc.map .d),.cells [.d (num st)],.cells (c.enc.map .d),.map (dmap c.names),.map (T3 ((A0 c (m8.ns c)).map (·.1)) 0),.cells (c.enc.map .d++[.map 3,.map 4,B3 2 F9 (A0 c (m8.ns c))]),.cells (dU.Q9 c),.cells [x]]
theorem Wu (c:m8)(st:Int)(x:b6)(hx:x.N4=0):Y6 (HD c st x)<=8:=by
 have h1:=dm c.names;have h2:=dG ((A0 c (m8.ns c)).map (·.1)) 0;have e0:A4 [b6.d (num st)]=0:=rfl;have e1:A4 (c.enc.map b6.d)=0:=rfl;have e2:A4 (c.enc.map b6.d++[.map 3,.map 4,B3 2 F9 (A0 c (m8.ns c))])=5:=rfl;have e3:A4 (dU.Q9 c)=6:=rfl;have e4:A4 [x]=0:=by simp [A4,hx]
 simp only [HD,Y6,y7.N4,h1,h2,e0,e1,e2,e3,e4]
 decide
theorem SH (c:m8)(st:Int)(x:b6)(hx:x.N4=0):P8 (HD c st x) 0=true:=by
 have h1:=dm c.names;have h2:=dG ((A0 c (m8.ns c)).map (·.1)) 0;have e0:A4 [b6.d (num st)]=0:=rfl;have e1:A4 (c.enc.map b6.d)=0:=rfl;have e2:A4 (c.enc.map b6.d++[.map 3,.map 4,B3 2 F9 (A0 c (m8.ns c))])=5:=rfl;have e3:A4 (dU.Q9 c)=6:=rfl;have e4:A4 [x]=0:=by simp [A4,hx]
 simp only [HD,P8,y7.N4,h1,h2,e0,e1,e2,e3,e4]
 decide
section
variable {b:Nat} {dr:Bool} {j4 ops:List n8} {T:List b6} {n:Nat} {rl:List b6} {n6:List y3.Touch} {Q:List b6->o6->List b6->Prop}
theorem ckD {c:m8}{st:Int}{x:b6}{f:FuncId}{xs:List q7}{u:List Nat}{v:b6}{args:List b6}(hc:Pm A f args (@dU.HH ⟨⟨st⟩⟩ c c.names (A0 c (m8.ns c))) dU.lR v (@dU.HH ⟨⟨st⟩⟩ c c.names (A0 c (m8.ns c))))(h2:Ry A cB b dr j4 ops T (HD c st x) (n+1) (v::rl) n6 Q)
  (ha:xs.map (rq T n rl)=args:=by rfl) (hb:A4 args=6:=by rfl) (fR:A.prom f=false:=by rfl) (hm:A.mode f=1:=by rfl):Ry A cB b dr j4 (⟨.call f xs,none,none,u⟩::ops) T (HD c st x) n rl n6 Q :=
 @dU.ck ⟨⟨st⟩⟩ b dr j4 ops T n rl n6 Q c c.names (A0 c (m8.ns c)) [.cells (dU.Q9 c),.cells [x]] f xs u v args hc h2 ha hb fR hm
theorem ckE {c:m8}{st:Int}{x:b6}{f:FuncId}{xs:List q7}{u:List Nat}{v:b6}{args:List b6}(hx:x.N4=0)(hc:Pm A f args (HD c st x) l8 v (HD c st x))(h2:Ry A cB b dr j4 ops T (HD c st x) (n+1) (v::rl) n6 Q)
  (ha:xs.map (rq T n rl)=args:=by rfl) (hb:A4 args=8:=by rfl) (fR:A.prom f=false:=by rfl) (hm:A.mode f=1:=by rfl):Ry A cB b dr j4 (⟨.call f xs,none,none,u⟩::ops) T (HD c st x) n rl n6 Q:=by
 have hb8:=Wu c st x hx;have hd8:=SH c st x hx;refine c1 hc rfl h2 (m:=8) ?_ ?_ rfl rfl ?_ ha fR hm
 ·show Y6 (HD c st x)<=8
  exact hb8
 ·rw [hb]
  exact gu (by show Y6 (HD c st x)<=8;exact hb8)
 ·show G9.mk 0 8 8 (C8 _ 0 8)=l8
  have:C8 (HD c st x) 0 8=8:=by
   unfold C8;rw [if_neg (by decide),if_pos (by show P8 (HD c st x) 0=true;exact hd8)]
  rw [this];rfl
end
set_option maxHeartbeats 8000000 in
theorem VG (c:m8)(hs:B6 c)(st:Nat)(h:P9 c st=true):Pf A 20 [cat c,.d (num st)] (.d (ints (an c st (m8.ns c)))):=by
 letI:Inhabited dU.XO:=⟨⟨st⟩⟩
 obtain ⟨v,H1,hp,pQ⟩:=dU.mT c hs;have hle:=dU.gH hp;obtain ⟨_,hp1,hp2⟩:=hp;obtain ⟨e,h2,h3⟩:=cq h;have hv:=gf h;obtain ⟨f0,f1,f2,f3,f4,f5,f6,f7⟩:=id hs.sm.fI;have cz:m8.ns c=c.j3.length+c.views.length:=rfl;obtain ⟨rfl,rfl⟩:=hp2 e;have h6:=D0 c (m8.ns c);have tG:=dU.CZ c c.names (A0 c (m8.ns c)) st;rw [D0,h2] at tG;refine Pf.run [cat c,.d (num st),.any,.any,.any,.any,.any,.any,.any] rfl rfl rfl rfl ?_
 repeat' (first|refine cp pQ hle ?_|refine gx ?_|fail)
 refine tB (false) ?_ (fun h1=> ?_) (fun h1=> ?_)
 ·repeat' (first|refine dU.ck tG ?_|refine gx ?_|refine fk (h1:=fun hw=> ?_) (h2:=fun hw=> ?_)|refine L7 (h1:=fun hw=> ?_) (h2:=fun hw=> ?_)|refine ⟨rfl,rfl,_,rfl,?_⟩|refine ⟨rfl,rfl⟩|fail)
  all_goals exact cc
 ·cases h1
 refine gr ?_;refine ac (id:=7) (H2:=HD c st (B3 1 (fun n=>[num n]) [])) (h2:= ?_) (hi:=rfl) (hH:=rfl);refine gr ?_;refine Ex.J0 (fun q T H=>∃ (k:Nat) (w0 w1 w2 w4 w6:b6),T=[w0,w1,w2,.ptr 1 0,w4,.ptr 5 0,w6,.ptr 7 0,.d (num k)]/\H=HD c st (B3 1 (fun n=>[num n]) (an c st k))/\k+q=m8.ns c/\st+1<=k) (by rintro _ _ _ ⟨_,_,_,_,_,_,_,rfl,_⟩;rfl) ?_ (k:=m8.ns c - (st+1)) ⟨st+1,_,_,_,_,_,rfl,by rw [AE hv _ (n5 _) (by omega)],by omega,n5 _⟩;rintro q _ _ ⟨k,w0,w1,w2,w4,w6,rfl,rfl,hq,hk⟩;refine Ex.nT ?_;refine Ex.seq ?_;refine tB (C9 k (m8.ns c)) ?_ (fun g1=> ?_) (fun g1=> ?_)
 ·repeat' (first|refine cl (h6) ?_|refine gx ?_|refine fk (h1:=fun hw=> ?_) (h2:=fun hw=> ?_)|refine L7 (h1:=fun hw=> ?_) (h2:=fun hw=> ?_)|refine ⟨rfl,rfl,_,rfl,?_⟩|refine ⟨rfl,rfl⟩|fail)
  all_goals exact cc
 ·have g2:=y9 g1
  have p45:=dU.XX c c.names k (by omega) f1;have p47:=aO8 (.cells (c.enc.map .d)) (.cells (c.enc.map .d)) (.map (dmap c.names)) (.map (T3 ((A0 c (m8.ns c)).map (·.1)) 0)) (.cells (c.enc.map .d++[.map 3,.map 4,B3 2 F9 (A0 c (m8.ns c))])) (.cells (dU.Q9 c)) st (an c st k) (aG c k) (by have:=mg c st k;omega) (by have:=FK c k;omega);refine gr ?_;refine tB ((aG c k).any (jB st (an c st k))) ?_ (fun g3=> ?_) (fun g3=> ?_)
  ·repeat' (first|refine ckD p45 ?_|refine ckE rfl p47 ?_|refine gx ?_|refine fk (h1:=fun hw=> ?_) (h2:=fun hw=> ?_)|refine L7 (h1:=fun hw=> ?_) (h2:=fun hw=> ?_)|refine ⟨rfl,rfl,_,rfl,?_⟩|refine ⟨rfl,rfl⟩|fail)
   all_goals exact cc
  ·have hr:roomFor ((an c st k).length+1) 8=true:=by have:=mg c st k;simp only [roomFor,decide_eq_true_eq];omega
   have e1:an c st (k+1)=an c st k++[(k:Int)]:=by simp only [an];rw [g3];rfl
   refine gr ?_;refine ax0 (a:=(k:Int)) (xs:=an c st k) (enc:=fun n=>[num n]) (H2:=HD c st (.d (ints (an c st k)))) hr rfl (hH:=rfl) (h2:= ?_);refine soO (H2:=HD c st (B3 1 (fun n=>[num n]) (an c st k++[(k:Int)]))) (hH:=rfl) (h2:= ?_);refine gr ?_;exact ⟨q - 1,by omega,k+1,_,_,_,_,_,rfl,by rw [e1],by omega,by omega⟩
  ·have e1:an c st (k+1)=an c st k:=by simp only [an];rw [g3];simp
   refine gr ?_;exact ⟨q - 1,by omega,k+1,_,_,_,_,_,rfl,by rw [e1],by omega,by omega⟩
 ·have g2:=y8 g1
  obtain rfl:k=m8.ns c:=by omega
  refine gr ?_;exact ⟨_,rfl,rfl⟩
theorem am2 (c:m8)(hs:B6 c)(n:Int)(h:P9 c n=false):Pf A 20 [cat c,.d (num n)] (.own 1 0 []):=by
 letI:Inhabited dU.XO:=⟨⟨n⟩⟩
 obtain ⟨v,H1,hp,pQ⟩:=dU.mT c hs;have hle:=dU.gH hp;obtain ⟨⟨R,hR⟩,hp1,hp2⟩:=hp;refine Pf.run [cat c,.d (num n),.any,.any,.any,.any,.any,.any,.any] rfl rfl rfl rfl ?_;cases e:o9 (L1 c).2 0 with
 |false =>
  obtain rfl:=hp1 e;subst hR
  repeat' (first|refine cp pQ hle ?_|refine gx ?_|fail)
  refine tB (true) ?_ (fun h1=> ?_) (fun h1=> ?_)
  ·repeat' (first|refine cl (e) ?_|refine gx ?_|refine fk (h1:=fun hw=> ?_) (h2:=fun hw=> ?_)|refine L7 (h1:=fun hw=> ?_) (h2:=fun hw=> ?_)|refine ⟨rfl,rfl,_,rfl,?_⟩|refine ⟨rfl,rfl⟩|fail)
   all_goals exact cc
  ·refine gr ?_
   exact ⟨_,rfl,rfl⟩
  ·cases h1
 |true =>
  obtain ⟨rfl,hH⟩:=hp2 e;subst hH;have tG:=dU.CZ c c.names (A0 c (m8.ns c)) n;rw [D0] at tG;have h2:(W8 0 n&&C9 n (m8.ns c))=false:=by unfold P9 J3 at h;rw [e] at h;exact h
  rw [h2] at tG
  repeat' (first|refine cp pQ hle ?_|refine gx ?_|fail)
  refine tB (true) ?_ (fun h1=> ?_) (fun h1=> ?_)
  ·repeat' (first|refine dU.ck tG ?_|refine gx ?_|refine fk (h1:=fun hw=> ?_) (h2:=fun hw=> ?_)|refine L7 (h1:=fun hw=> ?_) (h2:=fun hw=> ?_)|refine ⟨rfl,rfl,_,rfl,?_⟩|refine ⟨rfl,rfl⟩|fail)
   all_goals exact cc
  ·refine gr ?_
   exact ⟨_,rfl,rfl⟩
  ·cases h1
theorem am9 (c:m8)(hs:B6 c)(n:Int)(h:P9 c n=false):Pf A 56 [cat c,.d (num n)] (.own 1 0 []):=by
 have xW:=CY c hs n;rw [h] at xW;refine Pf.run [cat c,.d (num n),.any,.any,.any,.any,.any,.any] rfl rfl rfl rfl ?_;refine gr ?_;refine tB (true) ?_ (fun h1=> ?_) (fun h1=> ?_)
 ·repeat' (first|refine cl (xW) ?_|refine gx ?_|refine fk (h1:=fun hw=> ?_) (h2:=fun hw=> ?_)|refine L7 (h1:=fun hw=> ?_) (h2:=fun hw=> ?_)|refine ⟨rfl,rfl,_,rfl,?_⟩|refine ⟨rfl,rfl⟩|fail)
  all_goals exact cc
 ·refine gr ?_
  exact ⟨_,rfl,rfl⟩
 ·cases h1
theorem JB (c:m8)(st:Int):∀ k,∀ s,s ∈ an c st k->s<k
 |0,s,h=>by simp [an] at h
 |k+1,s,h=>by
  simp only [an,List.mem_append] at h
  rcases h with h|h
  ·have:=JB c st k s h;omega
  ·split at h
   ·simp only [B0] at h;omega
   ·simp at h
theorem Ar:∀ (l:List Int) (n:Int),(∀ s,s ∈ l->s<n)->Z7 l n=l++[n]
 |[],n,_=>rfl
 |x::l,n,h=>by
  have:=h x (by simp);simp only [Z7,this,if_true,Ar l n (fun s hs=>h s (by simp [hs])),L6]
theorem wD:∀ (l:List Int) (n:Int),(∀ s,s ∈ l->s<n)->Z7 (l++[n]) n=l++[n]
 |[],n,_=>by simp [Z7]
 |x::l,n,h=>by
  have:=h x (by simp);simp only [L6,Z7,this,if_true,wD l n (fun s hs=>h s (by simp [hs]))]
theorem OQ:∀ (l:List Int) (s:Int),hasB l s=l.any fun y=>o9 y s:=by
 intro l s
 induction l with
 |nil=>rfl
 |cons x l ih=>simp [hasB,ih]
def pH (c:m8)(st:Int)(k i:Nat):List Int:=an c st k++(if ((aG c k).take i).any (jB st (an c st k)) then [(k:Int)] else [])
set_option maxHeartbeats 8000000 in
theorem VK (c:m8)(hs:B6 c)(st:Nat)(h:P9 c st=true):Pf A 56 [cat c,.d (num st)] (.d (ints (an c st (m8.ns c)))):=by
 have xW:=CY c hs st;rw [h] at xW;have hv:=gf h;have h3:=(cq h).2.2;obtain ⟨f0,f1,f2,f3,f4,f5,f6,f7⟩:=id hs.sm.fI;have cz:m8.ns c=c.j3.length+c.views.length:=rfl;have h20:=CN (fC hv).2.1;have p55:∀ k:Nat,c.j3.length<=k->k<m8.ns c->Pf A 55 [cat c,.d (num k)] (.d (ints (aG c k))):=fun k hk hk2=>by
  refine VJ c hs k ?_ (by omega);unfold P9;rw [hv];simp [p4,p5];omega
 refine Pf.run [cat c,.d (num st),.any,.any,.any,.any,.any,.any] rfl rfl rfl rfl ?_;refine gr ?_;refine tB (false) ?_ (fun h1=> ?_) (fun h1=> ?_)
 ·repeat' (first|refine cl (xW) ?_|refine gx ?_|refine fk (h1:=fun hw=> ?_) (h2:=fun hw=> ?_)|refine L7 (h1:=fun hw=> ?_) (h2:=fun hw=> ?_)|refine ⟨rfl,rfl,_,rfl,?_⟩|refine ⟨rfl,rfl⟩|fail)
  all_goals exact cc
 ·cases h1
 refine gr ?_;refine Ex.J0 (fun q T H=>∃ (k:Nat) (w0 w3 w4 w6 w7:b6),T=[w0,.d (num st),.ptr 0 0,w3,w4,.d (num k),w6,w7]/\H=[.cells (c.enc.map .d)]/\UL w4 (an c st k)/\k+q=m8.ns c/\c.j3.length<=k) (by rintro _ _ _ ⟨_,_,_,_,_,_,_,rfl,_⟩;rfl) ?_ (k:=c.views.length) ⟨c.j3.length,_,_,_,_,_,rfl,rfl,.inr (by rw [AF c st _ (n5 _)];rfl),by omega,n5 _⟩;rintro q _ _ ⟨k,w0,w3,w4,w6,w7,rfl,rfl,hw,hq,hk⟩;refine Ex.nT ?_;refine Ex.seq ?_;refine tB (C9 k (m8.ns c)) ?_ (fun g1=> ?_) (fun g1=> ?_)
 ·repeat' (first|refine cl (cz) ?_|refine gx ?_|refine fk (h1:=fun hw=> ?_) (h2:=fun hw=> ?_)|refine L7 (h1:=fun hw=> ?_) (h2:=fun hw=> ?_)|refine ⟨rfl,rfl,_,rfl,?_⟩|refine ⟨rfl,rfl⟩|fail)
  all_goals exact cc
 ·have g2:=y9 g1
  have p1:=p55 k hk (by omega);have vM:=FK c k;have hdl:=mg c st k
  repeat' (first|refine cl (p1) ?_|refine gx ?_|fail)
  refine Ex.J0 (fun q2 T H=>∃ (i:Nat) (w0 w3 w4:b6),T=[w0,.d (num st),.ptr 0 0,w3,w4,.d (num k),.d (ints (aG c k)),.d (num i)]/\H=[.cells (c.enc.map .d)]/\UL w4 (pH c st k i)/\i+q2=(aG c k).length) (by rintro _ _ _ ⟨_,_,_,_,_,rfl,_⟩;rfl) ?_ (k:=(aG c k).length) ⟨0,_,_,_,rfl,rfl,by simpa [pH] using hw,by simp⟩;clear hw;rintro q2 _ _ ⟨i,w0,w3,w4,rfl,rfl,hw,Sv⟩;refine Ex.nT ?_;refine Ex.seq ?_;refine tb (C9 i (aG c k).length) (fun g3=> ?_) (fun g3=> ?_)
  ·have g4:=y9 g3
   have Ac:i<(aG c k).length:=by omega
   have hlt:nth (aG c k) i<k:=(Ks hv (by omega) _ (by rw [K0 Ac];exact List.getElem_mem Ac)).2;have hha:hasB (pH c st k i) (nth (aG c k) i)=(an c st k).any fun y=>o9 y (nth (aG c k) i):=by
    rw [OQ];unfold pH;rw [List.any_append];split
    ·have:o9 (k:Int) (nth (aG c k) i)=false:=by rw [j9];simp;omega
     simp [this]
    ·simp
   have hIl:(pH c st k i).length<=k+1:=by unfold pH;split<;>simp<;>omega
   have p89:=an3 (pH c st k i) (nth (aG c k) i) (by omega);rw [hha] at p89;have PR:=XW (pH c st k i) k (by omega);have hlt2:=JB c st k;have WH:Z7 (pH c st k i) k=an c st k++[(k:Int)]:=by
    unfold pH;split
    ·exact wD _ _ hlt2
    ·simpa using Ar _ _ hlt2
   rw [WH] at PR;obtain ⟨w5,hw5,PR⟩:=PR;have Sy:=hw.as;have e1:pH c st k (i+1)=if jB st (an c st k) (nth (aG c k) i) then an c st k++[(k:Int)] else pH c st k i:=by
    unfold pH;rw [F7 Ac];simp only [List.any_append,List.any_cons,List.any_nil,Bool.or_false];cases jB st (an c st k) (nth (aG c k) i)<;>simp
   refine gr ?_;refine tB (jB st (an c st k) (nth (aG c k) i)) ?_ (fun g5=> ?_) (fun g5=> ?_)
   ·repeat' (first|refine XF Sy ?_|refine cl (p89) ?_|refine gx ?_|refine fk (h1:=fun hw=> ?_) (h2:=fun hw=> ?_)|refine L7 (h1:=fun hw=> ?_) (h2:=fun hw=> ?_)|refine ⟨rfl,rfl,_,rfl,?_⟩|refine ⟨rfl,rfl⟩|fail)
    all_goals first|(simp [*,b8,jB];done)|(simp_all [b8,jB];done)|(simp_all [b8,jB,p5,p4,j9,B8];done)|(simp_all [b8,jB,p5,p4,j9,B8]<;>omega)
   ·rw [g5,if_pos rfl] at e1
    rcases hw5 with rfl|rfl
    ·repeat' (first|refine XF Sy ?_|refine cl (PR) ?_|refine gx ?_|fail)
     exact ⟨q2 - 1,by omega,i+1,_,_,_,rfl,rfl,.inl (by rw [e1]),by omega⟩
    ·repeat' (first|refine XF Sy ?_|refine cl (PR) ?_|refine gx ?_|fail)
     exact ⟨q2 - 1,by omega,i+1,_,_,_,rfl,rfl,.inr (by rw [e1];rfl),by omega⟩
   ·rw [g5,if_neg (by simp)] at e1
    refine gr ?_;exact ⟨q2 - 1,by omega,i+1,_,_,_,rfl,rfl,by rw [e1];exact hw,by omega⟩
  ·have g4:=y8 g3
   refine gr ?_;refine ⟨q - 1,by omega,k+1,_,_,_,_,_,rfl,rfl,?_,by omega,by omega⟩;have:pH c st k i=an c st (k+1):=by unfold pH;rw [q5 (by omega)];rfl
   rw [<- this];exact hw
 ·have g2:=y8 g1
  obtain rfl:k=m8.ns c:=by omega
  have Sy:=hw.as
  repeat' (first|refine XF Sy ?_|refine gx ?_|fail)
  exact ⟨_,rfl,rfl⟩
end Go.Proofs.YtkmclibmmlgogaaGreat


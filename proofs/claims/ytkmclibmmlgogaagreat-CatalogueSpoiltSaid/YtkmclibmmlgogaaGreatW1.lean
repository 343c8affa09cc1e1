/- Texts D29w D30w (made short by a program) -/
import Derived.Test.YtkmclibmmlgogaaGreatE0
import Derived.Test.YtkmclibmmlgogaaGreatW0
set_option linter.unusedVariables false
set_option linter.unusedSimpArgs false
open List renaming drop_of_length_le → k9, length_append → E0, take_of_length_le → q5
namespace Go.Proofs.YtkmclibmmlgogaaGreat.dU
open Go.y3 Go.y3.S
attribute [local irreducible] Rx Ry Rn Ex Pf
variable [Inhabited XO]
def l9:G9:=⟨0,0,10,10⟩
def Pp:G9:=⟨0,10,10,10⟩
theorem Qi (a0 ax a1 a2 a3 a4 a5 a7:y7)(ty:List Int)(x:HC)(h0:x.expr.length<=1000)(h1:ty.length<=100000) :
  Pm A 155 [.ptr 9 0,.ptr 7 0] [a0,ax,a1,a2,a3,a4,a5,.cells [.d (ints ty)],a7,.cells (x.enc.map .d)] Pp (pair (F8 x.expr ty)) [a0,ax,a1,a2,a3,a4,a5,.cells [.d (ints ty)],a7,.cells (x.enc.map .d)]:=by
 have _x:=(default:XO);have p1:=Ff x.expr ty h0 h1;unfold pair at *
 suffices h:Pq A 155 [.ptr 9 0,.ptr 7 0] [a0,ax,a1,a2,a3,a4,a5,.cells [.d (ints ty)],a7,.cells (x.enc.map .d)] Pp fun v H1=>v= .tuple [.d (num (F8 x.expr ty).1),.d (num (F8 x.expr ty).2)]/\H1=[a0,ax,a1,a2,a3,a4,a5,.cells [.d (ints ty)],a7,.cells (x.enc.map .d)] by
  obtain ⟨v,H1,⟨rfl,rfl⟩,h⟩:=h;exact h
 refine Pq.run (b:=10) [.ptr 9 0,.ptr 7 0,.any,.any] rfl rfl rfl rfl rfl ?_
 repeat' (first|refine cl (p1) ?_|refine gx ?_|fail)
 exact ⟨_,_,rfl,rfl,rfl⟩
theorem Qj (a0 ax a1 a2 a3 a4 a5 a7:y7)(ty:List Int)(x:Ao)(h0:x.expr.length<=1000)(h1:ty.length<=100000) :
  Pm A 156 [.ptr 9 0,.ptr 7 0] [a0,ax,a1,a2,a3,a4,a5,.cells [.d (ints ty)],a7,.cells (x.enc.map .d)] Pp (pair (bQ ty x)) [a0,ax,a1,a2,a3,a4,a5,.cells [.d (ints ty)],a7,.cells (x.enc.map .d)]:=by
 have _x:=(default:XO);have p1:=Vy ty x h0 h1;unfold pair at *
 suffices h:Pq A 156 [.ptr 9 0,.ptr 7 0] [a0,ax,a1,a2,a3,a4,a5,.cells [.d (ints ty)],a7,.cells (x.enc.map .d)] Pp fun v H1=>v= .tuple [.d (num (bQ ty x).1),.d (num (bQ ty x).2)]/\H1=[a0,ax,a1,a2,a3,a4,a5,.cells [.d (ints ty)],a7,.cells (x.enc.map .d)] by
  obtain ⟨v,H1,⟨rfl,rfl⟩,h⟩:=h;exact h
 refine Pq.run (b:=10) [.ptr 9 0,.ptr 7 0,.any,.any] rfl rfl rfl rfl rfl ?_
 repeat' (first|refine cl (p1) ?_|refine gx ?_|fail)
 exact ⟨_,_,rfl,rfl,rfl⟩
set_option maxHeartbeats 8000000 in
theorem Fh (f:FuncId)(hf1:A.prom f=false)(hf2:A.mode f=1)(a0 ax a1 a2 a3 a4 a5:y7)(ty:List Int)(nm:List D8)(tys:List Int)(cs:List y3.Data)(s:D8)(r:Int×Int)(hn:nm.length<=10000)(ht:tys.length<=10000)
  (hc:∀ a7,Pm A f [.ptr 9 0,.ptr 7 0] [a0,ax,a1,a2,a3,a4,a5,.cells [.d (ints ty)],a7,.cells (cs.map .d)] Pp (pair r) [a0,ax,a1,a2,a3,a4,a5,.cells [.d (ints ty)],a7,.cells (cs.map .d)]) :
  Pm A 154 [.ptr 8 0,.d (.str s),.func f [] [.ptr 9 0,.ptr 7 0]] [a0,ax,a1,a2,a3,a4,a5,.cells [.d (ints ty)],.cells (jN nm tys),.cells (cs.map .d)] l9 (.d (num (Z6 nm s r)))
   [a0,ax,a1,a2,a3,a4,a5,.cells [.d (ints ty)],.cells (jN (jy nm s r) (jz nm tys s r)),.cells (cs.map .d)]:=by
 have _x:=(default:XO);have p1:=hc (.cells (jN nm tys));have p2:=Kd nm s (by omega);unfold pair at p1
 suffices h:Pq A 154 [.ptr 8 0,.d (.str s),.func f [] [.ptr 9 0,.ptr 7 0]] [a0,ax,a1,a2,a3,a4,a5,.cells [.d (ints ty)],.cells (jN nm tys),.cells (cs.map .d)] l9 fun v H1=>v= .d (num (Z6 nm s r))/\H1=[a0,ax,a1,a2,a3,a4,a5,.cells [.d (ints ty)],.cells (jN (jy nm s r) (jz nm tys s r)),.cells (cs.map .d)] by
  obtain ⟨v,H1,⟨rfl,rfl⟩,h⟩:=h;exact h
 have same:∀ e,Z6 nm s r=e->o9 e 0=false->jy nm s r=nm/\jz nm tys s r=tys:=fun e h1 h2=>by unfold jy jz;rw [h1,h2];exact ⟨rfl,rfl⟩
 have hr1:roomFor (nm.length+1) 16=true:=by simp only [roomFor,decide_eq_true_eq];omega
 have Zs:roomFor (tys.length+1) 8=true:=by simp only [roomFor,decide_eq_true_eq];omega
 refine Pq.run (b:=10) [.ptr 8 0,.d (.str s),.func f [] [.ptr 9 0,.ptr 7 0],.any,.any,.any] rfl rfl rfl rfl rfl ?_;refine gr ?_;refine tB (!E3 s) ?_ (fun h1=> ?_) (fun h1=> ?_)
 ·repeat' (first|refine cl (AW _) ?_|refine gx ?_|refine fk (h1:=fun hw=> ?_) (h2:=fun hw=> ?_)|refine L7 (h1:=fun hw=> ?_) (h2:=fun hw=> ?_)|refine ⟨rfl,rfl,_,rfl,?_⟩|refine ⟨rfl,rfl⟩|fail)
  all_goals exact cc
 ·have e1:Z6 nm s r=3:=by unfold Z6;rw [h1];rfl
  have e2:=same 3 e1 (by simp [j9]);refine gr ?_;exact ⟨_,_,rfl,by rw [e1];rfl,by rw [e2.1,e2.2];rfl⟩
 unfold jN;refine gr ?_;refine tB (nm.any fun y=>J2 y s) ?_ (fun h2=> ?_) (fun h2=> ?_)
 ·repeat' (first|refine cl (p2) ?_|refine gx ?_|refine fk (h1:=fun hw=> ?_) (h2:=fun hw=> ?_)|refine L7 (h1:=fun hw=> ?_) (h2:=fun hw=> ?_)|refine ⟨rfl,rfl,_,rfl,?_⟩|refine ⟨rfl,rfl⟩|fail)
  all_goals exact cc
 ·have e1:Z6 nm s r=4:=by unfold Z6;rw [h1,h2];rfl
  have e2:=same 4 e1 (by simp [j9]);refine gr ?_;exact ⟨_,_,rfl,by rw [e1];rfl,by rw [e2.1,e2.2];rfl⟩
 unfold jN at p1
 repeat' (first|refine cv1 (fR:=hf1) (hm:=hf2) p1 rfl ?_|refine gx ?_|fail)
 refine tb (!o9 r.2 0) (fun h3=> ?_) (fun h3=> ?_)
 ·have e1:Z6 nm s r=r.2:=by unfold Z6;rw [h1,h2,h3];rfl
  have e2:=same _ e1 (by simpa using h3);refine gr ?_;exact ⟨_,_,rfl,by rw [e1];rfl,by rw [e2.1,e2.2];rfl⟩
 have e1:Z6 nm s r=0:=by unfold Z6;rw [h1,h2,h3];rfl
 have e2:jy nm s r=nm++[s]:=by unfold jy;rw [e1];simp [j9]
 have e3:jz nm tys s r=tys++[r.1]:=by unfold jz;rw [e1];simp [j9]
 refine gr ?_;refine ac1 (a:=s) (xs:=nm) (enc:=encS) hr1 rfl (h2:= ?_);refine gr ?_;refine ac1 (a:=r.1) (xs:=tys) (enc:=fun n=>[num n]) Zs rfl (h2:= ?_)
 repeat' (first|refine soO (h2:= ?_)|refine gx ?_|fail)
 exact ⟨_,_,rfl,by rw [e1];rfl,by rw [e2,e3];rfl⟩
end Go.Proofs.YtkmclibmmlgogaaGreat.dU
namespace Go.Proofs.YtkmclibmmlgogaaGreat.dU
open Go.y3 Go.y3.S
attribute [local irreducible] Rx Ry Rn Ex Pf
variable [Inhabited XO]
set_option maxHeartbeats 32000000 in
theorem Qf (c:m8)(ds:List D8)(ss:List Y4)(v:Vw)(L R:List Int)(hL:L.length<=5000)(hR:R.length<=5000)(h0:v.on.length<=1000)(h1:v.wh.length<=1000)(h2:v.items.length<=1000)(h3:v.C1.length<=1000)(h4:∀ i,i<v.items.length->(nth v.items i).expr.length<=1000)(h5:∀ i,i<v.C1.length->(nth v.C1 i).expr.length<=1000)
  (hs:((ss.map (·.1)).any fun y=>J2 y v.name)=false) (EF:ss.length<=1000):Pm A 120 [.ptr 5 0,vw v,.d (ints L),.d (ints R)] (HH c ds ss) lW (.d (num (X3 v L R))) (HH c ds (lM ss v L R)):=by
 suffices h:Pq A 120 [.ptr 5 0,vw v,.d (ints L),.d (ints R)] (HH c ds ss) lW fun w H1=>w= .d (num (X3 v L R))/\H1=HH c ds (lM ss v L R) by
  obtain ⟨w,H1,⟨rfl,rfl⟩,h⟩:=h;exact h
 have same:∀ e,X3 v L R=e->o9 e 0=false->lM ss v L R=ss:=fun e g1 g2=>by unfold lM;rw [g1,g2];rfl
 have xU:=yb c ds ss v.name ((X1 v).map DP.name) (X8 v (L++R)) hs EF;have PO:=Vx [L,R] (by simp) (by
  intro i hi
  match i,hi with
  |0,_=>rw [U0];omega
  |1,_=>rw [mQ,U0];omega)
 have pW:=Ff v.wh (L++R) h1 (by simp;omega);unfold pair at pW;have hfl:[L,R].flatten=L++R:=by simp
 rw [hfl] at PO;have hTl:(L++R).length<=100000:=by simp;omega
 unfold HH at *
 refine Pq.run (b:=6) [.ptr 5 0,vw v,.d (ints L),.d (ints R),.any,.any,.any,.any,.any,.any,.any,.any,.any,.any,.any,.any,.any,.any,.any,.any,.any,.any,.any,.any] rfl rfl rfl rfl rfl ?_;refine gr ?_;refine Ex.fS (fun k T H=>∃ (i:Nat),T=[.ptr 5 0,.any,.d (ints L),.d (ints R),.ptr 6 0,.any,.any,.any,.any,.any,.any,.any,.any,.any,.any,.d (z6 (fun p=>[num p.1,num p.2]) v.on),.d (num v.on.length),.d (num i),.any,.any,.any,.any,.any,.any]/\H=[.cells (c.enc.map .d),xo,.cells (c.enc.map .d),.map (dmap ds),.map (T3 (ss.map (·.1)) 0),.cells (c.enc.map .d++[.map 3,.map 4,B3 2 F9 ss]),.cells (v.enc.map .d)]/\i+k=v.on.length/\I5 L R v.on=I5 L R (v.on.drop i)) ?_ (k:=v.on.length) ⟨0,rfl,rfl,by simp,by simp⟩;rintro k _ _ ⟨i,rfl,rfl,hk,hi⟩;refine Ex.seq ?_;refine tb (C9 i v.on.length) (fun g1=> ?_) (fun g1=> ?_)
 ·have g2:=y9 g1
  rw [A2 (by omega)] at hi;refine gr ?_;refine tB (!n7 (nth v.on i).1 0 (L.length - 1)|| !n7 (nth v.on i).2 0 (R.length - 1)) ?_ (fun g3=> ?_) (fun g3=> ?_)
  ·repeat' (first|refine cl (bX _ _ _) ?_|refine gx ?_|refine fk (h1:=fun hw=> ?_) (h2:=fun hw=> ?_)|refine L7 (h1:=fun hw=> ?_) (h2:=fun hw=> ?_)|refine ⟨rfl,rfl,_,rfl,?_⟩|refine ⟨rfl,rfl⟩|fail)
   all_goals exact cc
  ·have e1:I5 L R v.on=3:=by rw [hi,I5,g3];rfl
   have e2:X3 v L R=3:=by unfold X3;rw [e1];simp [j9]
   refine gr ?_;exact ⟨_,_,rfl,by rw [e2];rfl,by rw [same 3 e2 (by simp [j9])];rfl⟩
  have g4:=g3;simp [n7,p4] at g4;refine gr ?_;refine tb (!o9 (nth L (nth v.on i).1.toNat) (nth R (nth v.on i).2.toNat)) (fun g5=> ?_) (fun g5=> ?_)
  ·have e1:I5 L R v.on=5:=by rw [hi,I5,g3,g5];rfl
   have e2:X3 v L R=5:=by unfold X3;rw [e1];simp [j9]
   refine gr ?_;exact ⟨_,_,rfl,by rw [e2];rfl,by rw [same 5 e2 (by simp [j9])];rfl⟩
  ·refine gr ?_
   exact ⟨k - 1,by omega,_,_,rfl,i+1,rfl,rfl,by omega,by rw [hi,I5,g3,g5];rfl⟩
 have g2:=y8 g1;rw [k9 (by omega)] at hi;have e0:(!o9 (I5 L R v.on) 0)=false:=by rw [hi];simp [I5,j9]
 clear g1 g2 hk hi
 repeat' (first|refine cl (PO) ?_|refine gx ?_|fail)
 refine Ex.KB (fun s=>∃ (w1 w2 w3 w5 w6 w8 w9 jX hU KF Ro Rp w15 w16 w17 w18 w19 w20 w21 w22 w23:b6),s=⟨[.ptr 5 0,w1,w2,w3,.ptr 6 0,w5,w6,.ptr 7 0,w8,w9,jX,hU,KF,Ro,Rp,w15,w16,w17,w18,w19,w20,w21,w22,w23],[.cells (c.enc.map .d),xo,.cells (c.enc.map .d),.map (dmap ds),.map (T3 (ss.map (·.1)) 0),.cells (c.enc.map .d++[.map 3,.map 4,B3 2 F9 ss]),.cells (v.enc.map .d),.cells [.d (ints (L++R))]]⟩/\X3 v L R=V4 (L++R) [] (X1 v)) ?_ ?_
 ·skip
  refine tb (C9 0 v.wh.length) (fun g6=> ?_) (fun g6=> ?_)
  ·repeat' (first|refine cl (pW) ?_|refine gx ?_|fail)
   refine tb (!o9 (F8 v.wh (L++R)).2 0) (fun g7=> ?_) (fun g7=> ?_)
   ·have e1:X3 v L R=(F8 v.wh (L++R)).2:=by unfold X3;rw [e0,g6,g7];rfl
    refine gr ?_;exact ⟨_,_,rfl,by rw [e1];rfl,by rw [same _ e1 (by simpa using g7)];rfl⟩
   refine gr ?_;refine tb (!o9 (F8 v.wh (L++R)).1 1) (fun g8=> ?_) (fun g8=> ?_)
   ·have e1:X3 v L R=5:=by unfold X3;rw [e0,g6,g7,g8];rfl
    refine gr ?_;exact ⟨_,_,rfl,by rw [e1];rfl,by rw [same 5 e1 (by simp [j9])];rfl⟩
   ·have e1:X3 v L R=V4 (L++R) [] (X1 v):=by unfold X3;rw [e0,g6,g7,g8];rfl
    refine gr ?_;exact ⟨_,_,_,_,_,_,_,_,_,_,_,_,_,_,_,_,_,_,_,_,_,rfl,e1⟩
  ·have e1:X3 v L R=V4 (L++R) [] (X1 v):=by unfold X3;rw [e0,g6];rfl
   refine gr ?_;exact ⟨_,_,_,_,_,_,_,_,_,_,_,_,_,_,_,_,_,_,_,_,_,rfl,e1⟩
 rintro _ ⟨w1,w2,w3,w5,w6,w8,w9,jX,hU,KF,Ro,Rp,w15,w16,w17,w18,w19,w20,w21,w22,w23,rfl,hin⟩;refine gr ?_;refine Ex.fS (fun k T H=>∃ (i:Nat) (nm:List D8) (tys:List Int),T=[.ptr 5 0,.any,.any,.any,.ptr 6 0,.any,.any,.ptr 7 0,.any,.any,.ptr 8 0,.any,.any,.any,.any,.any,.any,.any,.d (z6 HC.enc v.items),.d (num v.items.length),.d (num i),.any,.any,.any]/\H=[.cells (c.enc.map .d),xo,.cells (c.enc.map .d),.map (dmap ds),.map (T3 (ss.map (·.1)) 0),.cells (c.enc.map .d++[.map 3,.map 4,B3 2 F9 ss]),.cells (v.enc.map .d),.cells [.d (ints (L++R))],.cells (jN nm tys)]/\i+k=v.items.length/\nm=(v.items.take i).map HC.name/\tys=(v.items.take i).map (fun x=>(F8 x.expr (L++R)).1)/\X3 v L R=V4 (L++R) nm ((X1 v).drop i)) ?_ (k:=v.items.length) ⟨0,[],[],rfl,rfl,by simp,by simp,by simp,by simpa using hin⟩;rintro k _ _ ⟨i,nm,tys,rfl,rfl,hk,hnm,eg,hi⟩;have Zp:nm.length=i:=by rw [hnm];simp;omega
 have nY:tys.length=i:=by rw [eg];simp;omega
 refine Ex.seq ?_;refine tb (C9 i v.items.length) (fun g1=> ?_) (fun g1=> ?_)
 ·have g2:=y9 g1
  have hel:=fh v;rw [A2 (by omega),nW v (by omega),mq] at hi;have IJ:=Fh 155 rfl rfl (.cells (c.enc.map .d)) xo (.cells (c.enc.map .d)) (.map (dmap ds)) (.map (T3 (ss.map (·.1)) 0)) (.cells (c.enc.map .d++[.map 3,.map 4,B3 2 F9 ss])) (.cells (v.enc.map .d)) (L++R) nm tys (nth v.items i).enc (nth v.items i).name (F8 (nth v.items i).expr (L++R)) (by omega) (by omega) (fun a7=>Qi (.cells (c.enc.map .d)) xo (.cells (c.enc.map .d)) (.map (dmap ds)) (.map (T3 (ss.map (·.1)) 0)) (.cells (c.enc.map .d++[.map 3,.map 4,B3 2 F9 ss])) (.cells (v.enc.map .d)) a7 (L++R) (nth v.items i) (h4 i (by omega)) hTl)
  repeat' (first|refine c0 IJ rfl (h2:= ?_)|refine gx ?_|fail)
  refine tb (!o9 (Z6 nm (nth v.items i).name (F8 (nth v.items i).expr (L++R))) 0) (fun g3=> ?_) (fun g3=> ?_)
  ·rw [g3,if_pos rfl] at hi
   refine gr ?_;exact ⟨_,_,rfl,by rw [hi];rfl,by rw [same _ hi (by simpa using g3)];rfl⟩
  ·rw [g3,if_neg (by simp)] at hi
   have e1:o9 (Z6 nm (nth v.items i).name (F8 (nth v.items i).expr (L++R))) 0=true:=by simpa using g3
   have e2:jy nm (nth v.items i).name (F8 (nth v.items i).expr (L++R))=nm++[(nth v.items i).name]:=by unfold jy;rw [e1];rfl
   have e3:jz nm tys (nth v.items i).name (F8 (nth v.items i).expr (L++R))=tys++[(F8 (nth v.items i).expr (L++R)).1]:=by unfold jz;rw [e1];rfl
   rw [e2,e3];refine gr ?_;exact ⟨k - 1,by omega,_,_,rfl,i+1,nm++[(nth v.items i).name],tys++[(F8 (nth v.items i).expr (L++R)).1],rfl,rfl,by omega,by rw [F7 (by omega),hnm];simp,by rw [F7 (by omega),eg];simp,hi⟩
 have g2:=y8 g1;rw [q5 (by omega)] at hnm eg;have UZ:i=v.items.length:=by omega
 subst UZ;clear g1 g2 hk;refine gr ?_;refine Ex.fS (fun k T H=>∃ (i:Nat) (qZ:List D8) (kU:List Int),T=[.ptr 5 0,.any,.any,.any,.ptr 6 0,.any,.any,.ptr 7 0,.any,.any,.ptr 8 0,.any,.any,.any,.any,.any,.any,.any,.any,.any,.any,.d (z6 Ao.enc v.C1),.d (num v.C1.length),.d (num i)]/\H=[.cells (c.enc.map .d),xo,.cells (c.enc.map .d),.map (dmap ds),.map (T3 (ss.map (·.1)) 0),.cells (c.enc.map .d++[.map 3,.map 4,B3 2 F9 ss]),.cells (v.enc.map .d),.cells [.d (ints (L++R))],.cells (jN qZ kU)]/\i+k=v.C1.length/\qZ=nm++(v.C1.take i).map Ao.name/\kU=tys++(v.C1.take i).map (qu (L++R))/\X3 v L R=V4 (L++R) qZ ((X1 v).drop (v.items.length+i))) ?_ (k:=v.C1.length) ⟨0,nm,tys,rfl,rfl,by simp,by simp,by simp,hi⟩;clear hi;rintro k _ _ ⟨i,qZ,kU,rfl,rfl,hk,CG,xB,hi⟩;have hl3:qZ.length=v.items.length+i:=by rw [CG,E0,Zp];simp;omega
 have hl4:kU.length=v.items.length+i:=by rw [xB,E0,nY];simp;omega
 refine Ex.seq ?_;have hel:=fh v;refine tb (C9 i v.C1.length) (fun g1=> ?_) (fun g1=> ?_)
 ·have g2:=y9 g1
  rw [A2 (by omega),qK v (by omega) (by omega),Nat.add_sub_cancel_left,oE] at hi;have IJ:=Fh 156 rfl rfl (.cells (c.enc.map .d)) xo (.cells (c.enc.map .d)) (.map (dmap ds)) (.map (T3 (ss.map (·.1)) 0)) (.cells (c.enc.map .d++[.map 3,.map 4,B3 2 F9 ss])) (.cells (v.enc.map .d)) (L++R) qZ kU (nth v.C1 i).enc (nth v.C1 i).name (bQ (L++R) (nth v.C1 i)) (by omega) (by omega) (fun a7=>Qj (.cells (c.enc.map .d)) xo (.cells (c.enc.map .d)) (.map (dmap ds)) (.map (T3 (ss.map (·.1)) 0)) (.cells (c.enc.map .d++[.map 3,.map 4,B3 2 F9 ss])) (.cells (v.enc.map .d)) a7 (L++R) (nth v.C1 i) (h5 i (by omega)) hTl)
  repeat' (first|refine c0 IJ rfl (h2:= ?_)|refine gx ?_|fail)
  refine tb (!o9 (Z6 qZ (nth v.C1 i).name (bQ (L++R) (nth v.C1 i))) 0) (fun g3=> ?_) (fun g3=> ?_)
  ·rw [g3,if_pos rfl] at hi
   refine gr ?_;exact ⟨_,_,rfl,by rw [hi];rfl,by rw [same _ hi (by simpa using g3)];rfl⟩
  ·rw [g3,if_neg (by simp)] at hi
   have e1:o9 (Z6 qZ (nth v.C1 i).name (bQ (L++R) (nth v.C1 i))) 0=true:=by simpa using g3
   have e2:jy qZ (nth v.C1 i).name (bQ (L++R) (nth v.C1 i))=qZ++[(nth v.C1 i).name]:=by unfold jy;rw [e1];rfl
   have e3:jz qZ kU (nth v.C1 i).name (bQ (L++R) (nth v.C1 i))=kU++[(bQ (L++R) (nth v.C1 i)).1]:=by unfold jz;rw [e1];rfl
   have e4:o9 (bQ (L++R) (nth v.C1 i)).2 0=true:=by
    have e5:=X2 e1;unfold Z6 at e5;cases c1:(!E3 (nth v.C1 i).name) with
    |true=>rw [c1] at e5;simp at e5
    |false =>
     rw [c1] at e5;cases c2:qZ.any fun y=>J2 y (nth v.C1 i).name with
     |true=>rw [c2] at e5;simp at e5
     |false =>
      rw [c2] at e5;cases c3:o9 (bQ (L++R) (nth v.C1 i)).2 0 with
      |true=>rfl
      |false=>rw [c3] at e5;simp at e5;rw [e5] at c3;simp [j9] at c3
   rw [e2,e3];refine gr ?_;exact ⟨k - 1,by omega,_,_,rfl,i+1,qZ++[(nth v.C1 i).name],kU++[(bQ (L++R) (nth v.C1 i)).1],rfl,rfl,by omega,by rw [F7 (by omega),CG];simp,by rw [F7 (by omega),xB,Jr e4];simp,hi⟩
 ·have g2:=y8 g1
  rw [q5 (by omega)] at CG xB;rw [k9 (by omega)] at hi;have e1:X3 v L R=0:=hi;have e2:lM ss v L R=ss++[(v.name,(X1 v).map DP.name,X8 v (L++R))]:=by unfold lM;rw [e1];simp [j9]
  have e3:qZ=(X1 v).map DP.name:=by rw [CG,hnm];simp [X1,Function.comp_def]
  have e4:kU=X8 v (L++R):=by rw [xB,eg];rfl
  rw [e2,e3,e4];refine gr ?_;unfold jN
  repeat' (first|refine c0 xU rfl (h2:= ?_)|refine gx ?_|fail)
  exact ⟨_,_,rfl,by rw [e1];rfl,rfl⟩
end Go.Proofs.YtkmclibmmlgogaaGreat.dU


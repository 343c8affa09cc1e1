/- Texts D29w D30w (made short by a program) -/
import Derived.Test.YtkmclibmmlgogaaGreatE0
import Derived.Test.YtkmclibmmlgogaaGreatW0
set_option linter.unusedVariables false
set_option linter.unusedSimpArgs false
open List renaming drop_of_length_le → m6, length_append → C1, take_of_length_le → q7
namespace Go.Proofs.YtkmclibmmlgogaaGreat.dK
open Go.z7 Go.z7.S
attribute [local irreducible] Rx Ry Rn Ex Pf
variable [Inhabited XO]
def l9:H7:=⟨0,0,10,10⟩
def Nl:H7:=⟨0,10,10,10⟩
theorem NV (a0 ax a1 a2 a3 a4 a5 a7:z6)(ty:List Int)(x:KL)(h0:x.expr.length<=1000)(h1:ty.length<=100000) :
  Pm A 155 [.ptr 9 0,.ptr 7 0] [a0,ax,a1,a2,a3,a4,a5,.cells [.d (ints ty)],a7,.cells (x.enc.map .d)] Nl (pair (F7 x.expr ty)) [a0,ax,a1,a2,a3,a4,a5,.cells [.d (ints ty)],a7,.cells (x.enc.map .d)]:=by
 have _x:=(default:XO);have p1:=Ec x.expr ty h0 h1;unfold pair at *
 suffices h:Pq A 155 [.ptr 9 0,.ptr 7 0] [a0,ax,a1,a2,a3,a4,a5,.cells [.d (ints ty)],a7,.cells (x.enc.map .d)] Nl fun v H1=>v= .tuple [.d (num (F7 x.expr ty).1),.d (num (F7 x.expr ty).2)]/\H1=[a0,ax,a1,a2,a3,a4,a5,.cells [.d (ints ty)],a7,.cells (x.enc.map .d)] by
  obtain ⟨v,H1,⟨rfl,rfl⟩,h⟩:=h;exact h
 refine Pq.run (b:=10) [.ptr 9 0,.ptr 7 0,.any,.any] rfl rfl rfl rfl rfl ?_
 repeat' (first|refine cl (p1) ?_|refine gx ?_|fail)
 exact ⟨_,_,rfl,rfl,rfl⟩
theorem NW (a0 ax a1 a2 a3 a4 a5 a7:z6)(ty:List Int)(x:CN)(h0:x.expr.length<=1000)(h1:ty.length<=100000) :
  Pm A 156 [.ptr 9 0,.ptr 7 0] [a0,ax,a1,a2,a3,a4,a5,.cells [.d (ints ty)],a7,.cells (x.enc.map .d)] Nl (pair (bE ty x)) [a0,ax,a1,a2,a3,a4,a5,.cells [.d (ints ty)],a7,.cells (x.enc.map .d)]:=by
 have _x:=(default:XO);have p1:=TD ty x h0 h1;unfold pair at *
 suffices h:Pq A 156 [.ptr 9 0,.ptr 7 0] [a0,ax,a1,a2,a3,a4,a5,.cells [.d (ints ty)],a7,.cells (x.enc.map .d)] Nl fun v H1=>v= .tuple [.d (num (bE ty x).1),.d (num (bE ty x).2)]/\H1=[a0,ax,a1,a2,a3,a4,a5,.cells [.d (ints ty)],a7,.cells (x.enc.map .d)] by
  obtain ⟨v,H1,⟨rfl,rfl⟩,h⟩:=h;exact h
 refine Pq.run (b:=10) [.ptr 9 0,.ptr 7 0,.any,.any] rfl rfl rfl rfl rfl ?_
 repeat' (first|refine cl (p1) ?_|refine gx ?_|fail)
 exact ⟨_,_,rfl,rfl,rfl⟩
set_option maxHeartbeats 8000000 in
theorem Ee (f:FuncId)(hf1:A.prom f=false)(hf2:A.mode f=1)(a0 ax a1 a2 a3 a4 a5:z6)(ty:List Int)(nm:List D6)(tys:List Int)(cs:List z7.Data)(s:D6)(r:Int×Int)(hn:nm.length<=10000)(ht:tys.length<=10000)
  (hc:∀ a7,Pm A f [.ptr 9 0,.ptr 7 0] [a0,ax,a1,a2,a3,a4,a5,.cells [.d (ints ty)],a7,.cells (cs.map .d)] Nl (pair r) [a0,ax,a1,a2,a3,a4,a5,.cells [.d (ints ty)],a7,.cells (cs.map .d)]) :
  Pm A 154 [.ptr 8 0,.d (.str s),.func f [] [.ptr 9 0,.ptr 7 0]] [a0,ax,a1,a2,a3,a4,a5,.cells [.d (ints ty)],.cells (jz nm tys),.cells (cs.map .d)] l9 (.d (num (Z3 nm s r)))
   [a0,ax,a1,a2,a3,a4,a5,.cells [.d (ints ty)],.cells (jz (jd nm s r) (je nm tys s r)),.cells (cs.map .d)]:=by
 have _x:=(default:XO);have p1:=hc (.cells (jz nm tys));have p2:=IV nm s (by omega);unfold pair at p1
 suffices h:Pq A 154 [.ptr 8 0,.d (.str s),.func f [] [.ptr 9 0,.ptr 7 0]] [a0,ax,a1,a2,a3,a4,a5,.cells [.d (ints ty)],.cells (jz nm tys),.cells (cs.map .d)] l9 fun v H1=>v= .d (num (Z3 nm s r))/\H1=[a0,ax,a1,a2,a3,a4,a5,.cells [.d (ints ty)],.cells (jz (jd nm s r) (je nm tys s r)),.cells (cs.map .d)] by
  obtain ⟨v,H1,⟨rfl,rfl⟩,h⟩:=h;exact h
 have same:∀ e,Z3 nm s r=e->o9 e 0=false->jd nm s r=nm/\je nm tys s r=tys:=fun e h1 h2=>by unfold jd je;rw [h1,h2];exact ⟨rfl,rfl⟩
 have Xa:roomFor (nm.length+1) 16=true:=by simp only [roomFor,decide_eq_true_eq];omega
 have Tm:roomFor (tys.length+1) 8=true:=by simp only [roomFor,decide_eq_true_eq];omega
 refine Pq.run (b:=10) [.ptr 8 0,.d (.str s),.func f [] [.ptr 9 0,.ptr 7 0],.any,.any,.any] rfl rfl rfl rfl rfl ?_;refine gr ?_;refine tB (!E5 s) ?_ (fun h1=> ?_) (fun h1=> ?_)
 ·repeat' (first|refine cl (zZ _) ?_|refine gx ?_|refine fk (h1:=fun hw=> ?_) (h2:=fun hw=> ?_)|refine L3 (h1:=fun hw=> ?_) (h2:=fun hw=> ?_)|refine ⟨rfl,rfl,_,rfl,?_⟩|refine ⟨rfl,rfl⟩|fail)
  all_goals exact cc
 ·have e1:Z3 nm s r=3:=by unfold Z3;rw [h1];rfl
  have e2:=same 3 e1 (by simp [j9]);refine gr ?_;exact ⟨_,_,rfl,by rw [e1];rfl,by rw [e2.1,e2.2];rfl⟩
 unfold jz;refine gr ?_;refine tB (nm.any fun y=>J4 y s) ?_ (fun h2=> ?_) (fun h2=> ?_)
 ·repeat' (first|refine cl (p2) ?_|refine gx ?_|refine fk (h1:=fun hw=> ?_) (h2:=fun hw=> ?_)|refine L3 (h1:=fun hw=> ?_) (h2:=fun hw=> ?_)|refine ⟨rfl,rfl,_,rfl,?_⟩|refine ⟨rfl,rfl⟩|fail)
  all_goals exact cc
 ·have e1:Z3 nm s r=4:=by unfold Z3;rw [h1,h2];rfl
  have e2:=same 4 e1 (by simp [j9]);refine gr ?_;exact ⟨_,_,rfl,by rw [e1];rfl,by rw [e2.1,e2.2];rfl⟩
 unfold jz at p1
 repeat' (first|refine Yp (dM:=hf1) (hm:=hf2) p1 rfl ?_|refine gx ?_|fail)
 refine tb (!o9 r.2 0) (fun h3=> ?_) (fun h3=> ?_)
 ·have e1:Z3 nm s r=r.2:=by unfold Z3;rw [h1,h2,h3];rfl
  have e2:=same _ e1 (by simpa using h3);refine gr ?_;exact ⟨_,_,rfl,by rw [e1];rfl,by rw [e2.1,e2.2];rfl⟩
 have e1:Z3 nm s r=0:=by unfold Z3;rw [h1,h2,h3];rfl
 have e2:jd nm s r=nm++[s]:=by unfold jd;rw [e1];simp [j9]
 have e3:je nm tys s r=tys++[r.1]:=by unfold je;rw [e1];simp [j9]
 refine gr ?_;refine ac1 (a:=s) (xs:=nm) (enc:=encS) Xa rfl (h2:= ?_);refine gr ?_;refine ac1 (a:=r.1) (xs:=tys) (enc:=fun n=>[num n]) Tm rfl (h2:= ?_)
 repeat' (first|refine soO (h2:= ?_)|refine gx ?_|fail)
 exact ⟨_,_,rfl,by rw [e1];rfl,by rw [e2,e3];rfl⟩
end Go.Proofs.YtkmclibmmlgogaaGreat.dK
namespace Go.Proofs.YtkmclibmmlgogaaGreat.dK
open Go.z7 Go.z7.S
attribute [local irreducible] Rx Ry Rn Ex Pf
variable [Inhabited XO]
set_option maxHeartbeats 32000000 in
theorem NS (c:n5)(ds:List D6)(ss:List Y0)(v:Vw)(L R:List Int)(hL:L.length<=5000)(hR:R.length<=5000)(h0:v.on.length<=1000)(h1:v.wh.length<=1000)(h2:v.items.length<=1000)(h3:v.C2.length<=1000)(h4:∀ i,i<v.items.length->(nth v.items i).expr.length<=1000)(h5:∀ i,i<v.C2.length->(nth v.C2 i).expr.length<=1000)
  (hs:((ss.map (·.1)).any fun y=>J4 y v.name)=false) (DF:ss.length<=1000):Pm A 120 [.ptr 5 0,vw v,.d (ints L),.d (ints R)] (HH c ds ss) lW (.d (num (X4 v L R))) (HH c ds (lz ss v L R)):=by
 suffices h:Pq A 120 [.ptr 5 0,vw v,.d (ints L),.d (ints R)] (HH c ds ss) lW fun w H1=>w= .d (num (X4 v L R))/\H1=HH c ds (lz ss v L R) by
  obtain ⟨w,H1,⟨rfl,rfl⟩,h⟩:=h;exact h
 have same:∀ e,X4 v L R=e->o9 e 0=false->lz ss v L R=ss:=fun e g1 g2=>by unfold lz;rw [g1,g2];rfl
 have wU:=xd c ds ss v.name ((X1 v).map CR.name) (X7 v (L++R)) hs DF;have NG:=TC [L,R] (by simp) (by
  intro i hi
  match i,hi with
  |0,_=>rw [T9];omega
  |1,_=>rw [mA,T9];omega)
 have pW:=Ec v.wh (L++R) h1 (by simp;omega);unfold pair at pW;have hfl:[L,R].flatten=L++R:=by simp
 rw [hfl] at NG;have Yw:(L++R).length<=100000:=by simp;omega
 unfold HH at *
 refine Pq.run (b:=6) [.ptr 5 0,vw v,.d (ints L),.d (ints R),.any,.any,.any,.any,.any,.any,.any,.any,.any,.any,.any,.any,.any,.any,.any,.any,.any,.any,.any,.any] rfl rfl rfl rfl rfl ?_;refine gr ?_;refine Ex.fG (fun k T H=>∃ (i:Nat),T=[.ptr 5 0,.any,.d (ints L),.d (ints R),.ptr 6 0,.any,.any,.any,.any,.any,.any,.any,.any,.any,.any,.d (A5 (fun p=>[num p.1,num p.2]) v.on),.d (num v.on.length),.d (num i),.any,.any,.any,.any,.any,.any]/\H=[.cells (c.enc.map .d),xo,.cells (c.enc.map .d),.map (dmap ds),.map (S6 (ss.map (·.1)) 0),.cells (c.enc.map .d++[.map 3,.map 4,B4 2 G5 ss]),.cells (v.enc.map .d)]/\i+k=v.on.length/\I5 L R v.on=I5 L R (v.on.drop i)) ?_ (k:=v.on.length) ⟨0,rfl,rfl,by simp,by simp⟩;rintro k _ _ ⟨i,rfl,rfl,hk,hi⟩;refine Ex.seq ?_;refine tb (C7 i v.on.length) (fun g1=> ?_) (fun g1=> ?_)
 ·have g2:=A4 g1
  rw [A8 (by omega)] at hi;refine gr ?_;refine tB (!n8 (nth v.on i).1 0 (L.length - 1)|| !n8 (nth v.on i).2 0 (R.length - 1)) ?_ (fun g3=> ?_) (fun g3=> ?_)
  ·repeat' (first|refine cl (bM _ _ _) ?_|refine gx ?_|refine fk (h1:=fun hw=> ?_) (h2:=fun hw=> ?_)|refine L3 (h1:=fun hw=> ?_) (h2:=fun hw=> ?_)|refine ⟨rfl,rfl,_,rfl,?_⟩|refine ⟨rfl,rfl⟩|fail)
   all_goals exact cc
  ·have e1:I5 L R v.on=3:=by rw [hi,I5,g3];rfl
   have e2:X4 v L R=3:=by unfold X4;rw [e1];simp [j9]
   refine gr ?_;exact ⟨_,_,rfl,by rw [e2];rfl,by rw [same 3 e2 (by simp [j9])];rfl⟩
  have g4:=g3;simp [n8,p5] at g4;refine gr ?_;refine tb (!o9 (nth L (nth v.on i).1.toNat) (nth R (nth v.on i).2.toNat)) (fun g5=> ?_) (fun g5=> ?_)
  ·have e1:I5 L R v.on=5:=by rw [hi,I5,g3,g5];rfl
   have e2:X4 v L R=5:=by unfold X4;rw [e1];simp [j9]
   refine gr ?_;exact ⟨_,_,rfl,by rw [e2];rfl,by rw [same 5 e2 (by simp [j9])];rfl⟩
  ·refine gr ?_
   exact ⟨k - 1,by omega,_,_,rfl,i+1,rfl,rfl,by omega,by rw [hi,I5,g3,g5];rfl⟩
 have g2:=z8 g1;rw [m6 (by omega)] at hi;have e0:(!o9 (I5 L R v.on) 0)=false:=by rw [hi];simp [I5,j9]
 clear g1 g2 hk hi
 repeat' (first|refine cl (NG) ?_|refine gx ?_|fail)
 refine Ex.Jq (fun s=>∃ (w1 w2 w3 w5 w6 w8 w9 jI gG Jt OY OZ w15 w16 w17 w18 w19 w20 w21 w22 w23:b6),s=⟨[.ptr 5 0,w1,w2,w3,.ptr 6 0,w5,w6,.ptr 7 0,w8,w9,jI,gG,Jt,OY,OZ,w15,w16,w17,w18,w19,w20,w21,w22,w23],[.cells (c.enc.map .d),xo,.cells (c.enc.map .d),.map (dmap ds),.map (S6 (ss.map (·.1)) 0),.cells (c.enc.map .d++[.map 3,.map 4,B4 2 G5 ss]),.cells (v.enc.map .d),.cells [.d (ints (L++R))]]⟩/\X4 v L R=V2 (L++R) [] (X1 v)) ?_ ?_
 ·skip
  refine tb (C7 0 v.wh.length) (fun g6=> ?_) (fun g6=> ?_)
  ·repeat' (first|refine cl (pW) ?_|refine gx ?_|fail)
   refine tb (!o9 (F7 v.wh (L++R)).2 0) (fun g7=> ?_) (fun g7=> ?_)
   ·have e1:X4 v L R=(F7 v.wh (L++R)).2:=by unfold X4;rw [e0,g6,g7];rfl
    refine gr ?_;exact ⟨_,_,rfl,by rw [e1];rfl,by rw [same _ e1 (by simpa using g7)];rfl⟩
   refine gr ?_;refine tb (!o9 (F7 v.wh (L++R)).1 1) (fun g8=> ?_) (fun g8=> ?_)
   ·have e1:X4 v L R=5:=by unfold X4;rw [e0,g6,g7,g8];rfl
    refine gr ?_;exact ⟨_,_,rfl,by rw [e1];rfl,by rw [same 5 e1 (by simp [j9])];rfl⟩
   ·have e1:X4 v L R=V2 (L++R) [] (X1 v):=by unfold X4;rw [e0,g6,g7,g8];rfl
    refine gr ?_;exact ⟨_,_,_,_,_,_,_,_,_,_,_,_,_,_,_,_,_,_,_,_,_,rfl,e1⟩
  ·have e1:X4 v L R=V2 (L++R) [] (X1 v):=by unfold X4;rw [e0,g6];rfl
   refine gr ?_;exact ⟨_,_,_,_,_,_,_,_,_,_,_,_,_,_,_,_,_,_,_,_,_,rfl,e1⟩
 rintro _ ⟨w1,w2,w3,w5,w6,w8,w9,jI,gG,Jt,OY,OZ,w15,w16,w17,w18,w19,w20,w21,w22,w23,rfl,hin⟩;refine gr ?_;refine Ex.fG (fun k T H=>∃ (i:Nat) (nm:List D6) (tys:List Int),T=[.ptr 5 0,.any,.any,.any,.ptr 6 0,.any,.any,.ptr 7 0,.any,.any,.ptr 8 0,.any,.any,.any,.any,.any,.any,.any,.d (A5 KL.enc v.items),.d (num v.items.length),.d (num i),.any,.any,.any]/\H=[.cells (c.enc.map .d),xo,.cells (c.enc.map .d),.map (dmap ds),.map (S6 (ss.map (·.1)) 0),.cells (c.enc.map .d++[.map 3,.map 4,B4 2 G5 ss]),.cells (v.enc.map .d),.cells [.d (ints (L++R))],.cells (jz nm tys)]/\i+k=v.items.length/\nm=(v.items.take i).map KL.name/\tys=(v.items.take i).map (fun x=>(F7 x.expr (L++R)).1)/\X4 v L R=V2 (L++R) nm ((X1 v).drop i)) ?_ (k:=v.items.length) ⟨0,[],[],rfl,rfl,by simp,by simp,by simp,by simpa using hin⟩;rintro k _ _ ⟨i,nm,tys,rfl,rfl,hk,hnm,dV,hi⟩;have WX:nm.length=i:=by rw [hnm];simp;omega
 have lV:tys.length=i:=by rw [dV];simp;omega
 refine Ex.seq ?_;refine tb (C7 i v.items.length) (fun g1=> ?_) (fun g1=> ?_)
 ·have g2:=A4 g1
  have hel:=eS v;rw [A8 (by omega),nA v (by omega),lQ] at hi;have Hv:=Ee 155 rfl rfl (.cells (c.enc.map .d)) xo (.cells (c.enc.map .d)) (.map (dmap ds)) (.map (S6 (ss.map (·.1)) 0)) (.cells (c.enc.map .d++[.map 3,.map 4,B4 2 G5 ss])) (.cells (v.enc.map .d)) (L++R) nm tys (nth v.items i).enc (nth v.items i).name (F7 (nth v.items i).expr (L++R)) (by omega) (by omega) (fun a7=>NV (.cells (c.enc.map .d)) xo (.cells (c.enc.map .d)) (.map (dmap ds)) (.map (S6 (ss.map (·.1)) 0)) (.cells (c.enc.map .d++[.map 3,.map 4,B4 2 G5 ss])) (.cells (v.enc.map .d)) a7 (L++R) (nth v.items i) (h4 i (by omega)) Yw)
  repeat' (first|refine c0 Hv rfl (h2:= ?_)|refine gx ?_|fail)
  refine tb (!o9 (Z3 nm (nth v.items i).name (F7 (nth v.items i).expr (L++R))) 0) (fun g3=> ?_) (fun g3=> ?_)
  ·rw [g3,if_pos rfl] at hi
   refine gr ?_;exact ⟨_,_,rfl,by rw [hi];rfl,by rw [same _ hi (by simpa using g3)];rfl⟩
  ·rw [g3,if_neg (by simp)] at hi
   have e1:o9 (Z3 nm (nth v.items i).name (F7 (nth v.items i).expr (L++R))) 0=true:=by simpa using g3
   have e2:jd nm (nth v.items i).name (F7 (nth v.items i).expr (L++R))=nm++[(nth v.items i).name]:=by unfold jd;rw [e1];rfl
   have e3:je nm tys (nth v.items i).name (F7 (nth v.items i).expr (L++R))=tys++[(F7 (nth v.items i).expr (L++R)).1]:=by unfold je;rw [e1];rfl
   rw [e2,e3];refine gr ?_;exact ⟨k - 1,by omega,_,_,rfl,i+1,nm++[(nth v.items i).name],tys++[(F7 (nth v.items i).expr (L++R)).1],rfl,rfl,by omega,by rw [F6 (by omega),hnm];simp,by rw [F6 (by omega),dV];simp,hi⟩
 have g2:=z8 g1;rw [q7 (by omega)] at hnm dV;have Li:i=v.items.length:=by omega
 subst Li;clear g1 g2 hk;refine gr ?_;refine Ex.fG (fun k T H=>∃ (i:Nat) (qG:List D6) (kL:List Int),T=[.ptr 5 0,.any,.any,.any,.ptr 6 0,.any,.any,.ptr 7 0,.any,.any,.ptr 8 0,.any,.any,.any,.any,.any,.any,.any,.any,.any,.any,.d (A5 CN.enc v.C2),.d (num v.C2.length),.d (num i)]/\H=[.cells (c.enc.map .d),xo,.cells (c.enc.map .d),.map (dmap ds),.map (S6 (ss.map (·.1)) 0),.cells (c.enc.map .d++[.map 3,.map 4,B4 2 G5 ss]),.cells (v.enc.map .d),.cells [.d (ints (L++R))],.cells (jz qG kL)]/\i+k=v.C2.length/\qG=nm++(v.C2.take i).map CN.name/\kL=tys++(v.C2.take i).map (pX (L++R))/\X4 v L R=V2 (L++R) qG ((X1 v).drop (v.items.length+i))) ?_ (k:=v.C2.length) ⟨0,nm,tys,rfl,rfl,by simp,by simp,by simp,hi⟩;clear hi;rintro k _ _ ⟨i,qG,kL,rfl,rfl,hk,BH,wB,hi⟩;have hl3:qG.length=v.items.length+i:=by rw [BH,C1,WX];simp;omega
 have hl4:kL.length=v.items.length+i:=by rw [wB,C1,lV];simp;omega
 refine Ex.seq ?_;have hel:=eS v;refine tb (C7 i v.C2.length) (fun g1=> ?_) (fun g1=> ?_)
 ·have g2:=A4 g1
  rw [A8 (by omega),qo v (by omega) (by omega),Nat.add_sub_cancel_left,nW] at hi;have Hv:=Ee 156 rfl rfl (.cells (c.enc.map .d)) xo (.cells (c.enc.map .d)) (.map (dmap ds)) (.map (S6 (ss.map (·.1)) 0)) (.cells (c.enc.map .d++[.map 3,.map 4,B4 2 G5 ss])) (.cells (v.enc.map .d)) (L++R) qG kL (nth v.C2 i).enc (nth v.C2 i).name (bE (L++R) (nth v.C2 i)) (by omega) (by omega) (fun a7=>NW (.cells (c.enc.map .d)) xo (.cells (c.enc.map .d)) (.map (dmap ds)) (.map (S6 (ss.map (·.1)) 0)) (.cells (c.enc.map .d++[.map 3,.map 4,B4 2 G5 ss])) (.cells (v.enc.map .d)) a7 (L++R) (nth v.C2 i) (h5 i (by omega)) Yw)
  repeat' (first|refine c0 Hv rfl (h2:= ?_)|refine gx ?_|fail)
  refine tb (!o9 (Z3 qG (nth v.C2 i).name (bE (L++R) (nth v.C2 i))) 0) (fun g3=> ?_) (fun g3=> ?_)
  ·rw [g3,if_pos rfl] at hi
   refine gr ?_;exact ⟨_,_,rfl,by rw [hi];rfl,by rw [same _ hi (by simpa using g3)];rfl⟩
  ·rw [g3,if_neg (by simp)] at hi
   have e1:o9 (Z3 qG (nth v.C2 i).name (bE (L++R) (nth v.C2 i))) 0=true:=by simpa using g3
   have e2:jd qG (nth v.C2 i).name (bE (L++R) (nth v.C2 i))=qG++[(nth v.C2 i).name]:=by unfold jd;rw [e1];rfl
   have e3:je qG kL (nth v.C2 i).name (bE (L++R) (nth v.C2 i))=kL++[(bE (L++R) (nth v.C2 i)).1]:=by unfold je;rw [e1];rfl
   have e4:o9 (bE (L++R) (nth v.C2 i)).2 0=true:=by
    have e5:=X2 e1;unfold Z3 at e5;cases c1:(!E5 (nth v.C2 i).name) with
    |true=>rw [c1] at e5;simp at e5
    |false =>
     rw [c1] at e5;cases c2:qG.any fun y=>J4 y (nth v.C2 i).name with
     |true=>rw [c2] at e5;simp at e5
     |false =>
      rw [c2] at e5;cases c3:o9 (bE (L++R) (nth v.C2 i)).2 0 with
      |true=>rfl
      |false=>rw [c3] at e5;simp at e5;rw [e5] at c3;simp [j9] at c3
   rw [e2,e3];refine gr ?_;exact ⟨k - 1,by omega,_,_,rfl,i+1,qG++[(nth v.C2 i).name],kL++[(bE (L++R) (nth v.C2 i)).1],rfl,rfl,by omega,by rw [F6 (by omega),BH];simp,by rw [F6 (by omega),wB,Ie e4];simp,hi⟩
 ·have g2:=z8 g1
  rw [q7 (by omega)] at BH wB;rw [m6 (by omega)] at hi;have e1:X4 v L R=0:=hi;have e2:lz ss v L R=ss++[(v.name,(X1 v).map CR.name,X7 v (L++R))]:=by unfold lz;rw [e1];simp [j9]
  have e3:qG=(X1 v).map CR.name:=by rw [BH,hnm];simp [X1,Function.comp_def]
  have e4:kL=X7 v (L++R):=by rw [wB,dV];rfl
  rw [e2,e3,e4];refine gr ?_;unfold jz
  repeat' (first|refine c0 wU rfl (h2:= ?_)|refine gx ?_|fail)
  exact ⟨_,_,rfl,by rw [e1];rfl,rfl⟩
end Go.Proofs.YtkmclibmmlgogaaGreat.dK


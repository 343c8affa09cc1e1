/- Texts D29w D30w (made short by a program) -/
import Derived.Test.YtkmclibmmlgogaaGreatE0
import Derived.Test.YtkmclibmmlgogaaGreatW0
set_option linter.unusedVariables false
set_option linter.unusedSimpArgs false
open List renaming drop_of_length_le → m7, length_append → C1, take_of_length_le → s6
namespace Go.Proofs.YtkmclibmmlgogaaGreat.fB
open Go.u7 Go.u7.S
attribute [local irreducible] Rx Ry Rn Ex Pf
variable [Inhabited XO]
def l9:F9:=⟨0,0,10,10⟩
def MG:F9:=⟨0,10,10,10⟩
theorem Nl (a0 ax a1 a2 a3 a4 a5 a7:u5)(ty:List Int)(x:FK)(h0:x.expr.length<=1000)(h1:ty.length<=100000) :
  Pm A 155 [.ptr 9 0,.ptr 7 0] [a0,ax,a1,a2,a3,a4,a5,.cells [.d (ints ty)],a7,.cells (x.enc.map .d)] MG (pair (E4 x.expr ty)) [a0,ax,a1,a2,a3,a4,a5,.cells [.d (ints ty)],a7,.cells (x.enc.map .d)]:=by
 have _x:=(default:XO);have p1:=DA x.expr ty h0 h1;unfold pair at *
 suffices h:Pq A 155 [.ptr 9 0,.ptr 7 0] [a0,ax,a1,a2,a3,a4,a5,.cells [.d (ints ty)],a7,.cells (x.enc.map .d)] MG fun v H1=>v= .tuple [.d (num (E4 x.expr ty).1),.d (num (E4 x.expr ty).2)]/\H1=[a0,ax,a1,a2,a3,a4,a5,.cells [.d (ints ty)],a7,.cells (x.enc.map .d)] by
  obtain ⟨v,H1,⟨rfl,rfl⟩,h⟩:=h;exact h
 refine Pq.run (b:=10) [.ptr 9 0,.ptr 7 0,.any,.any] rfl rfl rfl rfl rfl ?_
 repeat' (first|refine cl (p1) ?_|refine gx ?_|fail)
 exact ⟨_,_,rfl,rfl,rfl⟩
theorem Nn (a0 ax a1 a2 a3 a4 a5 a7:u5)(ty:List Int)(x:yA)(h0:x.expr.length<=1000)(h1:ty.length<=100000) :
  Pm A 156 [.ptr 9 0,.ptr 7 0] [a0,ax,a1,a2,a3,a4,a5,.cells [.d (ints ty)],a7,.cells (x.enc.map .d)] MG (pair (aY ty x)) [a0,ax,a1,a2,a3,a4,a5,.cells [.d (ints ty)],a7,.cells (x.enc.map .d)]:=by
 have _x:=(default:XO);have p1:=Sx ty x h0 h1;unfold pair at *
 suffices h:Pq A 156 [.ptr 9 0,.ptr 7 0] [a0,ax,a1,a2,a3,a4,a5,.cells [.d (ints ty)],a7,.cells (x.enc.map .d)] MG fun v H1=>v= .tuple [.d (num (aY ty x).1),.d (num (aY ty x).2)]/\H1=[a0,ax,a1,a2,a3,a4,a5,.cells [.d (ints ty)],a7,.cells (x.enc.map .d)] by
  obtain ⟨v,H1,⟨rfl,rfl⟩,h⟩:=h;exact h
 refine Pq.run (b:=10) [.ptr 9 0,.ptr 7 0,.any,.any] rfl rfl rfl rfl rfl ?_
 repeat' (first|refine cl (p1) ?_|refine gx ?_|fail)
 exact ⟨_,_,rfl,rfl,rfl⟩
set_option maxHeartbeats 8000000 in
theorem DC (f:FuncId)(hf1:A.prom f=false)(hf2:A.mode f=1)(a0 ax a1 a2 a3 a4 a5:u5)(ty:List Int)(nm:List C7)(tys:List Int)(cs:List u7.Data)(s:C7)(r:Int×Int)(hn:nm.length<=10000)(ht:tys.length<=10000)
  (hc:∀ a7,Pm A f [.ptr 9 0,.ptr 7 0] [a0,ax,a1,a2,a3,a4,a5,.cells [.d (ints ty)],a7,.cells (cs.map .d)] MG (pair r) [a0,ax,a1,a2,a3,a4,a5,.cells [.d (ints ty)],a7,.cells (cs.map .d)]) :
  Pm A 154 [.ptr 8 0,.d (.str s),.func f [] [.ptr 9 0,.ptr 7 0]] [a0,ax,a1,a2,a3,a4,a5,.cells [.d (ints ty)],.cells (jg nm tys),.cells (cs.map .d)] l9 (.d (num (Y3 nm s r)))
   [a0,ax,a1,a2,a3,a4,a5,.cells [.d (ints ty)],.cells (jg (iP nm s r) (iQ nm tys s r)),.cells (cs.map .d)]:=by
 have _x:=(default:XO);have p1:=hc (.cells (jg nm tys));have p2:=Ir nm s (by omega);unfold pair at p1
 suffices h:Pq A 154 [.ptr 8 0,.d (.str s),.func f [] [.ptr 9 0,.ptr 7 0]] [a0,ax,a1,a2,a3,a4,a5,.cells [.d (ints ty)],.cells (jg nm tys),.cells (cs.map .d)] l9 fun v H1=>v= .d (num (Y3 nm s r))/\H1=[a0,ax,a1,a2,a3,a4,a5,.cells [.d (ints ty)],.cells (jg (iP nm s r) (iQ nm tys s r)),.cells (cs.map .d)] by
  obtain ⟨v,H1,⟨rfl,rfl⟩,h⟩:=h;exact h
 have same:∀ e,Y3 nm s r=e->o8 e 0=false->iP nm s r=nm/\iQ nm tys s r=tys:=fun e h1 h2=>by unfold iP iQ;rw [h1,h2];exact ⟨rfl,rfl⟩
 have VL:roomFor (nm.length+1) 16=true:=by simp only [roomFor,decide_eq_true_eq];omega
 have Sf:roomFor (tys.length+1) 8=true:=by simp only [roomFor,decide_eq_true_eq];omega
 refine Pq.run (b:=10) [.ptr 8 0,.d (.str s),.func f [] [.ptr 9 0,.ptr 7 0],.any,.any,.any] rfl rfl rfl rfl rfl ?_;refine gr ?_;refine tB (!D3 s) ?_ (fun h1=> ?_) (fun h1=> ?_)
 ·repeat' (first|refine cl (zj _) ?_|refine gx ?_|refine fk (h1:=fun hw=> ?_) (h2:=fun hw=> ?_)|refine M8 (h1:=fun hw=> ?_) (h2:=fun hw=> ?_)|refine ⟨rfl,rfl,_,rfl,?_⟩|refine ⟨rfl,rfl⟩|fail)
  all_goals exact cc
 ·have e1:Y3 nm s r=3:=by unfold Y3;rw [h1];rfl
  have e2:=same 3 e1 (by simp [j5]);refine gr ?_;exact ⟨_,_,rfl,by rw [e1];rfl,by rw [e2.1,e2.2];rfl⟩
 unfold jg;refine gr ?_;refine tB (nm.any fun y=>I9 y s) ?_ (fun h2=> ?_) (fun h2=> ?_)
 ·repeat' (first|refine cl (p2) ?_|refine gx ?_|refine fk (h1:=fun hw=> ?_) (h2:=fun hw=> ?_)|refine M8 (h1:=fun hw=> ?_) (h2:=fun hw=> ?_)|refine ⟨rfl,rfl,_,rfl,?_⟩|refine ⟨rfl,rfl⟩|fail)
  all_goals exact cc
 ·have e1:Y3 nm s r=4:=by unfold Y3;rw [h1,h2];rfl
  have e2:=same 4 e1 (by simp [j5]);refine gr ?_;exact ⟨_,_,rfl,by rw [e1];rfl,by rw [e2.1,e2.2];rfl⟩
 unfold jg at p1
 repeat' (first|refine WY (dc:=hf1) (hm:=hf2) p1 rfl ?_|refine gx ?_|fail)
 refine tb (!o8 r.2 0) (fun h3=> ?_) (fun h3=> ?_)
 ·have e1:Y3 nm s r=r.2:=by unfold Y3;rw [h1,h2,h3];rfl
  have e2:=same _ e1 (by simpa using h3);refine gr ?_;exact ⟨_,_,rfl,by rw [e1];rfl,by rw [e2.1,e2.2];rfl⟩
 have e1:Y3 nm s r=0:=by unfold Y3;rw [h1,h2,h3];rfl
 have e2:iP nm s r=nm++[s]:=by unfold iP;rw [e1];simp [j5]
 have e3:iQ nm tys s r=tys++[r.1]:=by unfold iQ;rw [e1];simp [j5]
 refine gr ?_;refine ZU (a:=s) (xs:=nm) (enc:=encS) VL rfl (h2:= ?_);refine gr ?_;refine ZU (a:=r.1) (xs:=tys) (enc:=fun n=>[num n]) Sf rfl (h2:= ?_)
 repeat' (first|refine Zq (h2:= ?_)|refine gx ?_|fail)
 exact ⟨_,_,rfl,by rw [e1];rfl,by rw [e2,e3];rfl⟩
end Go.Proofs.YtkmclibmmlgogaaGreat.fB
namespace Go.Proofs.YtkmclibmmlgogaaGreat.fB
open Go.u7 Go.u7.S
attribute [local irreducible] Rx Ry Rn Ex Pf
variable [Inhabited XO]
set_option maxHeartbeats 32000000 in
theorem Ni (c:m9)(ds:List C7)(ss:List W5)(v:Vw)(L R:List Int)(hL:L.length<=5000)(hR:R.length<=5000)(h0:v.on.length<=1000)(h1:v.wh.length<=1000)(h2:v.items.length<=1000)(h3:v.B3.length<=1000)(h4:∀ i,i<v.items.length->(nth v.items i).expr.length<=1000)(h5:∀ i,i<v.B3.length->(nth v.B3 i).expr.length<=1000)
  (hs:((ss.map (·.1)).any fun y=>I9 y v.name)=false) (Da:ss.length<=1000):Pm A 120 [.ptr 5 0,vw v,.d (ints L),.d (ints R)] (HH c ds ss) lW (.d (num (W1 v L R))) (HH c ds (kE ss v L R)):=by
 suffices h:Pq A 120 [.ptr 5 0,vw v,.d (ints L),.d (ints R)] (HH c ds ss) lW fun w H1=>w= .d (num (W1 v L R))/\H1=HH c ds (kE ss v L R) by
  obtain ⟨w,H1,⟨rfl,rfl⟩,h⟩:=h;exact h
 have same:∀ e,W1 v L R=e->o8 e 0=false->kE ss v L R=ss:=fun e g1 g2=>by unfold kE;rw [g1,g2];rfl
 have vX:=wm c ds ss v.name ((W9 v).map FA.name) (V2 v (L++R)) hs Da;have MY:=Sw [L,R] (by simp) (by
  intro i hi
  match i,hi with
  |0,_=>rw [S7];omega
  |1,_=>rw [lI,S7];omega)
 have pW:=DA v.wh (L++R) h1 (by simp;omega);unfold pair at pW;have hfl:[L,R].flatten=L++R:=by simp
 rw [hfl] at MY;have Xg:(L++R).length<=100000:=by simp;omega
 unfold HH at *
 refine Pq.run (b:=6) [.ptr 5 0,vw v,.d (ints L),.d (ints R),.any,.any,.any,.any,.any,.any,.any,.any,.any,.any,.any,.any,.any,.any,.any,.any,.any,.any,.any,.any] rfl rfl rfl rfl rfl ?_;refine gr ?_;refine Ex.ff (fun k T H=>∃ (i:Nat),T=[.ptr 5 0,.any,.d (ints L),.d (ints R),.ptr 6 0,.any,.any,.any,.any,.any,.any,.any,.any,.any,.any,.d (y7 (fun p=>[num p.1,num p.2]) v.on),.d (num v.on.length),.d (num i),.any,.any,.any,.any,.any,.any]/\H=[.cells (c.enc.map .d),xo,.cells (c.enc.map .d),.map (dmap ds),.map (R1 (ss.map (·.1)) 0),.cells (c.enc.map .d++[.map 3,.map 4,A5 2 E9 ss]),.cells (v.enc.map .d)]/\i+k=v.on.length/\G6 L R v.on=G6 L R (v.on.drop i)) ?_ (k:=v.on.length) ⟨0,rfl,rfl,by simp,by simp⟩;rintro k _ _ ⟨i,rfl,rfl,hk,hi⟩;refine Ex.seq ?_;refine tb (C2 i v.on.length) (fun g1=> ?_) (fun g1=> ?_)
 ·have g2:=z6 g1
  rw [A4 (by omega)] at hi;refine gr ?_;refine tB (!n7 (nth v.on i).1 0 (L.length - 1)|| !n7 (nth v.on i).2 0 (R.length - 1)) ?_ (fun g3=> ?_) (fun g3=> ?_)
  ·repeat' (first|refine cl (bu _ _ _) ?_|refine gx ?_|refine fk (h1:=fun hw=> ?_) (h2:=fun hw=> ?_)|refine M8 (h1:=fun hw=> ?_) (h2:=fun hw=> ?_)|refine ⟨rfl,rfl,_,rfl,?_⟩|refine ⟨rfl,rfl⟩|fail)
   all_goals exact cc
  ·have e1:G6 L R v.on=3:=by rw [hi,G6,g3];rfl
   have e2:W1 v L R=3:=by unfold W1;rw [e1];simp [j5]
   refine gr ?_;exact ⟨_,_,rfl,by rw [e2];rfl,by rw [same 3 e2 (by simp [j5])];rfl⟩
  have g4:=g3;simp [n7,o5] at g4;refine gr ?_;refine tb (!o8 (nth L (nth v.on i).1.toNat) (nth R (nth v.on i).2.toNat)) (fun g5=> ?_) (fun g5=> ?_)
  ·have e1:G6 L R v.on=5:=by rw [hi,G6,g3,g5];rfl
   have e2:W1 v L R=5:=by unfold W1;rw [e1];simp [j5]
   refine gr ?_;exact ⟨_,_,rfl,by rw [e2];rfl,by rw [same 5 e2 (by simp [j5])];rfl⟩
  ·refine gr ?_
   exact ⟨k - 1,by omega,_,_,rfl,i+1,rfl,rfl,by omega,by rw [hi,G6,g3,g5];rfl⟩
 have g2:=z8 g1;rw [m7 (by omega)] at hi;have e0:(!o8 (G6 L R v.on) 0)=false:=by rw [hi];simp [G6,j5]
 clear g1 g2 hk hi
 repeat' (first|refine cl (MY) ?_|refine gx ?_|fail)
 refine Ex.IM (fun s=>∃ (w1 w2 w3 w5 w6 w8 w9 gm ep xX Oo Ot Zv Zw Zx Zy Zz ZA ZB ZC ZD:b6),s=⟨[.ptr 5 0,w1,w2,w3,.ptr 6 0,w5,w6,.ptr 7 0,w8,w9,gm,ep,xX,Oo,Ot,Zv,Zw,Zx,Zy,Zz,ZA,ZB,ZC,ZD],[.cells (c.enc.map .d),xo,.cells (c.enc.map .d),.map (dmap ds),.map (R1 (ss.map (·.1)) 0),.cells (c.enc.map .d++[.map 3,.map 4,A5 2 E9 ss]),.cells (v.enc.map .d),.cells [.d (ints (L++R))]]⟩/\W1 v L R=U4 (L++R) [] (W9 v)) ?_ ?_
 ·skip
  refine tb (C2 0 v.wh.length) (fun g6=> ?_) (fun g6=> ?_)
  ·repeat' (first|refine cl (pW) ?_|refine gx ?_|fail)
   refine tb (!o8 (E4 v.wh (L++R)).2 0) (fun g7=> ?_) (fun g7=> ?_)
   ·have e1:W1 v L R=(E4 v.wh (L++R)).2:=by unfold W1;rw [e0,g6,g7];rfl
    refine gr ?_;exact ⟨_,_,rfl,by rw [e1];rfl,by rw [same _ e1 (by simpa using g7)];rfl⟩
   refine gr ?_;refine tb (!o8 (E4 v.wh (L++R)).1 1) (fun g8=> ?_) (fun g8=> ?_)
   ·have e1:W1 v L R=5:=by unfold W1;rw [e0,g6,g7,g8];rfl
    refine gr ?_;exact ⟨_,_,rfl,by rw [e1];rfl,by rw [same 5 e1 (by simp [j5])];rfl⟩
   ·have e1:W1 v L R=U4 (L++R) [] (W9 v):=by unfold W1;rw [e0,g6,g7,g8];rfl
    refine gr ?_;exact ⟨_,_,_,_,_,_,_,_,_,_,_,_,_,_,_,_,_,_,_,_,_,rfl,e1⟩
  ·have e1:W1 v L R=U4 (L++R) [] (W9 v):=by unfold W1;rw [e0,g6];rfl
   refine gr ?_;exact ⟨_,_,_,_,_,_,_,_,_,_,_,_,_,_,_,_,_,_,_,_,_,rfl,e1⟩
 rintro _ ⟨w1,w2,w3,w5,w6,w8,w9,gm,ep,xX,Oo,Ot,Zv,Zw,Zx,Zy,Zz,ZA,ZB,ZC,ZD,rfl,hin⟩;refine gr ?_;refine Ex.ff (fun k T H=>∃ (i:Nat) (nm:List C7) (tys:List Int),T=[.ptr 5 0,.any,.any,.any,.ptr 6 0,.any,.any,.ptr 7 0,.any,.any,.ptr 8 0,.any,.any,.any,.any,.any,.any,.any,.d (y7 FK.enc v.items),.d (num v.items.length),.d (num i),.any,.any,.any]/\H=[.cells (c.enc.map .d),xo,.cells (c.enc.map .d),.map (dmap ds),.map (R1 (ss.map (·.1)) 0),.cells (c.enc.map .d++[.map 3,.map 4,A5 2 E9 ss]),.cells (v.enc.map .d),.cells [.d (ints (L++R))],.cells (jg nm tys)]/\i+k=v.items.length/\nm=(v.items.take i).map FK.name/\tys=(v.items.take i).map (fun x=>(E4 x.expr (L++R)).1)/\W1 v L R=U4 (L++R) nm ((W9 v).drop i)) ?_ (k:=v.items.length) ⟨0,[],[],rfl,rfl,by simp,by simp,by simp,by simpa using hin⟩;rintro k _ _ ⟨i,nm,tys,rfl,rfl,hk,hnm,dy,hi⟩;have VJ:nm.length=i:=by rw [hnm];simp;omega
 have kU:tys.length=i:=by rw [dy];simp;omega
 refine Ex.seq ?_;refine tb (C2 i v.items.length) (fun g1=> ?_) (fun g1=> ?_)
 ·have g2:=z6 g1
  have hel:=eC v;rw [A4 (by omega),mQ v (by omega),kS] at hi;have GQ:=DC 155 rfl rfl (.cells (c.enc.map .d)) xo (.cells (c.enc.map .d)) (.map (dmap ds)) (.map (R1 (ss.map (·.1)) 0)) (.cells (c.enc.map .d++[.map 3,.map 4,A5 2 E9 ss])) (.cells (v.enc.map .d)) (L++R) nm tys (nth v.items i).enc (nth v.items i).name (E4 (nth v.items i).expr (L++R)) (by omega) (by omega) (fun a7=>Nl (.cells (c.enc.map .d)) xo (.cells (c.enc.map .d)) (.map (dmap ds)) (.map (R1 (ss.map (·.1)) 0)) (.cells (c.enc.map .d++[.map 3,.map 4,A5 2 E9 ss])) (.cells (v.enc.map .d)) a7 (L++R) (nth v.items i) (h4 i (by omega)) Xg)
  repeat' (first|refine c0 GQ rfl (h2:= ?_)|refine gx ?_|fail)
  refine tb (!o8 (Y3 nm (nth v.items i).name (E4 (nth v.items i).expr (L++R))) 0) (fun g3=> ?_) (fun g3=> ?_)
  ·rw [g3,if_pos rfl] at hi
   refine gr ?_;exact ⟨_,_,rfl,by rw [hi];rfl,by rw [same _ hi (by simpa using g3)];rfl⟩
  ·rw [g3,if_neg (by simp)] at hi
   have e1:o8 (Y3 nm (nth v.items i).name (E4 (nth v.items i).expr (L++R))) 0=true:=by simpa using g3
   have e2:iP nm (nth v.items i).name (E4 (nth v.items i).expr (L++R))=nm++[(nth v.items i).name]:=by unfold iP;rw [e1];rfl
   have e3:iQ nm tys (nth v.items i).name (E4 (nth v.items i).expr (L++R))=tys++[(E4 (nth v.items i).expr (L++R)).1]:=by unfold iQ;rw [e1];rfl
   rw [e2,e3];refine gr ?_;exact ⟨k - 1,by omega,_,_,rfl,i+1,nm++[(nth v.items i).name],tys++[(E4 (nth v.items i).expr (L++R)).1],rfl,rfl,by omega,by rw [I6 (by omega),hnm];simp,by rw [I6 (by omega),dy];simp,hi⟩
 have g2:=z8 g1;rw [s6 (by omega)] at hnm dy;have Kz:i=v.items.length:=by omega
 subst Kz;clear g1 g2 hk;refine gr ?_;refine Ex.ff (fun k T H=>∃ (i:Nat) (pX:List C7) (jZ:List Int),T=[.ptr 5 0,.any,.any,.any,.ptr 6 0,.any,.any,.ptr 7 0,.any,.any,.ptr 8 0,.any,.any,.any,.any,.any,.any,.any,.any,.any,.any,.d (y7 yA.enc v.B3),.d (num v.B3.length),.d (num i)]/\H=[.cells (c.enc.map .d),xo,.cells (c.enc.map .d),.map (dmap ds),.map (R1 (ss.map (·.1)) 0),.cells (c.enc.map .d++[.map 3,.map 4,A5 2 E9 ss]),.cells (v.enc.map .d),.cells [.d (ints (L++R))],.cells (jg pX jZ)]/\i+k=v.B3.length/\pX=nm++(v.B3.take i).map yA.name/\jZ=tys++(v.B3.take i).map (oO (L++R))/\W1 v L R=U4 (L++R) pX ((W9 v).drop (v.items.length+i))) ?_ (k:=v.B3.length) ⟨0,nm,tys,rfl,rfl,by simp,by simp,by simp,hi⟩;clear hi;rintro k _ _ ⟨i,pX,jZ,rfl,rfl,hk,Ba,vD,hi⟩;have hl3:pX.length=v.items.length+i:=by rw [Ba,C1,VJ];simp;omega
 have hl4:jZ.length=v.items.length+i:=by rw [vD,C1,kU];simp;omega
 refine Ex.seq ?_;have hel:=eC v;refine tb (C2 i v.B3.length) (fun g1=> ?_) (fun g1=> ?_)
 ·have g2:=z6 g1
  rw [A4 (by omega),pE v (by omega) (by omega),Nat.add_sub_cancel_left,nB] at hi;have GQ:=DC 156 rfl rfl (.cells (c.enc.map .d)) xo (.cells (c.enc.map .d)) (.map (dmap ds)) (.map (R1 (ss.map (·.1)) 0)) (.cells (c.enc.map .d++[.map 3,.map 4,A5 2 E9 ss])) (.cells (v.enc.map .d)) (L++R) pX jZ (nth v.B3 i).enc (nth v.B3 i).name (aY (L++R) (nth v.B3 i)) (by omega) (by omega) (fun a7=>Nn (.cells (c.enc.map .d)) xo (.cells (c.enc.map .d)) (.map (dmap ds)) (.map (R1 (ss.map (·.1)) 0)) (.cells (c.enc.map .d++[.map 3,.map 4,A5 2 E9 ss])) (.cells (v.enc.map .d)) a7 (L++R) (nth v.B3 i) (h5 i (by omega)) Xg)
  repeat' (first|refine c0 GQ rfl (h2:= ?_)|refine gx ?_|fail)
  refine tb (!o8 (Y3 pX (nth v.B3 i).name (aY (L++R) (nth v.B3 i))) 0) (fun g3=> ?_) (fun g3=> ?_)
  ·rw [g3,if_pos rfl] at hi
   refine gr ?_;exact ⟨_,_,rfl,by rw [hi];rfl,by rw [same _ hi (by simpa using g3)];rfl⟩
  ·rw [g3,if_neg (by simp)] at hi
   have e1:o8 (Y3 pX (nth v.B3 i).name (aY (L++R) (nth v.B3 i))) 0=true:=by simpa using g3
   have e2:iP pX (nth v.B3 i).name (aY (L++R) (nth v.B3 i))=pX++[(nth v.B3 i).name]:=by unfold iP;rw [e1];rfl
   have e3:iQ pX jZ (nth v.B3 i).name (aY (L++R) (nth v.B3 i))=jZ++[(aY (L++R) (nth v.B3 i)).1]:=by unfold iQ;rw [e1];rfl
   have e4:o8 (aY (L++R) (nth v.B3 i)).2 0=true:=by
    have e5:=X2 e1;unfold Y3 at e5;cases c1:(!D3 (nth v.B3 i).name) with
    |true=>rw [c1] at e5;simp at e5
    |false =>
     rw [c1] at e5;cases c2:pX.any fun y=>I9 y (nth v.B3 i).name with
     |true=>rw [c2] at e5;simp at e5
     |false =>
      rw [c2] at e5;cases c3:o8 (aY (L++R) (nth v.B3 i)).2 0 with
      |true=>rfl
      |false=>rw [c3] at e5;simp at e5;rw [e5] at c3;simp [j5] at c3
   rw [e2,e3];refine gr ?_;exact ⟨k - 1,by omega,_,_,rfl,i+1,pX++[(nth v.B3 i).name],jZ++[(aY (L++R) (nth v.B3 i)).1],rfl,rfl,by omega,by rw [I6 (by omega),Ba];simp,by rw [I6 (by omega),vD,Hz e4];simp,hi⟩
 ·have g2:=z8 g1
  rw [s6 (by omega)] at Ba vD;rw [m7 (by omega)] at hi;have e1:W1 v L R=0:=hi;have e2:kE ss v L R=ss++[(v.name,(W9 v).map FA.name,V2 v (L++R))]:=by unfold kE;rw [e1];simp [j5]
  have e3:pX=(W9 v).map FA.name:=by rw [Ba,hnm];simp [W9,Function.comp_def]
  have e4:jZ=V2 v (L++R):=by rw [vD,dy];rfl
  rw [e2,e3,e4];refine gr ?_;unfold jg
  repeat' (first|refine c0 vX rfl (h2:= ?_)|refine gx ?_|fail)
  exact ⟨_,_,rfl,by rw [e1];rfl,rfl⟩
end Go.Proofs.YtkmclibmmlgogaaGreat.fB


/- Texts D26 D27 (made short by a program) -/
import Derived.Test.YtkmclibmmlgogaaGreatD8
set_option linter.unusedVariables false
set_option linter.unusedSimpArgs false
namespace Go.Proofs.YtkmclibmmlgogaaGreat
open Go.y3 Go.y3.S
attribute [local irreducible] Rx Ry Rn Ex Pf
def dW (c:m8)(ss:List Y4)(t:eZ)(i:Nat):Int :=
 if !E3 (nth t.m7 i).name||(!J2 (nth t.m7 i).space []&& !E3 (nth t.m7 i).space) then 3
 else if (t.m7.take i).any fun y=>J2 y.name (nth t.m7 i).name then 4
 else if !J2 (nth t.m7 i).refs []&&C9 (C0 (nth t.m7 i).refs (ss.map (·.1)) 0) 0 then 7
 else if !(o9 (nth t.m7 i).type 1||o9 (nth t.m7 i).type 2)||(W8 0 (C0 (nth t.m7 i).refs (ss.map (·.1)) 0)&& !o9 (nth t.m7 i).type (nth (nth ss (C0 (nth t.m7 i).refs (ss.map (·.1)) 0).toNat).2.2 0)) then 5
 else if (!J2 (nth t.m7 i).space []&& !J2 (nth t.m7 i).refs [])|| !T1 t (-1) (nth t.m7 i).C5|| !jk t (nth t.m7 i) then 1
 else if o9 i 0&&C9 0 (nth t.m7 i).C5.length&& !o9 t.erase 1 then 1
 else if W8 0 (C0 (nth t.m7 i).refs (ss.map (·.1)) 0)&&C9 0 (nth (nth c.j3 (C0 (nth t.m7 i).refs (ss.map (·.1)) 0).toNat).m7 0).C5.length&& !((nth t.m7 i).C5.any fun y=>o9 y i) then 1
 else 0
set_option maxHeartbeats 8000000 in
theorem Qe (c:m8)(ds:List D8)(ss:List Y4)(t:eZ)(i:Nat)(hi:i<t.m7.length)(hc:t.m7.length<=1000)(ho:(nth t.m7 i).C5.length<=1000)(EF:ss.length<=c.j3.length)(ht:∀ k,k<ss.length->0<(nth ss k).2.2.length/\0<(nth c.j3 k).m7.length) :
  Pm A 110 [.ptr 4 0,iT t,.d (num i)] (HH c ds ss) lR (.d (num (dW c ss t i))) (HH c ds ss):=by
 have TJ:=lN c ds ss (nth t.m7 i).refs;have b1:=jh ss (nth t.m7 i).refs;have b2:(C0 (nth t.m7 i).refs (ss.map (·.1)) 0)= -1\/(0<=(C0 (nth t.m7 i).refs (ss.map (·.1)) 0)/\(C0 (nth t.m7 i).refs (ss.map (·.1)) 0)<ss.length/\0<(nth ss (C0 (nth t.m7 i).refs (ss.map (·.1)) 0).toNat).2.2.length/\0<(nth c.j3 (C0 (nth t.m7 i).refs (ss.map (·.1)) 0).toNat).m7.length):=by
  rcases b1 with h|h
  ·exact Or.inl h
  ·have:=ht (C0 (nth t.m7 i).refs (ss.map (·.1)) 0).toNat (by omega)
   exact Or.inr ⟨h.1,h.2,this.1,this.2⟩
 have Yv:=Vu t (nth t.m7 i).C5 ho hc;have Yw:=Vv t (nth t.m7 i);have q49:=XU (nth t.m7 i).C5 i (by omega)
 suffices h:Pq A 110 [.ptr 4 0,iT t,.d (num i)] (HH c ds ss) lR fun v H1=>v= .d (num (dW c ss t i))/\H1=HH c ds ss by
  obtain ⟨v,H1,⟨rfl,rfl⟩,h⟩:=h;exact h
 unfold HH at *
 have Yu:=Qg (.cells (c.enc.map .d)) (.cells (c.enc.map .d)) (.map (dmap ds)) (.map (T3 (ss.map (·.1)) 0)) (.cells (c.enc.map .d++[.map 2,.map 3,B3 2 F9 ss])) (.cells (t.enc.map .d)) (nth t.m7 i) (t.m7.take i) (by simp;omega);refine Pq.run (b:=5) [.ptr 4 0,iT t,.d (num i),.any,.any,.any,.any,.any] rfl rfl rfl rfl rfl ?_;refine gr ?_;refine tB (!E3 (nth t.m7 i).name||(!J2 (nth t.m7 i).space []&& !E3 (nth t.m7 i).space)) ?_ (fun h1=> ?_) (fun h1=> ?_)
 ·repeat' (first|refine cl (AW _) ?_|refine gx ?_|refine fk (h1:=fun hw=> ?_) (h2:=fun hw=> ?_)|refine L7 (h1:=fun hw=> ?_) (h2:=fun hw=> ?_)|refine ⟨rfl,rfl,_,rfl,?_⟩|refine ⟨rfl,rfl⟩|fail)
  all_goals exact cc
 ·refine gr ?_
  exact ⟨_,_,rfl,by unfold dW;rw [h1];rfl,rfl⟩
 refine gr ?_;refine tB ((t.m7.take i).any fun y=>J2 y.name (nth t.m7 i).name) ?_ (fun h2=> ?_) (fun h2=> ?_)
 ·repeat' (first|refine c1 Yu rfl ?_|refine gx ?_|refine fk (h1:=fun hw=> ?_) (h2:=fun hw=> ?_)|refine L7 (h1:=fun hw=> ?_) (h2:=fun hw=> ?_)|refine ⟨rfl,rfl,_,rfl,?_⟩|refine ⟨rfl,rfl⟩|fail)
  all_goals exact cc
 ·refine gr ?_
  exact ⟨_,_,rfl,by unfold dW;rw [h1,h2];rfl,rfl⟩
 repeat' (first|refine c1 TJ rfl ?_|refine gx ?_|fail)
 refine tb (!J2 (nth t.m7 i).refs []&&C9 (C0 (nth t.m7 i).refs (ss.map (·.1)) 0) 0) (fun h3=> ?_) (fun h3=> ?_)
 ·refine gr ?_
  exact ⟨_,_,rfl,by unfold dW;rw [h1,h2,h3];rfl,rfl⟩
 refine gr ?_;refine tB (!(o9 (nth t.m7 i).type 1||o9 (nth t.m7 i).type 2)||(W8 0 (C0 (nth t.m7 i).refs (ss.map (·.1)) 0)&& !o9 (nth t.m7 i).type (nth (nth ss (C0 (nth t.m7 i).refs (ss.map (·.1)) 0).toNat).2.2 0))) ?_ (fun h4=> ?_) (fun h4=> ?_)
 ·repeat' (first|refine cl (Vr _) ?_|refine gx ?_|refine fk (h1:=fun hw=> ?_) (h2:=fun hw=> ?_)|refine L7 (h1:=fun hw=> ?_) (h2:=fun hw=> ?_)|refine ⟨rfl,rfl,_,rfl,?_⟩|refine ⟨rfl,rfl⟩|fail)
  all_goals exact cc
 ·refine gr ?_
  exact ⟨_,_,rfl,by unfold dW;rw [h1,h2,h3,h4];rfl,rfl⟩
 refine gr ?_;refine tB ((!J2 (nth t.m7 i).space []&& !J2 (nth t.m7 i).refs [])|| !T1 t (-1) (nth t.m7 i).C5|| !jk t (nth t.m7 i)) ?_ (fun h5=> ?_) (fun h5=> ?_)
 ·repeat' (first|refine cl (Yv) ?_|refine cl (Yw) ?_|refine gx ?_|refine fk (h1:=fun hw=> ?_) (h2:=fun hw=> ?_)|refine L7 (h1:=fun hw=> ?_) (h2:=fun hw=> ?_)|refine ⟨rfl,rfl,_,rfl,?_⟩|refine ⟨rfl,rfl⟩|fail)
  all_goals exact cc
 ·refine gr ?_
  exact ⟨_,_,rfl,by unfold dW;rw [h1,h2,h3,h4,h5];rfl,rfl⟩
 refine gr ?_;refine tb (o9 i 0&&C9 0 (nth t.m7 i).C5.length&& !o9 t.erase 1) (fun h6=> ?_) (fun h6=> ?_)
 ·refine gr ?_
  exact ⟨_,_,rfl,by unfold dW;rw [h1,h2,h3,h4,h5,h6];rfl,rfl⟩
 refine gr ?_;refine tB (W8 0 (C0 (nth t.m7 i).refs (ss.map (·.1)) 0)&&C9 0 (nth (nth c.j3 (C0 (nth t.m7 i).refs (ss.map (·.1)) 0).toNat).m7 0).C5.length&& !((nth t.m7 i).C5.any fun y=>o9 y i)) ?_ (fun h7=> ?_) (fun h7=> ?_)
 ·repeat' (first|refine cl (q49) ?_|refine gx ?_|refine fk (h1:=fun hw=> ?_) (h2:=fun hw=> ?_)|refine L7 (h1:=fun hw=> ?_) (h2:=fun hw=> ?_)|refine ⟨rfl,rfl,_,rfl,?_⟩|refine ⟨rfl,rfl⟩|fail)
  all_goals exact cc
 ·refine gr ?_
  exact ⟨_,_,rfl,by unfold dW;rw [h1,h2,h3,h4,h5,h6,h7];rfl,rfl⟩
 refine gr ?_;exact ⟨_,_,rfl,by unfold dW;rw [h1,h2,h3,h4,h5,h6,h7];rfl,rfl⟩
def uf (c:m8)(ss:List Y4)(t:eZ):Nat->Nat->Int
 |0,_=>0
 |k+1,i=>if !o9 (dW c ss t i) 0 then dW c ss t i else uf c ss t k (i+1)
def eG (t:eZ):Bool:= !n7 t.m7.length 1 8||(!o9 t.erase 0&& !o9 t.erase 1)|| !n7 t.Z4 0 1048576
def gY (c:m8)(ss:List Y4)(ds:List D8)(t:eZ):Int :=
 if !o9 (E8 ds t.name) 0 then E8 ds t.name else if eG t then 1 else uf c ss t t.m7.length 0
def rW (c:m8)(ss:List Y4)(ds:List D8)(t:eZ):List Y4:=if o9 (gY c ss ds t) 0 then ss++[(t.name,t.m7.map Y5.name,t.m7.map Y5.type)] else ss
set_option maxHeartbeats 8000000 in
theorem XY (c:m8)(ds:List D8)(ss:List Y4)(i:Nat)(hi:i<c.j3.length)(hc:(nth c.j3 i).m7.length<=1000)(ho:∀ j,j<(nth c.j3 i).m7.length->(nth (nth c.j3 i).m7 j).C5.length<=1000)(EF:ss.length<=c.j3.length)(WX:ss.length<=1000)(hi2:c.j3.length<=1000)
  (ht:∀ k,k<ss.length->0<(nth ss k).2.2.length/\0<(nth c.j3 k).m7.length) (hsub:∀ s,(ds.any fun y=>J2 y s)=false->((ss.map (·.1)).any fun y=>J2 y s)=false) :
  Pm A 68 [.ptr 4 0,.d (num i)] (HH c ds ss) lW (.d (num (gY c ss ds (nth c.j3 i)))) (HH c (B4 ds (nth c.j3 i).name) (rW c ss ds (nth c.j3 i))):=by
 generalize hx:nth c.j3 i=t at *
 have cF:=fu c ds ss t.name;have XP:∀ j,j<t.m7.length->Pm A 110 [.ptr 4 0,iT t,.d (num j)] (HH c (B4 ds t.name) ss) lR (.d (num (dW c ss t j))) (HH c (B4 ds t.name) ss):=fun j hj=>Qe c (B4 ds t.name) ss t j hj hc (ho j hj) EF ht
 have Ym:=Vl t.m7 hc;have Yn:=Vm t.m7 hc;have xU:E8 ds t.name=0->Pm A 111 [.ptr 4 0,.d (.str t.name),oD (t.m7.map Y5.name) (t.m7.map Y5.type)] (HH c (B4 ds t.name) ss) lW (.tuple []) (HH c (B4 ds t.name) (ss++[(t.name,t.m7.map Y5.name,t.m7.map Y5.type)])):=fun h=>by
  refine yb c (B4 ds t.name) ss t.name _ _ (hsub _ ?_) WX;unfold E8 at h;cases h1:(!E3 t.name) with
  |true=>rw [h1] at h;simp at h
  |false =>
   rw [h1] at h;cases h2:ds.any fun y=>J2 y t.name with
   |false=>rfl
   |true=>rw [h2] at h;simp at h
 suffices h:Pq A 68 [.ptr 4 0,.d (num i)] (HH c ds ss) lW fun v H1=>v= .d (num (gY c ss ds t))/\H1=HH c (B4 ds t.name) (rW c ss ds t) by
  obtain ⟨v,H1,⟨rfl,rfl⟩,h⟩:=h;exact h
 have fin:∀ e:Int,o9 e 0=false->gY c ss ds t=e->rW c ss ds t=ss:=fun e h1 h2=>by unfold rW;rw [h2,h1];rfl
 unfold HH at *
 refine Pq.run (b:=5) [.ptr 4 0,.d (num i),.any,.any,.any,.any,.any,.any,.any] rfl rfl rfl rfl rfl ?_;refine gr ?_;rw [hx]
 repeat' (first|refine c0 cF rfl (h2:= ?_)|refine gx ?_|fail)
 refine tb (!o9 (E8 ds t.name) 0) (fun h1=> ?_) (fun h1=> ?_)
 ·have e1:gY c ss ds t=E8 ds t.name:=by unfold gY;rw [h1];rfl
  refine gr ?_;exact ⟨_,_,rfl,by rw [e1];rfl,by rw [fin _ (by simpa using h1) e1];rfl⟩
 refine gr ?_;refine tB (eG t) ?_ (fun h2=> ?_) (fun h2=> ?_)
 ·repeat' (first|refine cl (bX _ _ _) ?_|refine gx ?_|refine fk (h1:=fun hw=> ?_) (h2:=fun hw=> ?_)|refine L7 (h1:=fun hw=> ?_) (h2:=fun hw=> ?_)|refine ⟨rfl,rfl,_,rfl,?_⟩|refine ⟨rfl,rfl⟩|fail)
  all_goals first|(simp [*,b8,eG];done)|(simp_all [b8,eG];done)|(simp_all [b8,eG,p5,p4,j9,B8];done)|(simp_all [b8,eG,p5,p4,j9,B8]<;>omega)
 ·have e1:gY c ss ds t=1:=by unfold gY;rw [h1,h2];rfl
  refine gr ?_;exact ⟨_,_,rfl,by rw [e1];rfl,by rw [fin 1 (by simp [j9]) e1];rfl⟩
 refine gr ?_;refine Ex.J0 (fun k T H=>∃ (j:Nat) (w1 w2 w4 w5 w6:b6),T=[.ptr 4 0,w1,w2,.ptr 5 0,w4,w5,w6,.d (num t.m7.length),.d (num j)]/\H=[.cells (c.enc.map .d),.cells (c.enc.map .d),.map (dmap (B4 ds t.name)),.map (T3 (ss.map (·.1)) 0),.cells (c.enc.map .d++[.map 2,.map 3,B3 2 F9 ss]),.cells (t.enc.map .d)]/\j+k=t.m7.length/\gY c ss ds t=uf c ss t k j) (by rintro _ _ _ ⟨_,_,_,_,_,_,_,rfl,_⟩;rfl) ?_ (k:=t.m7.length) ⟨0,_,_,_,_,_,rfl,rfl,by simp,by unfold gY;rw [h1,h2];rfl⟩;rintro k _ _ ⟨j,w1,w2,w4,w5,w6,rfl,rfl,hk,hj⟩;refine Ex.nT ?_;refine Ex.seq ?_;refine tb (C9 j t.m7.length) (fun h3=> ?_) (fun h3=> ?_)
 ·have h4:=y9 h3
  obtain ⟨k,rfl⟩:∃ k',k=k' +1:=⟨k - 1,by omega⟩;have Yl:=XP j (by omega);rw [uf] at hj
  repeat' (first|refine c1 Yl rfl ?_|refine gx ?_|fail)
  refine tb (!o9 (dW c ss t j) 0) (fun h5=> ?_) (fun h5=> ?_)
  ·rw [h5,if_pos rfl] at hj
   refine gr ?_;exact ⟨_,_,rfl,by rw [hj];rfl,by rw [fin _ (by simpa using h5) hj];rfl⟩
  ·rw [h5,if_neg (by simp)] at hj
   refine gr ?_;exact ⟨k,by omega,j+1,_,_,_,_,_,rfl,rfl,by omega,hj⟩
 ·have h4:=y8 h3
  obtain rfl:k=0:=by omega
  have II:=xU (X2 (by simpa using h1));have e1:gY c ss ds t=0:=hj;have e2:rW c ss ds t=ss++[(t.name,t.m7.map Y5.name,t.m7.map Y5.type)]:=by unfold rW;rw [e1];simp [j9]
  rw [e2]
  repeat' (first|refine cl (Ym) ?_|refine cl (Yn) ?_|refine c0 II rfl (h2:= ?_)|refine gx ?_|fail)
  exact ⟨_,_,rfl,by rw [e1];rfl,rfl⟩
end Go.Proofs.YtkmclibmmlgogaaGreat


/- Texts D26 D27 (made short by a program) -/
import Derived.Test.YtkmclibmmlgogaaGreatD8
set_option linter.unusedVariables false
set_option linter.unusedSimpArgs false
namespace Go.Proofs.YtkmclibmmlgogaaGreat
open Go.u7 Go.u7.S
attribute [local irreducible] Rx Ry Rn Ex Pf
def dg (c:m9)(ss:List W5)(t:er)(i:Nat):Int :=
 if !D3 (nth t.m8 i).name||(!I9 (nth t.m8 i).space []&& !D3 (nth t.m8 i).space) then 3
 else if (t.m8.take i).any fun y=>I9 y.name (nth t.m8 i).name then 4
 else if !I9 (nth t.m8 i).refs []&&C2 (A8 (nth t.m8 i).refs (ss.map (·.1)) 0) 0 then 7
 else if !(o8 (nth t.m8 i).type 1||o8 (nth t.m8 i).type 2)||(X4 0 (A8 (nth t.m8 i).refs (ss.map (·.1)) 0)&& !o8 (nth t.m8 i).type (nth (nth ss (A8 (nth t.m8 i).refs (ss.map (·.1)) 0).toNat).2.2 0)) then 5
 else if (!I9 (nth t.m8 i).space []&& !I9 (nth t.m8 i).refs [])|| !Q8 t (-1) (nth t.m8 i).A7|| !iB t (nth t.m8 i) then 1
 else if o8 i 0&&C2 0 (nth t.m8 i).A7.length&& !o8 t.erase 1 then 1
 else if X4 0 (A8 (nth t.m8 i).refs (ss.map (·.1)) 0)&&C2 0 (nth (nth c.j3 (A8 (nth t.m8 i).refs (ss.map (·.1)) 0).toNat).m8 0).A7.length&& !((nth t.m8 i).A7.any fun y=>o8 y i) then 1
 else 0
set_option maxHeartbeats 8000000 in
theorem Nh (c:m9)(ds:List C7)(ss:List W5)(t:er)(i:Nat)(hi:i<t.m8.length)(hc:t.m8.length<=1000)(ho:(nth t.m8 i).A7.length<=1000)(Da:ss.length<=c.j3.length)(ht:∀ k,k<ss.length->0<(nth ss k).2.2.length/\0<(nth c.j3 k).m8.length) :
  Pm A 110 [.ptr 4 0,gT t,.d (num i)] (HH c ds ss) lR (.d (num (dg c ss t i))) (HH c ds ss):=by
 have Un:=lK c ds ss (nth t.m8 i).refs;have b1:=iu ss (nth t.m8 i).refs;have b2:(A8 (nth t.m8 i).refs (ss.map (·.1)) 0)= -1\/(0<=(A8 (nth t.m8 i).refs (ss.map (·.1)) 0)/\(A8 (nth t.m8 i).refs (ss.map (·.1)) 0)<ss.length/\0<(nth ss (A8 (nth t.m8 i).refs (ss.map (·.1)) 0).toNat).2.2.length/\0<(nth c.j3 (A8 (nth t.m8 i).refs (ss.map (·.1)) 0).toNat).m8.length):=by
  rcases b1 with h|h
  ·exact Or.inl h
  ·have:=ht (A8 (nth t.m8 i).refs (ss.map (·.1)) 0).toNat (by omega)
   exact Or.inr ⟨h.1,h.2,this.1,this.2⟩
 have US:=Su t (nth t.m8 i).A7 ho hc;have UT:=Sv t (nth t.m8 i);have q49:=Us (nth t.m8 i).A7 i (by omega)
 suffices h:Pq A 110 [.ptr 4 0,gT t,.d (num i)] (HH c ds ss) lR fun v H1=>v= .d (num (dg c ss t i))/\H1=HH c ds ss by
  obtain ⟨v,H1,⟨rfl,rfl⟩,h⟩:=h;exact h
 unfold HH at *
 have UR:=Nj (.cells (c.enc.map .d)) (.cells (c.enc.map .d)) (.map (dmap ds)) (.map (R1 (ss.map (·.1)) 0)) (.cells (c.enc.map .d++[.map 2,.map 3,A5 2 E9 ss])) (.cells (t.enc.map .d)) (nth t.m8 i) (t.m8.take i) (by simp;omega);refine Pq.run (b:=5) [.ptr 4 0,gT t,.d (num i),.any,.any,.any,.any,.any] rfl rfl rfl rfl rfl ?_;refine gr ?_;refine tB (!D3 (nth t.m8 i).name||(!I9 (nth t.m8 i).space []&& !D3 (nth t.m8 i).space)) ?_ (fun h1=> ?_) (fun h1=> ?_)
 ·repeat' (first|refine cl (zj _) ?_|refine gx ?_|refine fk (h1:=fun hw=> ?_) (h2:=fun hw=> ?_)|refine M8 (h1:=fun hw=> ?_) (h2:=fun hw=> ?_)|refine ⟨rfl,rfl,_,rfl,?_⟩|refine ⟨rfl,rfl⟩|fail)
  all_goals exact cc
 ·refine gr ?_
  exact ⟨_,_,rfl,by unfold dg;rw [h1];rfl,rfl⟩
 refine gr ?_;refine tB ((t.m8.take i).any fun y=>I9 y.name (nth t.m8 i).name) ?_ (fun h2=> ?_) (fun h2=> ?_)
 ·repeat' (first|refine c1 UR rfl ?_|refine gx ?_|refine fk (h1:=fun hw=> ?_) (h2:=fun hw=> ?_)|refine M8 (h1:=fun hw=> ?_) (h2:=fun hw=> ?_)|refine ⟨rfl,rfl,_,rfl,?_⟩|refine ⟨rfl,rfl⟩|fail)
  all_goals exact cc
 ·refine gr ?_
  exact ⟨_,_,rfl,by unfold dg;rw [h1,h2];rfl,rfl⟩
 repeat' (first|refine c1 Un rfl ?_|refine gx ?_|fail)
 refine tb (!I9 (nth t.m8 i).refs []&&C2 (A8 (nth t.m8 i).refs (ss.map (·.1)) 0) 0) (fun h3=> ?_) (fun h3=> ?_)
 ·refine gr ?_
  exact ⟨_,_,rfl,by unfold dg;rw [h1,h2,h3];rfl,rfl⟩
 refine gr ?_;refine tB (!(o8 (nth t.m8 i).type 1||o8 (nth t.m8 i).type 2)||(X4 0 (A8 (nth t.m8 i).refs (ss.map (·.1)) 0)&& !o8 (nth t.m8 i).type (nth (nth ss (A8 (nth t.m8 i).refs (ss.map (·.1)) 0).toNat).2.2 0))) ?_ (fun h4=> ?_) (fun h4=> ?_)
 ·repeat' (first|refine cl (Ss _) ?_|refine gx ?_|refine fk (h1:=fun hw=> ?_) (h2:=fun hw=> ?_)|refine M8 (h1:=fun hw=> ?_) (h2:=fun hw=> ?_)|refine ⟨rfl,rfl,_,rfl,?_⟩|refine ⟨rfl,rfl⟩|fail)
  all_goals exact cc
 ·refine gr ?_
  exact ⟨_,_,rfl,by unfold dg;rw [h1,h2,h3,h4];rfl,rfl⟩
 refine gr ?_;refine tB ((!I9 (nth t.m8 i).space []&& !I9 (nth t.m8 i).refs [])|| !Q8 t (-1) (nth t.m8 i).A7|| !iB t (nth t.m8 i)) ?_ (fun h5=> ?_) (fun h5=> ?_)
 ·repeat' (first|refine cl (US) ?_|refine cl (UT) ?_|refine gx ?_|refine fk (h1:=fun hw=> ?_) (h2:=fun hw=> ?_)|refine M8 (h1:=fun hw=> ?_) (h2:=fun hw=> ?_)|refine ⟨rfl,rfl,_,rfl,?_⟩|refine ⟨rfl,rfl⟩|fail)
  all_goals exact cc
 ·refine gr ?_
  exact ⟨_,_,rfl,by unfold dg;rw [h1,h2,h3,h4,h5];rfl,rfl⟩
 refine gr ?_;refine tb (o8 i 0&&C2 0 (nth t.m8 i).A7.length&& !o8 t.erase 1) (fun h6=> ?_) (fun h6=> ?_)
 ·refine gr ?_
  exact ⟨_,_,rfl,by unfold dg;rw [h1,h2,h3,h4,h5,h6];rfl,rfl⟩
 refine gr ?_;refine tB (X4 0 (A8 (nth t.m8 i).refs (ss.map (·.1)) 0)&&C2 0 (nth (nth c.j3 (A8 (nth t.m8 i).refs (ss.map (·.1)) 0).toNat).m8 0).A7.length&& !((nth t.m8 i).A7.any fun y=>o8 y i)) ?_ (fun h7=> ?_) (fun h7=> ?_)
 ·repeat' (first|refine cl (q49) ?_|refine gx ?_|refine fk (h1:=fun hw=> ?_) (h2:=fun hw=> ?_)|refine M8 (h1:=fun hw=> ?_) (h2:=fun hw=> ?_)|refine ⟨rfl,rfl,_,rfl,?_⟩|refine ⟨rfl,rfl⟩|fail)
  all_goals exact cc
 ·refine gr ?_
  exact ⟨_,_,rfl,by unfold dg;rw [h1,h2,h3,h4,h5,h6,h7];rfl,rfl⟩
 refine gr ?_;exact ⟨_,_,rfl,by unfold dg;rw [h1,h2,h3,h4,h5,h6,h7];rfl,rfl⟩
def sH (c:m9)(ss:List W5)(t:er):Nat->Nat->Int
 |0,_=>0
 |k+1,i=>if !o8 (dg c ss t i) 0 then dg c ss t i else sH c ss t k (i+1)
def ec (t:er):Bool:= !n7 t.m8.length 1 8||(!o8 t.erase 0&& !o8 t.erase 1)|| !n7 t.X9 0 1048576
def gj (c:m9)(ss:List W5)(ds:List C7)(t:er):Int :=
 if !o8 (E0 ds t.name) 0 then E0 ds t.name else if ec t then 1 else sH c ss t t.m8.length 0
def qu (c:m9)(ss:List W5)(ds:List C7)(t:er):List W5:=if o8 (gj c ss ds t) 0 then ss++[(t.name,t.m8.map W6.name,t.m8.map W6.type)] else ss
set_option maxHeartbeats 8000000 in
theorem Uv (c:m9)(ds:List C7)(ss:List W5)(i:Nat)(hi:i<c.j3.length)(hc:(nth c.j3 i).m8.length<=1000)(ho:∀ j,j<(nth c.j3 i).m8.length->(nth (nth c.j3 i).m8 j).A7.length<=1000)(Da:ss.length<=c.j3.length)(TQ:ss.length<=1000)(hi2:c.j3.length<=1000)
  (ht:∀ k,k<ss.length->0<(nth ss k).2.2.length/\0<(nth c.j3 k).m8.length) (hsub:∀ s,(ds.any fun y=>I9 y s)=false->((ss.map (·.1)).any fun y=>I9 y s)=false) :
  Pm A 68 [.ptr 4 0,.d (num i)] (HH c ds ss) lW (.d (num (gj c ss ds (nth c.j3 i)))) (HH c (A1 ds (nth c.j3 i).name) (qu c ss ds (nth c.j3 i))):=by
 generalize hx:nth c.j3 i=t at *
 have bP:=eH c ds ss t.name;have Uk:∀ j,j<t.m8.length->Pm A 110 [.ptr 4 0,gT t,.d (num j)] (HH c (A1 ds t.name) ss) lR (.d (num (dg c ss t j))) (HH c (A1 ds t.name) ss):=fun j hj=>Nh c (A1 ds t.name) ss t j hj hc (ho j hj) Da ht
 have UJ:=Sl t.m8 hc;have UK:=Sm t.m8 hc;have vX:E0 ds t.name=0->Pm A 111 [.ptr 4 0,.d (.str t.name),nA (t.m8.map W6.name) (t.m8.map W6.type)] (HH c (A1 ds t.name) ss) lW (.tuple []) (HH c (A1 ds t.name) (ss++[(t.name,t.m8.map W6.name,t.m8.map W6.type)])):=fun h=>by
  refine wm c (A1 ds t.name) ss t.name _ _ (hsub _ ?_) TQ;unfold E0 at h;cases h1:(!D3 t.name) with
  |true=>rw [h1] at h;simp at h
  |false =>
   rw [h1] at h;cases h2:ds.any fun y=>I9 y t.name with
   |false=>rfl
   |true=>rw [h2] at h;simp at h
 suffices h:Pq A 68 [.ptr 4 0,.d (num i)] (HH c ds ss) lW fun v H1=>v= .d (num (gj c ss ds t))/\H1=HH c (A1 ds t.name) (qu c ss ds t) by
  obtain ⟨v,H1,⟨rfl,rfl⟩,h⟩:=h;exact h
 have fin:∀ e:Int,o8 e 0=false->gj c ss ds t=e->qu c ss ds t=ss:=fun e h1 h2=>by unfold qu;rw [h2,h1];rfl
 unfold HH at *
 refine Pq.run (b:=5) [.ptr 4 0,.d (num i),.any,.any,.any,.any,.any,.any,.any] rfl rfl rfl rfl rfl ?_;refine gr ?_;rw [hx]
 repeat' (first|refine c0 bP rfl (h2:= ?_)|refine gx ?_|fail)
 refine tb (!o8 (E0 ds t.name) 0) (fun h1=> ?_) (fun h1=> ?_)
 ·have e1:gj c ss ds t=E0 ds t.name:=by unfold gj;rw [h1];rfl
  refine gr ?_;exact ⟨_,_,rfl,by rw [e1];rfl,by rw [fin _ (by simpa using h1) e1];rfl⟩
 refine gr ?_;refine tB (ec t) ?_ (fun h2=> ?_) (fun h2=> ?_)
 ·repeat' (first|refine cl (bu _ _ _) ?_|refine gx ?_|refine fk (h1:=fun hw=> ?_) (h2:=fun hw=> ?_)|refine M8 (h1:=fun hw=> ?_) (h2:=fun hw=> ?_)|refine ⟨rfl,rfl,_,rfl,?_⟩|refine ⟨rfl,rfl⟩|fail)
  all_goals first|(simp [*,b9,ec];done)|(simp_all [b9,ec];done)|(simp_all [b9,ec,o9,o5,j5,A3];done)|(simp_all [b9,ec,o9,o5,j5,A3]<;>omega)
 ·have e1:gj c ss ds t=1:=by unfold gj;rw [h1,h2];rfl
  refine gr ?_;exact ⟨_,_,rfl,by rw [e1];rfl,by rw [fin 1 (by simp [j5]) e1];rfl⟩
 refine gr ?_;refine Ex.I7 (fun k T H=>∃ (j:Nat) (w1 w2 w4 w5 w6:b6),T=[.ptr 4 0,w1,w2,.ptr 5 0,w4,w5,w6,.d (num t.m8.length),.d (num j)]/\H=[.cells (c.enc.map .d),.cells (c.enc.map .d),.map (dmap (A1 ds t.name)),.map (R1 (ss.map (·.1)) 0),.cells (c.enc.map .d++[.map 2,.map 3,A5 2 E9 ss]),.cells (t.enc.map .d)]/\j+k=t.m8.length/\gj c ss ds t=sH c ss t k j) (by rintro _ _ _ ⟨_,_,_,_,_,_,_,rfl,_⟩;rfl) ?_ (k:=t.m8.length) ⟨0,_,_,_,_,_,rfl,rfl,by simp,by unfold gj;rw [h1,h2];rfl⟩;rintro k _ _ ⟨j,w1,w2,w4,w5,w6,rfl,rfl,hk,hj⟩;refine Ex.nT ?_;refine Ex.seq ?_;refine tb (C2 j t.m8.length) (fun h3=> ?_) (fun h3=> ?_)
 ·have h4:=z6 h3
  obtain ⟨k,rfl⟩:∃ k',k=k' +1:=⟨k - 1,by omega⟩;have UI:=Uk j (by omega);rw [sH] at hj
  repeat' (first|refine c1 UI rfl ?_|refine gx ?_|fail)
  refine tb (!o8 (dg c ss t j) 0) (fun h5=> ?_) (fun h5=> ?_)
  ·rw [h5,if_pos rfl] at hj
   refine gr ?_;exact ⟨_,_,rfl,by rw [hj];rfl,by rw [fin _ (by simpa using h5) hj];rfl⟩
  ·rw [h5,if_neg (by simp)] at hj
   refine gr ?_;exact ⟨k,by omega,j+1,_,_,_,_,_,rfl,rfl,by omega,hj⟩
 ·have h4:=z8 h3
  obtain rfl:k=0:=by omega
  have GP:=vX (X2 (by simpa using h1));have e1:gj c ss ds t=0:=hj;have e2:qu c ss ds t=ss++[(t.name,t.m8.map W6.name,t.m8.map W6.type)]:=by unfold qu;rw [e1];simp [j5]
  rw [e2]
  repeat' (first|refine cl (UJ) ?_|refine cl (UK) ?_|refine c0 GP rfl (h2:= ?_)|refine gx ?_|fail)
  exact ⟨_,_,rfl,by rw [e1];rfl,rfl⟩
end Go.Proofs.YtkmclibmmlgogaaGreat


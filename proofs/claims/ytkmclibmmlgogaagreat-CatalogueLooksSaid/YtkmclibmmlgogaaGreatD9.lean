/- Texts D26 D27 (made short by a program) -/
import Derived.Test.YtkmclibmmlgogaaGreatD8
set_option linter.unusedVariables false
set_option linter.unusedSimpArgs false
namespace Go.Proofs.YtkmclibmmlgogaaGreat
open Go.z7 Go.z7.S
attribute [local irreducible] Rx Ry Rn Ex Pf
def dO (c:n5)(ss:List Y0)(t:fu)(i:Nat):Int :=
 if !E5 (nth t.m9 i).name||(!J4 (nth t.m9 i).space []&& !E5 (nth t.m9 i).space) then 3
 else if (t.m9.take i).any fun y=>J4 y.name (nth t.m9 i).name then 4
 else if !J4 (nth t.m9 i).refs []&&C7 (B8 (nth t.m9 i).refs (ss.map (·.1)) 0) 0 then 7
 else if !(o9 (nth t.m9 i).type 1||o9 (nth t.m9 i).type 2)||(W6 0 (B8 (nth t.m9 i).refs (ss.map (·.1)) 0)&& !o9 (nth t.m9 i).type (nth (nth ss (B8 (nth t.m9 i).refs (ss.map (·.1)) 0).toNat).2.2 0)) then 5
 else if (!J4 (nth t.m9 i).space []&& !J4 (nth t.m9 i).refs [])|| !S3 t (-1) (nth t.m9 i).C9|| !iS t (nth t.m9 i) then 1
 else if o9 i 0&&C7 0 (nth t.m9 i).C9.length&& !o9 t.erase 1 then 1
 else if W6 0 (B8 (nth t.m9 i).refs (ss.map (·.1)) 0)&&C7 0 (nth (nth c.j3 (B8 (nth t.m9 i).refs (ss.map (·.1)) 0).toNat).m9 0).C9.length&& !((nth t.m9 i).C9.any fun y=>o9 y i) then 1
 else 0
set_option maxHeartbeats 8000000 in
theorem NR (c:n5)(ds:List D6)(ss:List Y0)(t:fu)(i:Nat)(hi:i<t.m9.length)(hc:t.m9.length<=1000)(ho:(nth t.m9 i).C9.length<=1000)(DF:ss.length<=c.j3.length)(ht:∀ k,k<ss.length->0<(nth ss k).2.2.length/\0<(nth c.j3 k).m9.length) :
  Pm A 110 [.ptr 4 0,iC t,.d (num i)] (HH c ds ss) lR (.d (num (dO c ss t i))) (HH c ds ss):=by
 have Rw:=lD c ds ss (nth t.m9 i).refs;have b1:=iO ss (nth t.m9 i).refs;have b2:(B8 (nth t.m9 i).refs (ss.map (·.1)) 0)= -1\/(0<=(B8 (nth t.m9 i).refs (ss.map (·.1)) 0)/\(B8 (nth t.m9 i).refs (ss.map (·.1)) 0)<ss.length/\0<(nth ss (B8 (nth t.m9 i).refs (ss.map (·.1)) 0).toNat).2.2.length/\0<(nth c.j3 (B8 (nth t.m9 i).refs (ss.map (·.1)) 0).toNat).m9.length):=by
  rcases b1 with h|h
  ·exact Or.inl h
  ·have:=ht (B8 (nth t.m9 i).refs (ss.map (·.1)) 0).toNat (by omega)
   exact Or.inr ⟨h.1,h.2,this.1,this.2⟩
 have Wc:=TA t (nth t.m9 i).C9 ho hc;have Wd:=TB t (nth t.m9 i);have q49:=VA (nth t.m9 i).C9 i (by omega)
 suffices h:Pq A 110 [.ptr 4 0,iC t,.d (num i)] (HH c ds ss) lR fun v H1=>v= .d (num (dO c ss t i))/\H1=HH c ds ss by
  obtain ⟨v,H1,⟨rfl,rfl⟩,h⟩:=h;exact h
 unfold HH at *
 have Wb:=NT (.cells (c.enc.map .d)) (.cells (c.enc.map .d)) (.map (dmap ds)) (.map (S6 (ss.map (·.1)) 0)) (.cells (c.enc.map .d++[.map 2,.map 3,B4 2 G5 ss])) (.cells (t.enc.map .d)) (nth t.m9 i) (t.m9.take i) (by simp;omega);refine Pq.run (b:=5) [.ptr 4 0,iC t,.d (num i),.any,.any,.any,.any,.any] rfl rfl rfl rfl rfl ?_;refine gr ?_;refine tB (!E5 (nth t.m9 i).name||(!J4 (nth t.m9 i).space []&& !E5 (nth t.m9 i).space)) ?_ (fun h1=> ?_) (fun h1=> ?_)
 ·repeat' (first|refine cl (zZ _) ?_|refine gx ?_|refine fk (h1:=fun hw=> ?_) (h2:=fun hw=> ?_)|refine L3 (h1:=fun hw=> ?_) (h2:=fun hw=> ?_)|refine ⟨rfl,rfl,_,rfl,?_⟩|refine ⟨rfl,rfl⟩|fail)
  all_goals exact cc
 ·refine gr ?_
  exact ⟨_,_,rfl,by unfold dO;rw [h1];rfl,rfl⟩
 refine gr ?_;refine tB ((t.m9.take i).any fun y=>J4 y.name (nth t.m9 i).name) ?_ (fun h2=> ?_) (fun h2=> ?_)
 ·repeat' (first|refine c1 Wb rfl ?_|refine gx ?_|refine fk (h1:=fun hw=> ?_) (h2:=fun hw=> ?_)|refine L3 (h1:=fun hw=> ?_) (h2:=fun hw=> ?_)|refine ⟨rfl,rfl,_,rfl,?_⟩|refine ⟨rfl,rfl⟩|fail)
  all_goals exact cc
 ·refine gr ?_
  exact ⟨_,_,rfl,by unfold dO;rw [h1,h2];rfl,rfl⟩
 repeat' (first|refine c1 Rw rfl ?_|refine gx ?_|fail)
 refine tb (!J4 (nth t.m9 i).refs []&&C7 (B8 (nth t.m9 i).refs (ss.map (·.1)) 0) 0) (fun h3=> ?_) (fun h3=> ?_)
 ·refine gr ?_
  exact ⟨_,_,rfl,by unfold dO;rw [h1,h2,h3];rfl,rfl⟩
 refine gr ?_;refine tB (!(o9 (nth t.m9 i).type 1||o9 (nth t.m9 i).type 2)||(W6 0 (B8 (nth t.m9 i).refs (ss.map (·.1)) 0)&& !o9 (nth t.m9 i).type (nth (nth ss (B8 (nth t.m9 i).refs (ss.map (·.1)) 0).toNat).2.2 0))) ?_ (fun h4=> ?_) (fun h4=> ?_)
 ·repeat' (first|refine cl (Ty _) ?_|refine gx ?_|refine fk (h1:=fun hw=> ?_) (h2:=fun hw=> ?_)|refine L3 (h1:=fun hw=> ?_) (h2:=fun hw=> ?_)|refine ⟨rfl,rfl,_,rfl,?_⟩|refine ⟨rfl,rfl⟩|fail)
  all_goals exact cc
 ·refine gr ?_
  exact ⟨_,_,rfl,by unfold dO;rw [h1,h2,h3,h4];rfl,rfl⟩
 refine gr ?_;refine tB ((!J4 (nth t.m9 i).space []&& !J4 (nth t.m9 i).refs [])|| !S3 t (-1) (nth t.m9 i).C9|| !iS t (nth t.m9 i)) ?_ (fun h5=> ?_) (fun h5=> ?_)
 ·repeat' (first|refine cl (Wc) ?_|refine cl (Wd) ?_|refine gx ?_|refine fk (h1:=fun hw=> ?_) (h2:=fun hw=> ?_)|refine L3 (h1:=fun hw=> ?_) (h2:=fun hw=> ?_)|refine ⟨rfl,rfl,_,rfl,?_⟩|refine ⟨rfl,rfl⟩|fail)
  all_goals exact cc
 ·refine gr ?_
  exact ⟨_,_,rfl,by unfold dO;rw [h1,h2,h3,h4,h5];rfl,rfl⟩
 refine gr ?_;refine tb (o9 i 0&&C7 0 (nth t.m9 i).C9.length&& !o9 t.erase 1) (fun h6=> ?_) (fun h6=> ?_)
 ·refine gr ?_
  exact ⟨_,_,rfl,by unfold dO;rw [h1,h2,h3,h4,h5,h6];rfl,rfl⟩
 refine gr ?_;refine tB (W6 0 (B8 (nth t.m9 i).refs (ss.map (·.1)) 0)&&C7 0 (nth (nth c.j3 (B8 (nth t.m9 i).refs (ss.map (·.1)) 0).toNat).m9 0).C9.length&& !((nth t.m9 i).C9.any fun y=>o9 y i)) ?_ (fun h7=> ?_) (fun h7=> ?_)
 ·repeat' (first|refine cl (q49) ?_|refine gx ?_|refine fk (h1:=fun hw=> ?_) (h2:=fun hw=> ?_)|refine L3 (h1:=fun hw=> ?_) (h2:=fun hw=> ?_)|refine ⟨rfl,rfl,_,rfl,?_⟩|refine ⟨rfl,rfl⟩|fail)
  all_goals exact cc
 ·refine gr ?_
  exact ⟨_,_,rfl,by unfold dO;rw [h1,h2,h3,h4,h5,h6,h7];rfl,rfl⟩
 refine gr ?_;exact ⟨_,_,rfl,by unfold dO;rw [h1,h2,h3,h4,h5,h6,h7];rfl,rfl⟩
def tG (c:n5)(ss:List Y0)(t:fu):Nat->Nat->Int
 |0,_=>0
 |k+1,i=>if !o9 (dO c ss t i) 0 then dO c ss t i else tG c ss t k (i+1)
def ez (t:fu):Bool:= !n8 t.m9.length 1 8||(!o9 t.erase 0&& !o9 t.erase 1)|| !n8 t.aI 0 1048576
def gE (c:n5)(ss:List Y0)(ds:List D6)(t:fu):Int :=
 if !o9 (E8 ds t.name) 0 then E8 ds t.name else if ez t then 1 else tG c ss t t.m9.length 0
def rC (c:n5)(ss:List Y0)(ds:List D6)(t:fu):List Y0:=if o9 (gE c ss ds t) 0 then ss++[(t.name,t.m9.map Y6.name,t.m9.map Y6.type)] else ss
set_option maxHeartbeats 8000000 in
theorem VE (c:n5)(ds:List D6)(ss:List Y0)(i:Nat)(hi:i<c.j3.length)(hc:(nth c.j3 i).m9.length<=1000)(ho:∀ j,j<(nth c.j3 i).m9.length->(nth (nth c.j3 i).m9 j).C9.length<=1000)(DF:ss.length<=c.j3.length)(UX:ss.length<=1000)(hi2:c.j3.length<=1000)
  (ht:∀ k,k<ss.length->0<(nth ss k).2.2.length/\0<(nth c.j3 k).m9.length) (hsub:∀ s,(ds.any fun y=>J4 y s)=false->((ss.map (·.1)).any fun y=>J4 y s)=false) :
  Pm A 68 [.ptr 4 0,.d (num i)] (HH c ds ss) lW (.d (num (gE c ss ds (nth c.j3 i)))) (HH c (B5 ds (nth c.j3 i).name) (rC c ss ds (nth c.j3 i))):=by
 generalize hx:nth c.j3 i=t at *
 have cn:=eY c ds ss t.name;have Vt:∀ j,j<t.m9.length->Pm A 110 [.ptr 4 0,iC t,.d (num j)] (HH c (B5 ds t.name) ss) lR (.d (num (dO c ss t j))) (HH c (B5 ds t.name) ss):=fun j hj=>NR c (B5 ds t.name) ss t j hj hc (ho j hj) DF ht
 have VT:=Ts t.m9 hc;have VU:=Tt t.m9 hc;have wU:E8 ds t.name=0->Pm A 111 [.ptr 4 0,.d (.str t.name),nV (t.m9.map Y6.name) (t.m9.map Y6.type)] (HH c (B5 ds t.name) ss) lW (.tuple []) (HH c (B5 ds t.name) (ss++[(t.name,t.m9.map Y6.name,t.m9.map Y6.type)])):=fun h=>by
  refine xd c (B5 ds t.name) ss t.name _ _ (hsub _ ?_) UX;unfold E8 at h;cases h1:(!E5 t.name) with
  |true=>rw [h1] at h;simp at h
  |false =>
   rw [h1] at h;cases h2:ds.any fun y=>J4 y t.name with
   |false=>rfl
   |true=>rw [h2] at h;simp at h
 suffices h:Pq A 68 [.ptr 4 0,.d (num i)] (HH c ds ss) lW fun v H1=>v= .d (num (gE c ss ds t))/\H1=HH c (B5 ds t.name) (rC c ss ds t) by
  obtain ⟨v,H1,⟨rfl,rfl⟩,h⟩:=h;exact h
 have fin:∀ e:Int,o9 e 0=false->gE c ss ds t=e->rC c ss ds t=ss:=fun e h1 h2=>by unfold rC;rw [h2,h1];rfl
 unfold HH at *
 refine Pq.run (b:=5) [.ptr 4 0,.d (num i),.any,.any,.any,.any,.any,.any,.any] rfl rfl rfl rfl rfl ?_;refine gr ?_;rw [hx]
 repeat' (first|refine c0 cn rfl (h2:= ?_)|refine gx ?_|fail)
 refine tb (!o9 (E8 ds t.name) 0) (fun h1=> ?_) (fun h1=> ?_)
 ·have e1:gE c ss ds t=E8 ds t.name:=by unfold gE;rw [h1];rfl
  refine gr ?_;exact ⟨_,_,rfl,by rw [e1];rfl,by rw [fin _ (by simpa using h1) e1];rfl⟩
 refine gr ?_;refine tB (ez t) ?_ (fun h2=> ?_) (fun h2=> ?_)
 ·repeat' (first|refine cl (bM _ _ _) ?_|refine gx ?_|refine fk (h1:=fun hw=> ?_) (h2:=fun hw=> ?_)|refine L3 (h1:=fun hw=> ?_) (h2:=fun hw=> ?_)|refine ⟨rfl,rfl,_,rfl,?_⟩|refine ⟨rfl,rfl⟩|fail)
  all_goals first|(simp [*,b9,ez];done)|(simp_all [b9,ez];done)|(simp_all [b9,ez,p8,p5,j9,B7];done)|(simp_all [b9,ez,p8,p5,j9,B7]<;>omega)
 ·have e1:gE c ss ds t=1:=by unfold gE;rw [h1,h2];rfl
  refine gr ?_;exact ⟨_,_,rfl,by rw [e1];rfl,by rw [fin 1 (by simp [j9]) e1];rfl⟩
 refine gr ?_;refine Ex.J1 (fun k T H=>∃ (j:Nat) (w1 w2 w4 w5 w6:b6),T=[.ptr 4 0,w1,w2,.ptr 5 0,w4,w5,w6,.d (num t.m9.length),.d (num j)]/\H=[.cells (c.enc.map .d),.cells (c.enc.map .d),.map (dmap (B5 ds t.name)),.map (S6 (ss.map (·.1)) 0),.cells (c.enc.map .d++[.map 2,.map 3,B4 2 G5 ss]),.cells (t.enc.map .d)]/\j+k=t.m9.length/\gE c ss ds t=tG c ss t k j) (by rintro _ _ _ ⟨_,_,_,_,_,_,_,rfl,_⟩;rfl) ?_ (k:=t.m9.length) ⟨0,_,_,_,_,_,rfl,rfl,by simp,by unfold gE;rw [h1,h2];rfl⟩;rintro k _ _ ⟨j,w1,w2,w4,w5,w6,rfl,rfl,hk,hj⟩;refine Ex.nT ?_;refine Ex.seq ?_;refine tb (C7 j t.m9.length) (fun h3=> ?_) (fun h3=> ?_)
 ·have h4:=A4 h3
  obtain ⟨k,rfl⟩:∃ k',k=k' +1:=⟨k - 1,by omega⟩;have VS:=Vt j (by omega);rw [tG] at hj
  repeat' (first|refine c1 VS rfl ?_|refine gx ?_|fail)
  refine tb (!o9 (dO c ss t j) 0) (fun h5=> ?_) (fun h5=> ?_)
  ·rw [h5,if_pos rfl] at hj
   refine gr ?_;exact ⟨_,_,rfl,by rw [hj];rfl,by rw [fin _ (by simpa using h5) hj];rfl⟩
  ·rw [h5,if_neg (by simp)] at hj
   refine gr ?_;exact ⟨k,by omega,j+1,_,_,_,_,_,rfl,rfl,by omega,hj⟩
 ·have h4:=z8 h3
  obtain rfl:k=0:=by omega
  have Hu:=wU (X2 (by simpa using h1));have e1:gE c ss ds t=0:=hj;have e2:rC c ss ds t=ss++[(t.name,t.m9.map Y6.name,t.m9.map Y6.type)]:=by unfold rC;rw [e1];simp [j9]
  rw [e2]
  repeat' (first|refine cl (VT) ?_|refine cl (VU) ?_|refine c0 Hu rfl (h2:= ?_)|refine gx ?_|fail)
  exact ⟨_,_,rfl,by rw [e1];rfl,rfl⟩
end Go.Proofs.YtkmclibmmlgogaaGreat


/- Texts D20w D21w D22w D25w D26w D27w D23w (made short by a program) -/
import Derived.Test.YtkmclibmmlgogaaGreatD9
set_option linter.unusedVariables false
set_option linter.unusedSimpArgs false
open Bool renaming false_eq_true → b7
open List renaming drop_of_length_le → m7
namespace Go.Proofs.YtkmclibmmlgogaaGreat.fB
open Go.u7 Go.u7.S
attribute [local irreducible] Rx Ry Rn Ex Pf
structure XO where
 x:Int
abbrev xo [Inhabited XO]:u5:= .cells [.d (num (default:XO).x)]
variable [Inhabited XO]
def HH (c:m9)(ds:List C7)(ss:List W5):o6 :=
 [.cells (c.enc.map .d),xo,.cells (c.enc.map .d),.map (dmap ds),.map (R1 (ss.map (·.1)) 0),.cells (c.enc.map .d++[.map 3,.map 4,A5 2 E9 ss])]
def lW:F9:=⟨0,0,6,6⟩
def lR:F9:=⟨0,6,6,6⟩
theorem lK (c:m9)(ds:List C7)(ss:List W5)(s:C7):Pm A 61 [.ptr 5 0,.d (.str s)] (HH c ds ss) lR (.d (num (A8 s (ss.map (·.1)) 0))) (HH c ds ss):=by
 have hf:=rO s (ss.map (·.1)) 0
 suffices h:Pq A 61 [.ptr 5 0,.d (.str s)] (HH c ds ss) lR fun v H1=>v= .d (num (A8 s (ss.map (·.1)) 0))/\H1=HH c ds ss by
  obtain ⟨v,H1,⟨rfl,rfl⟩,h⟩:=h;exact h
 unfold HH;refine Pq.run (b:=6) [.ptr 5 0,.d (.str s),.any,.any,.any] rfl rfl rfl rfl rfl ?_;cases h1:C2 (A8 s (ss.map (·.1)) 0) 0 with
 |true =>
  rw [h1,if_pos rfl] at hf;have h2:=z6 h1;have h3:A8 s (ss.map (·.1)) 0= -1:=by rcases bJ s (ss.map (·.1)) 0 with h|h<;>omega
  repeat' (first|refine lk2 hf rfl rfl ?_|refine gx ?_|fail)
  refine tb (false) (fun h4=> ?_) (fun h4=> ?_)
  ·cases h4
  refine gr ?_;exact ⟨_,_,rfl,by rw [h3];rfl,rfl⟩
 |false =>
  rw [h1,if_neg (by simp)] at hf
  repeat' (first|refine lk2 hf rfl rfl ?_|refine gx ?_|fail)
  refine tb (true) (fun h4=> ?_) (fun h4=> ?_)
  ·refine gr ?_
   exact ⟨_,_,rfl,rfl,rfl⟩
  ·cases h4
theorem Np (c:m9)(ds:List C7)(ss:List W5)(n:Int):Pm A 38 [.ptr 5 0,.d (num n)] (HH c ds ss) lR (.d (.bool (X4 0 n&&C2 n ss.length))) (HH c ds ss):=by
 suffices h:Pq A 38 [.ptr 5 0,.d (num n)] (HH c ds ss) lR fun v H1=>v= .d (.bool (X4 0 n&&C2 n ss.length))/\H1=HH c ds ss by
  obtain ⟨v,H1,⟨rfl,rfl⟩,h⟩:=h;exact h
 unfold HH;refine Pq.run (b:=6) [.ptr 5 0,.d (num n),.any] rfl rfl rfl rfl rfl ?_
 repeat' (first|refine gx ?_|refine fk (h1:=fun hw=> ?_) (h2:=fun hw=> ?_)|refine M8 (h1:=fun hw=> ?_) (h2:=fun hw=> ?_)|refine Ex.J6 ?_|refine Ex.J8 ?_|refine Ex.cond rfl (fun ht=> ?_) (fun ht=> ?_)|refine Ex.test (Rn.text ?_)|refine Ex.test (Rn.draw ?_)|refine ⟨_,rfl,fun ht=> ?_,fun ht=> ?_⟩|refine ⟨_,rfl,?_⟩|fail)
 all_goals exact ⟨_,_,rfl,by simp [*,b9],rfl⟩
theorem DB (c:m9)(ds:List C7)(ss:List W5)(s:C7)(hc:c.j3.length<=1000):Pm A 122 [.ptr 5 0,.d (.str s)] (HH c ds ss) lR (.d (.bool (cN c ss s))) (HH c ds ss):=by
 have p1:=lK c ds ss s
 suffices h:Pq A 122 [.ptr 5 0,.d (.str s)] (HH c ds ss) lR fun v H1=>v= .d (.bool (cN c ss s))/\H1=HH c ds ss by
  obtain ⟨v,H1,⟨rfl,rfl⟩,h⟩:=h;exact h
 unfold HH at p1 ⊢;refine Pq.run (b:=6) [.ptr 5 0,.d (.str s),.any] rfl rfl rfl rfl rfl ?_
 repeat' (first|refine c1 p1 rfl ?_|refine cl (bu _ _ _) ?_|refine gx ?_|fail)
 exact ⟨_,_,rfl,rfl,rfl⟩
end Go.Proofs.YtkmclibmmlgogaaGreat.fB
namespace Go.Proofs.YtkmclibmmlgogaaGreat.fB
open Go.u7 Go.u7.S
attribute [local irreducible] Rx Ry Rn Ex Pf
variable [Inhabited XO]
theorem eH (c:m9)(ds:List C7)(ss:List W5)(s:C7):Pm A 108 [.ptr 5 0,.d (.str s)] (HH c ds ss) lW (.d (num (E0 ds s))) (HH c (A1 ds s) ss):=by
 have hf:=rE s ds
 suffices h:Pq A 108 [.ptr 5 0,.d (.str s)] (HH c ds ss) lW fun v H1=>v= .d (num (E0 ds s))/\H1=HH c (A1 ds s) ss by
  obtain ⟨v,H1,⟨rfl,rfl⟩,h⟩:=h;exact h
 unfold HH;refine Pq.run (b:=6) [.ptr 5 0,.d (.str s),.any] rfl rfl rfl rfl rfl ?_;have PZ:o8 3 0=false:=by simp [j5]
 have h11:o8 4 0=false:=by simp [j5]
 have h12:o8 0 0=true:=by simp [j5]
 refine gr ?_;refine tB (!D3 s) ?_ (fun h1=> ?_) (fun h1=> ?_)
 ·repeat' (first|refine cl (zj _) ?_|refine gx ?_|refine fk (h1:=fun hw=> ?_) (h2:=fun hw=> ?_)|refine M8 (h1:=fun hw=> ?_) (h2:=fun hw=> ?_)|refine ⟨rfl,rfl,_,rfl,?_⟩|refine ⟨rfl,rfl⟩|fail)
  all_goals exact cc
 ·refine gr ?_
  have e1:E0 ds s=3:=by unfold E0;rw [h1];rfl
  exact ⟨_,_,rfl,by rw [e1];rfl,by unfold A1;rw [e1,PZ];rfl⟩
 cases h2:ds.any fun y=>I9 y s with
 |true =>
  rw [h2,if_pos rfl] at hf;have e1:E0 ds s=4:=by unfold E0;rw [h1,h2];rfl
  refine tB (true) ?_ (fun h3=> ?_) (fun h3=> ?_)
  ·repeat' (first|refine lk1 hf rfl ?_|refine gx ?_|refine fk (h1:=fun hw=> ?_) (h2:=fun hw=> ?_)|refine M8 (h1:=fun hw=> ?_) (h2:=fun hw=> ?_)|refine ⟨rfl,rfl,_,rfl,?_⟩|refine ⟨rfl,rfl⟩|fail)
   all_goals exact cc
  ·refine gr ?_
   exact ⟨_,_,rfl,by rw [e1];rfl,by unfold A1;rw [e1,h11];rfl⟩
  ·cases h3
 |false =>
  rw [h2,if_neg (by simp)] at hf;have e1:E0 ds s=0:=by unfold E0;rw [h1,h2];rfl
  have hk:Data.X7 .s (.str s) (.str s)=some true:=by simp [Data.X7]
  refine tB (false) ?_ (fun h3=> ?_) (fun h3=> ?_)
  ·repeat' (first|refine lk1 hf rfl ?_|refine gx ?_|refine fk (h1:=fun hw=> ?_) (h2:=fun hw=> ?_)|refine M8 (h1:=fun hw=> ?_) (h2:=fun hw=> ?_)|refine ⟨rfl,rfl,_,rfl,?_⟩|refine ⟨rfl,rfl⟩|fail)
   all_goals exact cc
  ·cases h3
  repeat' (first|refine mp (uZ s ds h2) hk (h2:= ?_)|refine gx ?_|fail)
  exact ⟨_,_,rfl,by rw [e1];rfl,by unfold A1;rw [e1,h12];rfl⟩
theorem wm (c:m9)(ds:List C7)(ss:List W5)(s:C7)(nm:List C7)(ty:List Int)(hs:((ss.map (·.1)).any fun y=>I9 y s)=false)(hl:ss.length<=1000) :
  Pm A 111 [.ptr 5 0,.d (.str s),nA nm ty] (HH c ds ss) lW (.tuple []) (HH c ds (ss++[(s,nm,ty)])):=by
 have hput:=vN s (ss.map (·.1)) 0 hs;rw [List.length_map,Nat.zero_add] at hput;have hk:Data.X7 .s (.str s) (.str s)=some true:=by simp [Data.X7]
 have hr:roomFor (ss.length+1) 48=true:=by simp only [roomFor,decide_eq_true_eq];omega
 suffices h:Pq A 111 [.ptr 5 0,.d (.str s),nA nm ty] (HH c ds ss) lW fun v H1=>v= .tuple []/\H1=HH c ds (ss++[(s,nm,ty)]) by
  obtain ⟨v,H1,⟨rfl,rfl⟩,h⟩:=h;exact h
 unfold HH;refine Pq.run (b:=6) [.ptr 5 0,.d (.str s),nA nm ty,.any] rfl rfl rfl rfl rfl ?_
 repeat' (first|refine mp hput hk (h2:= ?_)|refine o2 ?_|refine ac2 (a:=(s,nm,ty)) (xs:=ss) (enc:=E9) hr rfl (h2:= ?_)|refine Zq (h2:= ?_)|refine gx ?_|fail)
 refine ⟨_,_,rfl,rfl,?_⟩;have e:((ss++[(s,nm,ty)]).map (·.1))=ss.map (·.1)++[s]:=by simp
 rw [e];rfl
theorem wo (c:m9)(ds:List C7)(ss:List W5)(s:C7)(col:Int)(dy:∀ k,k<ss.length->(nth ss k).2.2.length<=100000):Pm A 121 [.ptr 5 0,.d (.str s),.d (num col)] (HH c ds ss) lR (.tuple [.d (num (bV ss s col).1),.d (num (bV ss s col).2)]) (HH c ds ss):=by
 have p1:=lK c ds ss s;have b1:=iu ss s
 suffices h:Pq A 121 [.ptr 5 0,.d (.str s),.d (num col)] (HH c ds ss) lR fun v H1=>v= .tuple [.d (num (bV ss s col).1),.d (num (bV ss s col).2)]/\H1=HH c ds ss by
  obtain ⟨v,H1,⟨rfl,rfl⟩,h⟩:=h;exact h
 unfold HH at p1 ⊢;refine Pq.run (b:=6) [.ptr 5 0,.d (.str s),.d (num col),.any,.any,.any,.any] rfl rfl rfl rfl rfl ?_
 repeat' (first|refine c1 p1 rfl ?_|refine gx ?_|fail)
 refine tb (C2 (A8 s (ss.map (·.1)) 0) 0) (fun h1=> ?_) (fun h1=> ?_)
 ·refine gr ?_
  exact ⟨_,_,rfl,by unfold bV;rw [h1];rfl,rfl⟩
 have h2:=z8 h1;have h3:=dy (A8 s (ss.map (·.1)) 0).toNat (by omega);refine gr ?_;refine tB (!n7 col 0 ((nth ss (A8 s (ss.map (·.1)) 0).toNat).2.2.length - 1)) ?_ (fun h4=> ?_) (fun h4=> ?_)
 ·repeat' (first|refine cl (bu _ _ _) ?_|refine gx ?_|refine fk (h1:=fun hw=> ?_) (h2:=fun hw=> ?_)|refine M8 (h1:=fun hw=> ?_) (h2:=fun hw=> ?_)|refine ⟨rfl,rfl,_,rfl,?_⟩|refine ⟨rfl,rfl⟩|fail)
  all_goals exact cc
 ·refine gr ?_
  exact ⟨_,_,rfl,by unfold bV;rw [h1,h4];rfl,rfl⟩
 have h5:=h4;simp [n7,o5] at h5;refine gr ?_;exact ⟨_,_,rfl,by unfold bV;rw [h1,h4];rfl,rfl⟩
end Go.Proofs.YtkmclibmmlgogaaGreat.fB
namespace Go.Proofs.YtkmclibmmlgogaaGreat.fB
open Go.u7 Go.u7.S
attribute [local irreducible] Rx Ry Rn Ex Pf
variable [Inhabited XO]
set_option maxHeartbeats 4000000 in
theorem Ux (c:m9)(ds:List C7)(ss:List W5)(i:Nat)(hi:i<c.idxs.length)(dy:∀ k,k<ss.length->(nth ss k).2.2.length<=100000):Pm A 70 [.ptr 5 0,.d (num i)] (HH c ds ss) lW (.d (num (pN ss ds (nth c.idxs i)))) (HH c (A1 ds (nth c.idxs i).name) ss):=by
 have bP:=eH c ds ss (nth c.idxs i).name;have vY:=wo c (A1 ds (nth c.idxs i).name) ss (nth c.idxs i).source (nth c.idxs i).col dy
 suffices h:Pq A 70 [.ptr 5 0,.d (num i)] (HH c ds ss) lW fun v H1=>v= .d (num (pN ss ds (nth c.idxs i)))/\H1=HH c (A1 ds (nth c.idxs i).name) ss by
  obtain ⟨v,H1,⟨rfl,rfl⟩,h⟩:=h;exact h
 generalize hx:nth c.idxs i=x at *
 unfold HH at *
 refine Pq.run (b:=6) [.ptr 5 0,.d (num i),.any,.any,.any,.any,.any] rfl rfl rfl rfl rfl ?_;refine gr ?_;rw [hx]
 repeat' (first|refine c0 bP rfl (h2:= ?_)|refine gx ?_|fail)
 refine tb (!o8 (E0 ds x.name) 0) (fun h1=> ?_) (fun h1=> ?_)
 ·refine gr ?_
  exact ⟨_,_,rfl,by unfold pN;rw [h1];rfl,rfl⟩
 repeat' (first|refine c1 vY rfl ?_|refine gx ?_|fail)
 refine tb (!o8 (bV ss x.source x.col).2 0) (fun h2=> ?_) (fun h2=> ?_)
 ·refine gr ?_
  exact ⟨_,_,rfl,by unfold pN;rw [h1,h2];rfl,rfl⟩
 refine gr ?_;refine tb (!o8 (bV ss x.source x.col).1 2) (fun h3=> ?_) (fun h3=> ?_)
 ·refine gr ?_
  exact ⟨_,_,rfl,by unfold pN;rw [h1,h2,h3];rfl,rfl⟩
 ·refine gr ?_
  exact ⟨_,_,rfl,by unfold pN;rw [h1,h2,h3];rfl,rfl⟩
set_option maxHeartbeats 4000000 in
theorem Uz (c:m9)(ds:List C7)(ss:List W5)(i:Nat)(hi:i<c.E3.length)(dy:∀ k,k<ss.length->(nth ss k).2.2.length<=100000):Pm A 72 [.ptr 5 0,.d (num i)] (HH c ds ss) lW (.d (num (oW ss ds (nth c.E3 i)))) (HH c (A1 ds (nth c.E3 i).name) ss):=by
 have bP:=eH c ds ss (nth c.E3 i).name;have vY:=wo c (A1 ds (nth c.E3 i).name) ss (nth c.E3 i).source (nth c.E3 i).col dy
 suffices h:Pq A 72 [.ptr 5 0,.d (num i)] (HH c ds ss) lW fun v H1=>v= .d (num (oW ss ds (nth c.E3 i)))/\H1=HH c (A1 ds (nth c.E3 i).name) ss by
  obtain ⟨v,H1,⟨rfl,rfl⟩,h⟩:=h;exact h
 generalize hx:nth c.E3 i=x at *
 unfold HH at *
 refine Pq.run (b:=6) [.ptr 5 0,.d (num i),.any,.any,.any,.any] rfl rfl rfl rfl rfl ?_;refine gr ?_;rw [hx]
 repeat' (first|refine c0 bP rfl (h2:= ?_)|refine gx ?_|fail)
 refine tb (!o8 (E0 ds x.name) 0) (fun h1=> ?_) (fun h1=> ?_)
 ·refine gr ?_
  exact ⟨_,_,rfl,by unfold oW;rw [h1];rfl,rfl⟩
 repeat' (first|refine c1 vY rfl ?_|refine gx ?_|fail)
 refine tb (!o8 (bV ss x.source x.col).2 0) (fun h2=> ?_) (fun h2=> ?_)
 ·refine gr ?_
  exact ⟨_,_,rfl,by unfold oW;rw [h1,h2];rfl,rfl⟩
 refine gr ?_;refine tB (!n7 x.ttl 1 1048576) ?_ (fun h3=> ?_) (fun h3=> ?_)
 ·repeat' (first|refine cl (bu _ _ _) ?_|refine gx ?_|refine fk (h1:=fun hw=> ?_) (h2:=fun hw=> ?_)|refine M8 (h1:=fun hw=> ?_) (h2:=fun hw=> ?_)|refine ⟨rfl,rfl,_,rfl,?_⟩|refine ⟨rfl,rfl⟩|fail)
  all_goals exact cc
 ·refine gr ?_
  exact ⟨_,_,rfl,by unfold oW;rw [h1,h2,h3];rfl,rfl⟩
 ·refine gr ?_
  exact ⟨_,_,rfl,by unfold oW;rw [h1,h2,h3];rfl,rfl⟩
set_option maxHeartbeats 4000000 in
theorem UB (c:m9)(ds:List C7)(ss:List W5)(i:Nat)(hi:i<c.J3.length)(hc:c.j3.length<=1000):Pm A 74 [.ptr 5 0,.d (num i)] (HH c ds ss) lW (.d (num (tY c ss ds (nth c.J3 i)))) (HH c (A1 ds (nth c.J3 i).name) ss):=by
 have bP:=eH c ds ss (nth c.J3 i).name;have GJ:=DB c (A1 ds (nth c.J3 i).name) ss (nth c.J3 i).table hc
 suffices h:Pq A 74 [.ptr 5 0,.d (num i)] (HH c ds ss) lW fun v H1=>v= .d (num (tY c ss ds (nth c.J3 i)))/\H1=HH c (A1 ds (nth c.J3 i).name) ss by
  obtain ⟨v,H1,⟨rfl,rfl⟩,h⟩:=h;exact h
 generalize hx:nth c.J3 i=x at *
 unfold HH at *
 refine Pq.run (b:=6) [.ptr 5 0,.d (num i),.any,.any,.any] rfl rfl rfl rfl rfl ?_;refine gr ?_;rw [hx]
 repeat' (first|refine c0 bP rfl (h2:= ?_)|refine gx ?_|fail)
 refine tb (!o8 (E0 ds x.name) 0) (fun h1=> ?_) (fun h1=> ?_)
 ·refine gr ?_
  exact ⟨_,_,rfl,by unfold tY;rw [h1];rfl,rfl⟩
 refine gr ?_;refine tB (!cN c ss x.table) ?_ (fun h2=> ?_) (fun h2=> ?_)
 ·repeat' (first|refine c1 GJ rfl ?_|refine gx ?_|refine fk (h1:=fun hw=> ?_) (h2:=fun hw=> ?_)|refine M8 (h1:=fun hw=> ?_) (h2:=fun hw=> ?_)|refine ⟨rfl,rfl,_,rfl,?_⟩|refine ⟨rfl,rfl⟩|fail)
  all_goals exact cc
 ·refine gr ?_
  exact ⟨_,_,rfl,by unfold tY;rw [h1,h2];rfl,rfl⟩
 ·refine gr ?_
  exact ⟨_,_,rfl,by unfold tY;rw [h1,h2];rfl,rfl⟩
set_option maxHeartbeats 4000000 in
theorem Uy (c:m9)(ds:List C7)(ss:List W5)(i:Nat)(hi:i<c.D6.length)(dy:∀ k,k<ss.length->(nth ss k).2.2.length<=100000):Pm A 71 [.ptr 5 0,.d (num i)] (HH c ds ss) lW (.d (num (ji ss ds (nth c.D6 i)))) (HH c (A1 ds (nth c.D6 i).name) ss):=by
 have bP:=eH c ds ss (nth c.D6 i).name;have vY:=wo c (A1 ds (nth c.D6 i).name) ss (nth c.D6 i).source (nth c.D6 i).col dy
 suffices h:Pq A 71 [.ptr 5 0,.d (num i)] (HH c ds ss) lW fun v H1=>v= .d (num (ji ss ds (nth c.D6 i)))/\H1=HH c (A1 ds (nth c.D6 i).name) ss by
  obtain ⟨v,H1,⟨rfl,rfl⟩,h⟩:=h;exact h
 generalize hx:nth c.D6 i=x at *
 unfold HH at *
 refine Pq.run (b:=6) [.ptr 5 0,.d (num i),.any,.any,.any,.any] rfl rfl rfl rfl rfl ?_;refine gr ?_;rw [hx]
 repeat' (first|refine c0 bP rfl (h2:= ?_)|refine gx ?_|fail)
 refine tb (!o8 (E0 ds x.name) 0) (fun h1=> ?_) (fun h1=> ?_)
 ·refine gr ?_
  exact ⟨_,_,rfl,by unfold ji;rw [h1];rfl,rfl⟩
 repeat' (first|refine c1 vY rfl ?_|refine gx ?_|fail)
 refine tb (!o8 (bV ss x.source x.col).2 0) (fun h2=> ?_) (fun h2=> ?_)
 ·refine gr ?_
  exact ⟨_,_,rfl,by unfold ji;rw [h1,h2];rfl,rfl⟩
 refine gr ?_;refine tb (!o8 x.kind 0&& !o8 x.kind 1&& !o8 x.kind 2) (fun h3=> ?_) (fun h3=> ?_)
 ·refine gr ?_
  exact ⟨_,_,rfl,by unfold ji;rw [h1,h2,h3];rfl,rfl⟩
 refine gr ?_;cases hW:n7 x.width 1 1024 with
 |false =>
  refine tB (true) ?_ (fun h4=> ?_) (fun h4=> ?_)
  ·repeat' (first|refine cl (bu _ _ _) ?_|refine gx ?_|refine fk (h1:=fun hw=> ?_) (h2:=fun hw=> ?_)|refine M8 (h1:=fun hw=> ?_) (h2:=fun hw=> ?_)|refine ⟨rfl,rfl,_,rfl,?_⟩|refine ⟨rfl,rfl⟩|fail)
   all_goals first|(simp [*,b9,hW];done)|(simp_all [b9,hW];done)|(simp_all [b9,hW,o9,o5,j5,A3];done)|(simp_all [b9,hW,o9,o5,j5,A3]<;>omega)
  ·refine gr ?_
   exact ⟨_,_,rfl,by unfold ji;rw [h1,h2,h3,hW];rfl,rfl⟩
  ·cases h4
 |true =>
 cases hD:n7 x.depth 1 8 with
 |false =>
  refine tB (true) ?_ (fun h4=> ?_) (fun h4=> ?_)
  ·repeat' (first|refine cl (bu _ _ _) ?_|refine gx ?_|refine fk (h1:=fun hw=> ?_) (h2:=fun hw=> ?_)|refine M8 (h1:=fun hw=> ?_) (h2:=fun hw=> ?_)|refine ⟨rfl,rfl,_,rfl,?_⟩|refine ⟨rfl,rfl⟩|fail)
   all_goals first|(simp [*,b9,hW,hD];done)|(simp_all [b9,hW,hD];done)|(simp_all [b9,hW,hD,o9,o5,j5,A3];done)|(simp_all [b9,hW,hD,o9,o5,j5,A3]<;>omega)
  ·refine gr ?_
   exact ⟨_,_,rfl,by unfold ji;rw [h1,h2,h3,hW,hD];rfl,rfl⟩
  ·cases h4
 |true =>
 have hm: -9223372036854775808<=x.width * x.depth/\x.width * x.depth<9223372036854775808:=by
  simp [n7,o5] at hW hD;have m1:=Int.mul_le_mul hW.2 hD.2 (by omega) (by omega);have m2:=Int.mul_nonneg (a:=x.width) (b:=x.depth) (by omega) (by omega);omega
 refine tB (!n7 x.width 1 1024|| !n7 x.depth 1 8||(o8 x.kind 2&& !o8 x.depth 1)||C2 1024 (x.width * x.depth)) ?_ (fun h4=> ?_) (fun h4=> ?_)
 ·repeat' (first|refine cl (bu _ _ _) ?_|refine mu (h0:=hm) ?_|refine gx ?_|refine fk (h1:=fun hw=> ?_) (h2:=fun hw=> ?_)|refine M8 (h1:=fun hw=> ?_) (h2:=fun hw=> ?_)|refine ⟨rfl,rfl,_,rfl,?_⟩|refine ⟨rfl,rfl⟩|fail)
  all_goals first|(simp [*,b9,hW,hD];done)|(simp_all [b9,hW,hD];done)|(simp_all [b9,hW,hD,o9,o5,j5,A3];done)|(simp_all [b9,hW,hD,o9,o5,j5,A3]<;>omega)
 ·refine gr ?_
  exact ⟨_,_,rfl,by unfold ji;rw [h1,h2,h3,h4];rfl,rfl⟩
 ·refine gr ?_
  exact ⟨_,_,rfl,by unfold ji;rw [h1,h2,h3,h4];rfl,rfl⟩
end Go.Proofs.YtkmclibmmlgogaaGreat.fB
namespace Go.Proofs.YtkmclibmmlgogaaGreat.fB
open Go.u7 Go.u7.S
attribute [local irreducible] Rx Ry Rn Ex Pf
variable [Inhabited XO]
def l7:F9:=⟨0,8,8,8⟩
theorem Nk (a0 ax a1 a2 a3 a4 a5:u5)(x y:W6):Pm A 148 [tP y,.ptr 7 0] [a0,ax,a1,a2,a3,a4,a5,.cells (x.enc.map .d)] l7 (.d (.bool (I9 y.name x.name))) [a0,ax,a1,a2,a3,a4,a5,.cells (x.enc.map .d)]:=by
 have _x:=(default:XO)
 suffices h:Pq A 148 [tP y,.ptr 7 0] [a0,ax,a1,a2,a3,a4,a5,.cells (x.enc.map .d)] l7 fun v H1=>v= .d (.bool (I9 y.name x.name))/\H1=[a0,ax,a1,a2,a3,a4,a5,.cells (x.enc.map .d)] by
  obtain ⟨v,H1,⟨rfl,rfl⟩,h⟩:=h;exact h
 refine Pq.run (b:=8) [tP y,.ptr 7 0,.any,.any] rfl rfl rfl rfl rfl ?_;refine gr ?_;exact ⟨_,_,rfl,rfl,rfl⟩
set_option maxHeartbeats 2000000 in
theorem No (a0 ax a1 a2 a3 a4 a5:u5)(x:W6)(ys:List W6)(hy:ys.length<=1000):Pm A 171 [.d (y7 W6.enc ys),.func 148 [] [.ptr 7 0]] [a0,ax,a1,a2,a3,a4,a5,.cells (x.enc.map .d)] l7 (.d (num (Cj x ys 0))) [a0,ax,a1,a2,a3,a4,a5,.cells (x.enc.map .d)]:=by
 suffices h:Pq A 171 [.d (y7 W6.enc ys),.func 148 [] [.ptr 7 0]] [a0,ax,a1,a2,a3,a4,a5,.cells (x.enc.map .d)] l7 fun v H1=>v= .d (num (Cj x ys 0))/\H1=[a0,ax,a1,a2,a3,a4,a5,.cells (x.enc.map .d)] by
  obtain ⟨v,H1,⟨rfl,rfl⟩,h⟩:=h;exact h
 refine Pq.run (b:=8) [.d (y7 W6.enc ys),.func 148 [] [.ptr 7 0],.any,.any,.any,.any] rfl rfl rfl rfl rfl ?_;refine gr ?_;refine Ex.I7 (fun k T H=>∃ (i:Nat) (v w:b6),T=[.d (y7 W6.enc ys),.func 148 [] [.ptr 7 0],v,w,.d (num ys.length),.d (num i)]/\H=[a0,ax,a1,a2,a3,a4,a5,.cells (x.enc.map .d)]/\i+k=ys.length/\Cj x ys 0=Cj x (ys.drop i) i) (by rintro _ _ _ ⟨_,_,_,_,rfl,_⟩;rfl) ?_ (k:=ys.length) ⟨0,_,_,rfl,rfl,by simp,by simp⟩;rintro k _ _ ⟨i,v,w,rfl,rfl,hk,hi⟩;refine Ex.nT ?_;refine Ex.seq ?_;refine tb (C2 i ys.length) (fun h1=> ?_) (fun h1=> ?_)
 ·have h2:=z6 h1
  rw [A4 (by omega)] at hi;have p1:=Nk a0 ax a1 a2 a3 a4 a5 x (nth ys i);refine gr ?_;refine tB (I9 (nth ys i).name x.name) ?_ (fun h3=> ?_) (fun h3=> ?_)
  ·repeat' (first|refine WY p1 rfl ?_|refine gx ?_|refine fk (h1:=fun hw=> ?_) (h2:=fun hw=> ?_)|refine M8 (h1:=fun hw=> ?_) (h2:=fun hw=> ?_)|refine ⟨rfl,rfl,_,rfl,?_⟩|refine ⟨rfl,rfl⟩|fail)
   all_goals exact cc
  ·refine gr ?_
   exact ⟨_,_,rfl,by rw [hi,Cj,h3];rfl,rfl⟩
  ·refine gr ?_
   exact ⟨k - 1,by omega,i+1,_,_,rfl,rfl,by omega,by rw [hi,Cj,h3];rfl⟩
 ·have h2:=z8 h1
  rw [m7 (by omega)] at hi;refine gr ?_;exact ⟨_,_,rfl,by rw [hi];rfl,rfl⟩
theorem Nj (a0 ax a1 a2 a3 a4 a5:u5)(x:W6)(ys:List W6)(hy:ys.length<=1000):Pm A 147 [.d (y7 W6.enc ys),.func 148 [] [.ptr 7 0]] [a0,ax,a1,a2,a3,a4,a5,.cells (x.enc.map .d)] l7 (.d (.bool (ys.any fun y=>I9 y.name x.name))) [a0,ax,a1,a2,a3,a4,a5,.cells (x.enc.map .d)]:=by
 have p1:=No a0 ax a1 a2 a3 a4 a5 x ys hy;rw [<- AU x ys 0]
 suffices h:Pq A 147 [.d (y7 W6.enc ys),.func 148 [] [.ptr 7 0]] [a0,ax,a1,a2,a3,a4,a5,.cells (x.enc.map .d)] l7 fun v H1=>v= .d (.bool (X4 0 (Cj x ys 0)))/\H1=[a0,ax,a1,a2,a3,a4,a5,.cells (x.enc.map .d)] by
  obtain ⟨v,H1,⟨rfl,rfl⟩,h⟩:=h;exact h
 refine Pq.run (b:=8) [.d (y7 W6.enc ys),.func 148 [] [.ptr 7 0],.any] rfl rfl rfl rfl rfl ?_
 repeat' (first|refine c1 p1 rfl ?_|refine gx ?_|fail)
 exact ⟨_,_,rfl,rfl,rfl⟩
end Go.Proofs.YtkmclibmmlgogaaGreat.fB
namespace Go.Proofs.YtkmclibmmlgogaaGreat.fB
open Go.u7 Go.u7.S
attribute [local irreducible] Rx Ry Rn Ex Pf
variable [Inhabited XO]
set_option maxHeartbeats 8000000 in
theorem Nh (c:m9)(ds:List C7)(ss:List W5)(t:er)(i:Nat)(hi:i<t.m8.length)(hc:t.m8.length<=1000)(ho:(nth t.m8 i).A7.length<=1000)(Da:ss.length<=c.j3.length)(ht:∀ k,k<ss.length->0<(nth ss k).2.2.length/\0<(nth c.j3 k).m8.length) :
  Pm A 110 [.ptr 5 0,gT t,.d (num i)] (HH c ds ss) lR (.d (num (dg c ss t i))) (HH c ds ss):=by
 have Un:=lK c ds ss (nth t.m8 i).refs;have b1:=iu ss (nth t.m8 i).refs;have b2:(A8 (nth t.m8 i).refs (ss.map (·.1)) 0)= -1\/(0<=(A8 (nth t.m8 i).refs (ss.map (·.1)) 0)/\(A8 (nth t.m8 i).refs (ss.map (·.1)) 0)<ss.length/\0<(nth ss (A8 (nth t.m8 i).refs (ss.map (·.1)) 0).toNat).2.2.length/\0<(nth c.j3 (A8 (nth t.m8 i).refs (ss.map (·.1)) 0).toNat).m8.length):=by
  rcases b1 with h|h
  ·exact Or.inl h
  ·have:=ht (A8 (nth t.m8 i).refs (ss.map (·.1)) 0).toNat (by omega)
   exact Or.inr ⟨h.1,h.2,this.1,this.2⟩
 have US:=Su t (nth t.m8 i).A7 ho hc;have UT:=Sv t (nth t.m8 i);have q49:=Us (nth t.m8 i).A7 i (by omega)
 suffices h:Pq A 110 [.ptr 5 0,gT t,.d (num i)] (HH c ds ss) lR fun v H1=>v= .d (num (dg c ss t i))/\H1=HH c ds ss by
  obtain ⟨v,H1,⟨rfl,rfl⟩,h⟩:=h;exact h
 unfold HH at *
 have UR:=Nj (.cells (c.enc.map .d)) xo (.cells (c.enc.map .d)) (.map (dmap ds)) (.map (R1 (ss.map (·.1)) 0)) (.cells (c.enc.map .d++[.map 3,.map 4,A5 2 E9 ss])) (.cells (t.enc.map .d)) (nth t.m8 i) (t.m8.take i) (by simp;omega);refine Pq.run (b:=6) [.ptr 5 0,gT t,.d (num i),.any,.any,.any,.any,.any] rfl rfl rfl rfl rfl ?_;refine gr ?_;refine tB (!D3 (nth t.m8 i).name||(!I9 (nth t.m8 i).space []&& !D3 (nth t.m8 i).space)) ?_ (fun h1=> ?_) (fun h1=> ?_)
 ·repeat' (first|refine cl (zj _) ?_|refine gx ?_|refine fk (h1:=fun hw=> ?_) (h2:=fun hw=> ?_)|refine M8 (h1:=fun hw=> ?_) (h2:=fun hw=> ?_)|refine ⟨rfl,rfl,_,rfl,?_⟩|refine ⟨rfl,rfl⟩|fail)
  all_goals exact cc
 ·refine gr ?_
  exact ⟨_,_,rfl,by unfold dg;rw [h1];rfl,rfl⟩
 refine gr ?_;refine tB ((t.m8.take i).any fun y=>I9 y.name (nth t.m8 i).name) ?_ (fun h2=> ?_) (fun h2=> ?_)
 ·repeat' (first|refine c1 UR rfl ?_|refine gx ?_|refine fk (h1:=fun hw=> ?_) (h2:=fun hw=> ?_)|refine M8 (h1:=fun hw=> ?_) (h2:=fun hw=> ?_)|refine ⟨rfl,rfl,_,rfl,?_⟩|refine ⟨rfl,rfl⟩|fail)
  all_goals exact cc
 ·refine gr ?_
  exact ⟨_,_,rfl,by unfold dg;rw [h1,h2];rfl,rfl⟩
 repeat' (first|refine c1 Un rfl ?_|refine gx ?_|fail)
 refine tb (!I9 (nth t.m8 i).refs []&&C2 (A8 (nth t.m8 i).refs (ss.map (·.1)) 0) 0) (fun h3=> ?_) (fun h3=> ?_)
 ·refine gr ?_
  exact ⟨_,_,rfl,by unfold dg;rw [h1,h2,h3];rfl,rfl⟩
 refine gr ?_;refine tB (!(o8 (nth t.m8 i).type 1||o8 (nth t.m8 i).type 2)||(X4 0 (A8 (nth t.m8 i).refs (ss.map (·.1)) 0)&& !o8 (nth t.m8 i).type (nth (nth ss (A8 (nth t.m8 i).refs (ss.map (·.1)) 0).toNat).2.2 0))) ?_ (fun h4=> ?_) (fun h4=> ?_)
 ·repeat' (first|refine cl (Ss _) ?_|refine gx ?_|refine fk (h1:=fun hw=> ?_) (h2:=fun hw=> ?_)|refine M8 (h1:=fun hw=> ?_) (h2:=fun hw=> ?_)|refine ⟨rfl,rfl,_,rfl,?_⟩|refine ⟨rfl,rfl⟩|fail)
  all_goals exact cc
 ·refine gr ?_
  exact ⟨_,_,rfl,by unfold dg;rw [h1,h2,h3,h4];rfl,rfl⟩
 refine gr ?_;refine tB ((!I9 (nth t.m8 i).space []&& !I9 (nth t.m8 i).refs [])|| !Q8 t (-1) (nth t.m8 i).A7|| !iB t (nth t.m8 i)) ?_ (fun h5=> ?_) (fun h5=> ?_)
 ·repeat' (first|refine cl (US) ?_|refine cl (UT) ?_|refine gx ?_|refine fk (h1:=fun hw=> ?_) (h2:=fun hw=> ?_)|refine M8 (h1:=fun hw=> ?_) (h2:=fun hw=> ?_)|refine ⟨rfl,rfl,_,rfl,?_⟩|refine ⟨rfl,rfl⟩|fail)
  all_goals exact cc
 ·refine gr ?_
  exact ⟨_,_,rfl,by unfold dg;rw [h1,h2,h3,h4,h5];rfl,rfl⟩
 refine gr ?_;refine tb (o8 i 0&&C2 0 (nth t.m8 i).A7.length&& !o8 t.erase 1) (fun h6=> ?_) (fun h6=> ?_)
 ·refine gr ?_
  exact ⟨_,_,rfl,by unfold dg;rw [h1,h2,h3,h4,h5,h6];rfl,rfl⟩
 refine gr ?_;refine tB (X4 0 (A8 (nth t.m8 i).refs (ss.map (·.1)) 0)&&C2 0 (nth (nth c.j3 (A8 (nth t.m8 i).refs (ss.map (·.1)) 0).toNat).m8 0).A7.length&& !((nth t.m8 i).A7.any fun y=>o8 y i)) ?_ (fun h7=> ?_) (fun h7=> ?_)
 ·repeat' (first|refine cl (q49) ?_|refine gx ?_|refine fk (h1:=fun hw=> ?_) (h2:=fun hw=> ?_)|refine M8 (h1:=fun hw=> ?_) (h2:=fun hw=> ?_)|refine ⟨rfl,rfl,_,rfl,?_⟩|refine ⟨rfl,rfl⟩|fail)
  all_goals exact cc
 ·refine gr ?_
  exact ⟨_,_,rfl,by unfold dg;rw [h1,h2,h3,h4,h5,h6,h7];rfl,rfl⟩
 refine gr ?_;exact ⟨_,_,rfl,by unfold dg;rw [h1,h2,h3,h4,h5,h6,h7];rfl,rfl⟩
end Go.Proofs.YtkmclibmmlgogaaGreat.fB
namespace Go.Proofs.YtkmclibmmlgogaaGreat.fB
open Go.u7 Go.u7.S
attribute [local irreducible] Rx Ry Rn Ex Pf
variable [Inhabited XO]
set_option maxHeartbeats 8000000 in
theorem Uv (c:m9)(ds:List C7)(ss:List W5)(i:Nat)(hi:i<c.j3.length)(hc:(nth c.j3 i).m8.length<=1000)(ho:∀ j,j<(nth c.j3 i).m8.length->(nth (nth c.j3 i).m8 j).A7.length<=1000)(Da:ss.length<=c.j3.length)(TQ:ss.length<=1000)(hi2:c.j3.length<=1000)
  (ht:∀ k,k<ss.length->0<(nth ss k).2.2.length/\0<(nth c.j3 k).m8.length) (hsub:∀ s,(ds.any fun y=>I9 y s)=false->((ss.map (·.1)).any fun y=>I9 y s)=false) :
  Pm A 68 [.ptr 5 0,.d (num i)] (HH c ds ss) lW (.d (num (gj c ss ds (nth c.j3 i)))) (HH c (A1 ds (nth c.j3 i).name) (qu c ss ds (nth c.j3 i))):=by
 generalize hx:nth c.j3 i=t at *
 have bP:=eH c ds ss t.name;have Uk:∀ j,j<t.m8.length->Pm A 110 [.ptr 5 0,gT t,.d (num j)] (HH c (A1 ds t.name) ss) lR (.d (num (dg c ss t j))) (HH c (A1 ds t.name) ss):=fun j hj=>Nh c (A1 ds t.name) ss t j hj hc (ho j hj) Da ht
 have UJ:=Sl t.m8 hc;have UK:=Sm t.m8 hc;have vX:E0 ds t.name=0->Pm A 111 [.ptr 5 0,.d (.str t.name),nA (t.m8.map W6.name) (t.m8.map W6.type)] (HH c (A1 ds t.name) ss) lW (.tuple []) (HH c (A1 ds t.name) (ss++[(t.name,t.m8.map W6.name,t.m8.map W6.type)])):=fun h=>by
  refine wm c (A1 ds t.name) ss t.name _ _ (hsub _ ?_) TQ;unfold E0 at h;cases h1:(!D3 t.name) with
  |true=>rw [h1] at h;simp at h
  |false =>
   rw [h1] at h;cases h2:ds.any fun y=>I9 y t.name with
   |false=>rfl
   |true=>rw [h2] at h;simp at h
 suffices h:Pq A 68 [.ptr 5 0,.d (num i)] (HH c ds ss) lW fun v H1=>v= .d (num (gj c ss ds t))/\H1=HH c (A1 ds t.name) (qu c ss ds t) by
  obtain ⟨v,H1,⟨rfl,rfl⟩,h⟩:=h;exact h
 have fin:∀ e:Int,o8 e 0=false->gj c ss ds t=e->qu c ss ds t=ss:=fun e h1 h2=>by unfold qu;rw [h2,h1];rfl
 unfold HH at *
 refine Pq.run (b:=6) [.ptr 5 0,.d (num i),.any,.any,.any,.any,.any,.any,.any] rfl rfl rfl rfl rfl ?_;refine gr ?_;rw [hx]
 repeat' (first|refine c0 bP rfl (h2:= ?_)|refine gx ?_|fail)
 refine tb (!o8 (E0 ds t.name) 0) (fun h1=> ?_) (fun h1=> ?_)
 ·have e1:gj c ss ds t=E0 ds t.name:=by unfold gj;rw [h1];rfl
  refine gr ?_;exact ⟨_,_,rfl,by rw [e1];rfl,by rw [fin _ (by simpa using h1) e1];rfl⟩
 refine gr ?_;refine tB (ec t) ?_ (fun h2=> ?_) (fun h2=> ?_)
 ·repeat' (first|refine cl (bu _ _ _) ?_|refine gx ?_|refine fk (h1:=fun hw=> ?_) (h2:=fun hw=> ?_)|refine M8 (h1:=fun hw=> ?_) (h2:=fun hw=> ?_)|refine ⟨rfl,rfl,_,rfl,?_⟩|refine ⟨rfl,rfl⟩|fail)
  all_goals first|(simp [*,b9,ec];done)|(simp_all [b9,ec];done)|(simp_all [b9,ec,o9,o5,j5,A3];done)|(simp_all [b9,ec,o9,o5,j5,A3]<;>omega)
 ·have e1:gj c ss ds t=1:=by unfold gj;rw [h1,h2];rfl
  refine gr ?_;exact ⟨_,_,rfl,by rw [e1];rfl,by rw [fin 1 (by simp [j5]) e1];rfl⟩
 refine gr ?_;refine Ex.I7 (fun k T H=>∃ (j:Nat) (w1 w2 w4 w5 w6:b6),T=[.ptr 5 0,w1,w2,.ptr 6 0,w4,w5,w6,.d (num t.m8.length),.d (num j)]/\H=[.cells (c.enc.map .d),xo,.cells (c.enc.map .d),.map (dmap (A1 ds t.name)),.map (R1 (ss.map (·.1)) 0),.cells (c.enc.map .d++[.map 3,.map 4,A5 2 E9 ss]),.cells (t.enc.map .d)]/\j+k=t.m8.length/\gj c ss ds t=sH c ss t k j) (by rintro _ _ _ ⟨_,_,_,_,_,_,_,rfl,_⟩;rfl) ?_ (k:=t.m8.length) ⟨0,_,_,_,_,_,rfl,rfl,by simp,by unfold gj;rw [h1,h2];rfl⟩;rintro k _ _ ⟨j,w1,w2,w4,w5,w6,rfl,rfl,hk,hj⟩;refine Ex.nT ?_;refine Ex.seq ?_;refine tb (C2 j t.m8.length) (fun h3=> ?_) (fun h3=> ?_)
 ·have h4:=z6 h3
  obtain ⟨k,rfl⟩:∃ k',k=k' +1:=⟨k - 1,by omega⟩;have UI:=Uk j (by omega);rw [sH] at hj
  repeat' (first|refine c1 UI rfl ?_|refine gx ?_|fail)
  refine tb (!o8 (dg c ss t j) 0) (fun h5=> ?_) (fun h5=> ?_)
  ·rw [h5,if_pos rfl] at hj
   refine gr ?_;exact ⟨_,_,rfl,by rw [hj];rfl,by rw [fin _ (by simpa using h5) hj];rfl⟩
  ·rw [h5,if_neg (by simp)] at hj
   refine gr ?_;exact ⟨k,by omega,j+1,_,_,_,_,_,rfl,rfl,by omega,hj⟩
 ·have h4:=z8 h3
  obtain rfl:k=0:=by omega
  have GP:=vX (X2 (by simpa using h1));have e1:gj c ss ds t=0:=hj;have e2:qu c ss ds t=ss++[(t.name,t.m8.map W6.name,t.m8.map W6.type)]:=by unfold qu;rw [e1];simp [j5]
  rw [e2]
  repeat' (first|refine cl (UJ) ?_|refine cl (UK) ?_|refine c0 GP rfl (h2:= ?_)|refine gx ?_|fail)
  exact ⟨_,_,rfl,by rw [e1];rfl,rfl⟩
end Go.Proofs.YtkmclibmmlgogaaGreat.fB
namespace Go.Proofs.YtkmclibmmlgogaaGreat.fB
open Go.u7 Go.u7.S
attribute [local irreducible] Rx Ry Rn Ex Pf
variable [Inhabited XO]
set_option maxHeartbeats 4000000 in
theorem UA (c:m9)(ds:List C7)(ss:List W5)(i:Nat)(hi:i<c.G9.length)(hc:c.j3.length<=1000)(Da:ss.length<=c.j3.length+c.views.length)(hsv:c.views.length<=1000)(hg:∀ k,k<c.views.length->(nth c.views k).kind≠1\/0<(nth c.views k).B3.length):Pm A 73 [.ptr 5 0,.d (num i)] (HH c ds ss) lW (.d (num (qh c ss ds (nth c.G9 i)))) (HH c (A1 ds (nth c.G9 i).name) ss):=by
 have bP:=eH c ds ss (nth c.G9 i).name;have Un:=lK c (A1 ds (nth c.G9 i).name) ss (nth c.G9 i).source;have b1:=iu ss (nth c.G9 i).source
 suffices h:Pq A 73 [.ptr 5 0,.d (num i)] (HH c ds ss) lW fun v H1=>v= .d (num (qh c ss ds (nth c.G9 i)))/\H1=HH c (A1 ds (nth c.G9 i).name) ss by
  obtain ⟨v,H1,⟨rfl,rfl⟩,h⟩:=h;exact h
 generalize hx:nth c.G9 i=x at *
 unfold HH at *
 refine Pq.run (b:=6) [.ptr 5 0,.d (num i),.any,.any,.any,.any,.any] rfl rfl rfl rfl rfl ?_;refine gr ?_;rw [hx]
 repeat' (first|refine c0 bP rfl (h2:= ?_)|refine gx ?_|fail)
 refine tb (!o8 (E0 ds x.name) 0) (fun h1=> ?_) (fun h1=> ?_)
 ·refine gr ?_
  exact ⟨_,_,rfl,by unfold qh;rw [h1];rfl,rfl⟩
 repeat' (first|refine c1 Un rfl ?_|refine gx ?_|fail)
 refine tb (C2 (A8 x.source (ss.map (·.1)) 0 - c.j3.length) 0) (fun h2=> ?_) (fun h2=> ?_)
 ·refine gr ?_
  exact ⟨_,_,rfl,by unfold qh;rw [h1,h2];rfl,rfl⟩
 have h3:=z8 h2;have h4:=hg (A8 x.source (ss.map (·.1)) 0 - c.j3.length).toNat (by omega);have hrv:nth c.views (A8 x.source (ss.map (·.1)) 0 - c.j3.length).toNat=QT c ss x:=rfl;refine gr ?_;rw [hrv] at h4 ⊢;refine gr ?_;refine tB (!o8 (QT c ss x).kind 1|| !o8 (nth (QT c ss x).B3 0).func 0|| !n7 x.SP 1 1024) ?_ (fun h5=> ?_) (fun h5=> ?_)
 ·repeat' (first|refine cl (bu _ _ _) ?_|refine gx ?_|refine fk (h1:=fun hw=> ?_) (h2:=fun hw=> ?_)|refine M8 (h1:=fun hw=> ?_) (h2:=fun hw=> ?_)|refine ⟨rfl,rfl,_,rfl,?_⟩|refine ⟨rfl,rfl⟩|fail)
  all_goals exact cc
 ·refine gr ?_
  exact ⟨_,_,rfl,by unfold qh;rw [h1,h2,h5];rfl,rfl⟩
 ·refine gr ?_
  exact ⟨_,_,rfl,by unfold qh;rw [h1,h2,h5];rfl,rfl⟩
set_option maxHeartbeats 4000000 in
theorem UC (c:m9)(ds:List C7)(ss:List W5)(i:Nat)(hi:i<c.K8.length)(hc:c.j3.length<=1000)(hx1:(nth c.K8 i).tables.length<=1000):Pm A 75 [.ptr 5 0,.d (num i)] (HH c ds ss) lW (.d (num (HC c ss ds (nth c.K8 i)))) (HH c (A1 ds (nth c.K8 i).name) ss):=by
 have bP:=eH c ds ss (nth c.K8 i).name;have GJ:∀ s,Pm A 122 [.ptr 5 0,.d (.str s)] (HH c (A1 ds (nth c.K8 i).name) ss) lR (.d (.bool (cN c ss s))) (HH c (A1 ds (nth c.K8 i).name) ss):=fun s=>DB c (A1 ds (nth c.K8 i).name) ss s hc
 suffices h:Pq A 75 [.ptr 5 0,.d (num i)] (HH c ds ss) lW fun v H1=>v= .d (num (HC c ss ds (nth c.K8 i)))/\H1=HH c (A1 ds (nth c.K8 i).name) ss by
  obtain ⟨v,H1,⟨rfl,rfl⟩,h⟩:=h;exact h
 generalize hx:nth c.K8 i=x at *
 unfold HH at *
 refine Pq.run (b:=6) [.ptr 5 0,.d (num i),.any,.any,.any,.any,.any,.any,.any,.any] rfl rfl rfl rfl rfl ?_;refine gr ?_;rw [hx]
 repeat' (first|refine c0 bP rfl (h2:= ?_)|refine gx ?_|fail)
 refine tb (!o8 (E0 ds x.name) 0) (fun h1=> ?_) (fun h1=> ?_)
 ·refine gr ?_
  exact ⟨_,_,rfl,by unfold HC;rw [h1];rfl,rfl⟩
 refine gr ?_;refine tB (o8 x.tables.length 0|| !n7 x.keep 1 1048576) ?_ (fun h2=> ?_) (fun h2=> ?_)
 ·repeat' (first|refine cl (bu _ _ _) ?_|refine gx ?_|refine fk (h1:=fun hw=> ?_) (h2:=fun hw=> ?_)|refine M8 (h1:=fun hw=> ?_) (h2:=fun hw=> ?_)|refine ⟨rfl,rfl,_,rfl,?_⟩|refine ⟨rfl,rfl⟩|fail)
  all_goals exact cc
 ·refine gr ?_
  exact ⟨_,_,rfl,by unfold HC;rw [h1,h2];rfl,rfl⟩
 refine gr ?_;refine Ex.I7 (fun k T H=>∃ (j:Nat) (w1 w2 w4 w5 w6:b6),T=[.ptr 5 0,w1,w2,.ptr 6 0,w4,w5,w6,.d (y7 (fun s=>[.str s]) x.tables),.d (num x.tables.length),.d (num j)]/\H=[.cells (c.enc.map .d),xo,.cells (c.enc.map .d),.map (dmap (A1 ds x.name)),.map (R1 (ss.map (·.1)) 0),.cells (c.enc.map .d++[.map 3,.map 4,A5 2 E9 ss]),.cells (x.enc.map .d)]/\j+k=x.tables.length/\HC c ss ds x=Lt c ss (x.tables.take j) (x.tables.drop j)) (by rintro _ _ _ ⟨_,_,_,_,_,_,_,rfl,_⟩;rfl) ?_ (k:=x.tables.length) ⟨0,_,_,_,_,_,rfl,rfl,by simp,by simp [HC,h1,h2]⟩;rintro k _ _ ⟨j,w1,w2,w4,w5,w6,rfl,rfl,hk,hj⟩;refine Ex.nT ?_;refine Ex.seq ?_;refine tb (C2 j x.tables.length) (fun h3=> ?_) (fun h3=> ?_)
 ·have h4:=z6 h3
  rw [A4 (by omega)] at hj;have UP:=GJ (nth x.tables j);have UQ:=Ir (x.tables.take j) (nth x.tables j) (by simp;omega);refine gr ?_;refine tB (!cN c ss (nth x.tables j)) ?_ (fun h5=> ?_) (fun h5=> ?_)
  ·repeat' (first|refine c1 UP rfl ?_|refine gx ?_|refine fk (h1:=fun hw=> ?_) (h2:=fun hw=> ?_)|refine M8 (h1:=fun hw=> ?_) (h2:=fun hw=> ?_)|refine ⟨rfl,rfl,_,rfl,?_⟩|refine ⟨rfl,rfl⟩|fail)
   all_goals exact cc
  ·refine gr ?_
   exact ⟨_,_,rfl,by rw [hj];unfold Lt;rw [h5];rfl,rfl⟩
  refine gr ?_;refine tB ((x.tables.take j).any fun y=>I9 y (nth x.tables j)) ?_ (fun h6=> ?_) (fun h6=> ?_)
  ·repeat' (first|refine cl (UQ) ?_|refine gx ?_|refine fk (h1:=fun hw=> ?_) (h2:=fun hw=> ?_)|refine M8 (h1:=fun hw=> ?_) (h2:=fun hw=> ?_)|refine ⟨rfl,rfl,_,rfl,?_⟩|refine ⟨rfl,rfl⟩|fail)
   all_goals exact cc
  ·refine gr ?_
   exact ⟨_,_,rfl,by rw [hj];unfold Lt;rw [h5,h6];rfl,rfl⟩
  ·refine gr ?_
   refine ⟨k - 1,by omega,j+1,_,_,_,_,_,rfl,rfl,by omega,?_⟩;rw [hj,I6 (by omega)];simp only [Lt,h5,h6,b7,if_false]
 ·have h4:=z8 h3
  rw [m7 (by omega)] at hj;refine gr ?_;exact ⟨_,_,rfl,by rw [hj];rfl,rfl⟩
end Go.Proofs.YtkmclibmmlgogaaGreat.fB


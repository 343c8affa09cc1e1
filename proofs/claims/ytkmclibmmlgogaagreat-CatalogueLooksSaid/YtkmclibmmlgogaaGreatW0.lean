/- Texts D20w D21w D22w D25w D26w D27w D23w (made short by a program) -/
import Derived.Test.YtkmclibmmlgogaaGreatD9
set_option linter.unusedVariables false
set_option linter.unusedSimpArgs false
open Bool renaming false_eq_true → b7
open List renaming drop_of_length_le → m6
namespace Go.Proofs.YtkmclibmmlgogaaGreat.dK
open Go.z7 Go.z7.S
attribute [local irreducible] Rx Ry Rn Ex Pf
structure XO where
 x:Int
abbrev xo [Inhabited XO]:z6:= .cells [.d (num (default:XO).x)]
variable [Inhabited XO]
def HH (c:n5)(ds:List D6)(ss:List Y0):o6 :=
 [.cells (c.enc.map .d),xo,.cells (c.enc.map .d),.map (dmap ds),.map (S6 (ss.map (·.1)) 0),.cells (c.enc.map .d++[.map 3,.map 4,B4 2 G5 ss])]
def lW:H7:=⟨0,0,6,6⟩
def lR:H7:=⟨0,6,6,6⟩
theorem lD (c:n5)(ds:List D6)(ss:List Y0)(s:D6):Pm A 61 [.ptr 5 0,.d (.str s)] (HH c ds ss) lR (.d (num (B8 s (ss.map (·.1)) 0))) (HH c ds ss):=by
 have hf:=sP s (ss.map (·.1)) 0
 suffices h:Pq A 61 [.ptr 5 0,.d (.str s)] (HH c ds ss) lR fun v H1=>v= .d (num (B8 s (ss.map (·.1)) 0))/\H1=HH c ds ss by
  obtain ⟨v,H1,⟨rfl,rfl⟩,h⟩:=h;exact h
 unfold HH;refine Pq.run (b:=6) [.ptr 5 0,.d (.str s),.any,.any,.any] rfl rfl rfl rfl rfl ?_;cases h1:C7 (B8 s (ss.map (·.1)) 0) 0 with
 |true =>
  rw [h1,if_pos rfl] at hf;have h2:=A4 h1;have h3:B8 s (ss.map (·.1)) 0= -1:=by rcases bZ s (ss.map (·.1)) 0 with h|h<;>omega
  repeat' (first|refine lk2 hf rfl rfl ?_|refine gx ?_|fail)
  refine tb (false) (fun h4=> ?_) (fun h4=> ?_)
  ·cases h4
  refine gr ?_;exact ⟨_,_,rfl,by rw [h3];rfl,rfl⟩
 |false =>
  rw [h1,if_neg (by simp)] at hf
  repeat' (first|refine lk2 hf rfl rfl ?_|refine gx ?_|fail)
  refine tb (true) (fun h4=> ?_) (fun h4=> ?_)
  ·refine gr ?_
   exact ⟨_,_,rfl,rfl,rfl⟩
  ·cases h4
theorem BY (c:n5)(ds:List D6)(ss:List Y0)(n:Int):Pm A 38 [.ptr 5 0,.d (num n)] (HH c ds ss) lR (.d (.bool (W6 0 n&&C7 n ss.length))) (HH c ds ss):=by
 suffices h:Pq A 38 [.ptr 5 0,.d (num n)] (HH c ds ss) lR fun v H1=>v= .d (.bool (W6 0 n&&C7 n ss.length))/\H1=HH c ds ss by
  obtain ⟨v,H1,⟨rfl,rfl⟩,h⟩:=h;exact h
 unfold HH;refine Pq.run (b:=6) [.ptr 5 0,.d (num n),.any] rfl rfl rfl rfl rfl ?_
 repeat' (first|refine gx ?_|refine fk (h1:=fun hw=> ?_) (h2:=fun hw=> ?_)|refine L3 (h1:=fun hw=> ?_) (h2:=fun hw=> ?_)|refine Ex.I4 ?_|refine Ex.I6 ?_|refine Ex.cond rfl (fun ht=> ?_) (fun ht=> ?_)|refine Ex.test (Rn.text ?_)|refine Ex.test (Rn.draw ?_)|refine ⟨_,rfl,fun ht=> ?_,fun ht=> ?_⟩|refine ⟨_,rfl,?_⟩|fail)
 all_goals exact ⟨_,_,rfl,by simp [*,b9],rfl⟩
theorem Ed (c:n5)(ds:List D6)(ss:List Y0)(s:D6)(hc:c.j3.length<=1000):Pm A 122 [.ptr 5 0,.d (.str s)] (HH c ds ss) lR (.d (.bool (dg c ss s))) (HH c ds ss):=by
 have p1:=lD c ds ss s
 suffices h:Pq A 122 [.ptr 5 0,.d (.str s)] (HH c ds ss) lR fun v H1=>v= .d (.bool (dg c ss s))/\H1=HH c ds ss by
  obtain ⟨v,H1,⟨rfl,rfl⟩,h⟩:=h;exact h
 unfold HH at p1 ⊢;refine Pq.run (b:=6) [.ptr 5 0,.d (.str s),.any] rfl rfl rfl rfl rfl ?_
 repeat' (first|refine c1 p1 rfl ?_|refine cl (bM _ _ _) ?_|refine gx ?_|fail)
 exact ⟨_,_,rfl,rfl,rfl⟩
end Go.Proofs.YtkmclibmmlgogaaGreat.dK
namespace Go.Proofs.YtkmclibmmlgogaaGreat.dK
open Go.z7 Go.z7.S
attribute [local irreducible] Rx Ry Rn Ex Pf
variable [Inhabited XO]
theorem eY (c:n5)(ds:List D6)(ss:List Y0)(s:D6):Pm A 108 [.ptr 5 0,.d (.str s)] (HH c ds ss) lW (.d (num (E8 ds s))) (HH c (B5 ds s) ss):=by
 have hf:=sE s ds
 suffices h:Pq A 108 [.ptr 5 0,.d (.str s)] (HH c ds ss) lW fun v H1=>v= .d (num (E8 ds s))/\H1=HH c (B5 ds s) ss by
  obtain ⟨v,H1,⟨rfl,rfl⟩,h⟩:=h;exact h
 unfold HH;refine Pq.run (b:=6) [.ptr 5 0,.d (.str s),.any] rfl rfl rfl rfl rfl ?_;have QI:o9 3 0=false:=by simp [j9]
 have h11:o9 4 0=false:=by simp [j9]
 have h12:o9 0 0=true:=by simp [j9]
 refine gr ?_;refine tB (!E5 s) ?_ (fun h1=> ?_) (fun h1=> ?_)
 ·repeat' (first|refine cl (zZ _) ?_|refine gx ?_|refine fk (h1:=fun hw=> ?_) (h2:=fun hw=> ?_)|refine L3 (h1:=fun hw=> ?_) (h2:=fun hw=> ?_)|refine ⟨rfl,rfl,_,rfl,?_⟩|refine ⟨rfl,rfl⟩|fail)
  all_goals exact cc
 ·refine gr ?_
  have e1:E8 ds s=3:=by unfold E8;rw [h1];rfl
  exact ⟨_,_,rfl,by rw [e1];rfl,by unfold B5;rw [e1,QI];rfl⟩
 cases h2:ds.any fun y=>J4 y s with
 |true =>
  rw [h2,if_pos rfl] at hf;have e1:E8 ds s=4:=by unfold E8;rw [h1,h2];rfl
  refine tB (true) ?_ (fun h3=> ?_) (fun h3=> ?_)
  ·repeat' (first|refine lk1 hf rfl ?_|refine gx ?_|refine fk (h1:=fun hw=> ?_) (h2:=fun hw=> ?_)|refine L3 (h1:=fun hw=> ?_) (h2:=fun hw=> ?_)|refine ⟨rfl,rfl,_,rfl,?_⟩|refine ⟨rfl,rfl⟩|fail)
   all_goals exact cc
  ·refine gr ?_
   exact ⟨_,_,rfl,by rw [e1];rfl,by unfold B5;rw [e1,h11];rfl⟩
  ·cases h3
 |false =>
  rw [h2,if_neg (by simp)] at hf;have e1:E8 ds s=0:=by unfold E8;rw [h1,h2];rfl
  have hk:Data.Z0 .s (.str s) (.str s)=some true:=by simp [Data.Z0]
  refine tB (false) ?_ (fun h3=> ?_) (fun h3=> ?_)
  ·repeat' (first|refine lk1 hf rfl ?_|refine gx ?_|refine fk (h1:=fun hw=> ?_) (h2:=fun hw=> ?_)|refine L3 (h1:=fun hw=> ?_) (h2:=fun hw=> ?_)|refine ⟨rfl,rfl,_,rfl,?_⟩|refine ⟨rfl,rfl⟩|fail)
   all_goals exact cc
  ·cases h3
  repeat' (first|refine mp (vS s ds h2) hk (h2:= ?_)|refine gx ?_|fail)
  exact ⟨_,_,rfl,by rw [e1];rfl,by unfold B5;rw [e1,h12];rfl⟩
theorem xd (c:n5)(ds:List D6)(ss:List Y0)(s:D6)(nm:List D6)(ty:List Int)(hs:((ss.map (·.1)).any fun y=>J4 y s)=false)(hl:ss.length<=1000) :
  Pm A 111 [.ptr 5 0,.d (.str s),nV nm ty] (HH c ds ss) lW (.tuple []) (HH c ds (ss++[(s,nm,ty)])):=by
 have hput:=wM s (ss.map (·.1)) 0 hs;rw [List.length_map,Nat.zero_add] at hput;have hk:Data.Z0 .s (.str s) (.str s)=some true:=by simp [Data.Z0]
 have hr:roomFor (ss.length+1) 48=true:=by simp only [roomFor,decide_eq_true_eq];omega
 suffices h:Pq A 111 [.ptr 5 0,.d (.str s),nV nm ty] (HH c ds ss) lW fun v H1=>v= .tuple []/\H1=HH c ds (ss++[(s,nm,ty)]) by
  obtain ⟨v,H1,⟨rfl,rfl⟩,h⟩:=h;exact h
 unfold HH;refine Pq.run (b:=6) [.ptr 5 0,.d (.str s),nV nm ty,.any] rfl rfl rfl rfl rfl ?_
 repeat' (first|refine mp hput hk (h2:= ?_)|refine o2 ?_|refine ac2 (a:=(s,nm,ty)) (xs:=ss) (enc:=G5) hr rfl (h2:= ?_)|refine soO (h2:= ?_)|refine gx ?_|fail)
 refine ⟨_,_,rfl,rfl,?_⟩;have e:((ss++[(s,nm,ty)]).map (·.1))=ss.map (·.1)++[s]:=by simp
 rw [e];rfl
theorem xe (c:n5)(ds:List D6)(ss:List Y0)(s:D6)(col:Int)(dV:∀ k,k<ss.length->(nth ss k).2.2.length<=100000):Pm A 121 [.ptr 5 0,.d (.str s),.d (num col)] (HH c ds ss) lR (.tuple [.d (num (cw ss s col).1),.d (num (cw ss s col).2)]) (HH c ds ss):=by
 have p1:=lD c ds ss s;have b1:=iO ss s
 suffices h:Pq A 121 [.ptr 5 0,.d (.str s),.d (num col)] (HH c ds ss) lR fun v H1=>v= .tuple [.d (num (cw ss s col).1),.d (num (cw ss s col).2)]/\H1=HH c ds ss by
  obtain ⟨v,H1,⟨rfl,rfl⟩,h⟩:=h;exact h
 unfold HH at p1 ⊢;refine Pq.run (b:=6) [.ptr 5 0,.d (.str s),.d (num col),.any,.any,.any,.any] rfl rfl rfl rfl rfl ?_
 repeat' (first|refine c1 p1 rfl ?_|refine gx ?_|fail)
 refine tb (C7 (B8 s (ss.map (·.1)) 0) 0) (fun h1=> ?_) (fun h1=> ?_)
 ·refine gr ?_
  exact ⟨_,_,rfl,by unfold cw;rw [h1];rfl,rfl⟩
 have h2:=z8 h1;have h3:=dV (B8 s (ss.map (·.1)) 0).toNat (by omega);refine gr ?_;refine tB (!n8 col 0 ((nth ss (B8 s (ss.map (·.1)) 0).toNat).2.2.length - 1)) ?_ (fun h4=> ?_) (fun h4=> ?_)
 ·repeat' (first|refine cl (bM _ _ _) ?_|refine gx ?_|refine fk (h1:=fun hw=> ?_) (h2:=fun hw=> ?_)|refine L3 (h1:=fun hw=> ?_) (h2:=fun hw=> ?_)|refine ⟨rfl,rfl,_,rfl,?_⟩|refine ⟨rfl,rfl⟩|fail)
  all_goals exact cc
 ·refine gr ?_
  exact ⟨_,_,rfl,by unfold cw;rw [h1,h4];rfl,rfl⟩
 have h5:=h4;simp [n8,p5] at h5;refine gr ?_;exact ⟨_,_,rfl,by unfold cw;rw [h1,h4];rfl,rfl⟩
end Go.Proofs.YtkmclibmmlgogaaGreat.dK
namespace Go.Proofs.YtkmclibmmlgogaaGreat.dK
open Go.z7 Go.z7.S
attribute [local irreducible] Rx Ry Rn Ex Pf
variable [Inhabited XO]
set_option maxHeartbeats 4000000 in
theorem VG (c:n5)(ds:List D6)(ss:List Y0)(i:Nat)(hi:i<c.idxs.length)(dV:∀ k,k<ss.length->(nth ss k).2.2.length<=100000):Pm A 70 [.ptr 5 0,.d (num i)] (HH c ds ss) lW (.d (num (qB ss ds (nth c.idxs i)))) (HH c (B5 ds (nth c.idxs i).name) ss):=by
 have cn:=eY c ds ss (nth c.idxs i).name;have wV:=xe c (B5 ds (nth c.idxs i).name) ss (nth c.idxs i).source (nth c.idxs i).col dV
 suffices h:Pq A 70 [.ptr 5 0,.d (num i)] (HH c ds ss) lW fun v H1=>v= .d (num (qB ss ds (nth c.idxs i)))/\H1=HH c (B5 ds (nth c.idxs i).name) ss by
  obtain ⟨v,H1,⟨rfl,rfl⟩,h⟩:=h;exact h
 generalize hx:nth c.idxs i=x at *
 unfold HH at *
 refine Pq.run (b:=6) [.ptr 5 0,.d (num i),.any,.any,.any,.any,.any] rfl rfl rfl rfl rfl ?_;refine gr ?_;rw [hx]
 repeat' (first|refine c0 cn rfl (h2:= ?_)|refine gx ?_|fail)
 refine tb (!o9 (E8 ds x.name) 0) (fun h1=> ?_) (fun h1=> ?_)
 ·refine gr ?_
  exact ⟨_,_,rfl,by unfold qB;rw [h1];rfl,rfl⟩
 repeat' (first|refine c1 wV rfl ?_|refine gx ?_|fail)
 refine tb (!o9 (cw ss x.source x.col).2 0) (fun h2=> ?_) (fun h2=> ?_)
 ·refine gr ?_
  exact ⟨_,_,rfl,by unfold qB;rw [h1,h2];rfl,rfl⟩
 refine gr ?_;refine tb (!o9 (cw ss x.source x.col).1 2) (fun h3=> ?_) (fun h3=> ?_)
 ·refine gr ?_
  exact ⟨_,_,rfl,by unfold qB;rw [h1,h2,h3];rfl,rfl⟩
 ·refine gr ?_
  exact ⟨_,_,rfl,by unfold qB;rw [h1,h2,h3];rfl,rfl⟩
set_option maxHeartbeats 4000000 in
theorem VI (c:n5)(ds:List D6)(ss:List Y0)(i:Nat)(hi:i<c.F9.length)(dV:∀ k,k<ss.length->(nth ss k).2.2.length<=100000):Pm A 72 [.ptr 5 0,.d (num i)] (HH c ds ss) lW (.d (num (qg ss ds (nth c.F9 i)))) (HH c (B5 ds (nth c.F9 i).name) ss):=by
 have cn:=eY c ds ss (nth c.F9 i).name;have wV:=xe c (B5 ds (nth c.F9 i).name) ss (nth c.F9 i).source (nth c.F9 i).col dV
 suffices h:Pq A 72 [.ptr 5 0,.d (num i)] (HH c ds ss) lW fun v H1=>v= .d (num (qg ss ds (nth c.F9 i)))/\H1=HH c (B5 ds (nth c.F9 i).name) ss by
  obtain ⟨v,H1,⟨rfl,rfl⟩,h⟩:=h;exact h
 generalize hx:nth c.F9 i=x at *
 unfold HH at *
 refine Pq.run (b:=6) [.ptr 5 0,.d (num i),.any,.any,.any,.any] rfl rfl rfl rfl rfl ?_;refine gr ?_;rw [hx]
 repeat' (first|refine c0 cn rfl (h2:= ?_)|refine gx ?_|fail)
 refine tb (!o9 (E8 ds x.name) 0) (fun h1=> ?_) (fun h1=> ?_)
 ·refine gr ?_
  exact ⟨_,_,rfl,by unfold qg;rw [h1];rfl,rfl⟩
 repeat' (first|refine c1 wV rfl ?_|refine gx ?_|fail)
 refine tb (!o9 (cw ss x.source x.col).2 0) (fun h2=> ?_) (fun h2=> ?_)
 ·refine gr ?_
  exact ⟨_,_,rfl,by unfold qg;rw [h1,h2];rfl,rfl⟩
 refine gr ?_;refine tB (!n8 x.ttl 1 1048576) ?_ (fun h3=> ?_) (fun h3=> ?_)
 ·repeat' (first|refine cl (bM _ _ _) ?_|refine gx ?_|refine fk (h1:=fun hw=> ?_) (h2:=fun hw=> ?_)|refine L3 (h1:=fun hw=> ?_) (h2:=fun hw=> ?_)|refine ⟨rfl,rfl,_,rfl,?_⟩|refine ⟨rfl,rfl⟩|fail)
  all_goals exact cc
 ·refine gr ?_
  exact ⟨_,_,rfl,by unfold qg;rw [h1,h2,h3];rfl,rfl⟩
 ·refine gr ?_
  exact ⟨_,_,rfl,by unfold qg;rw [h1,h2,h3];rfl,rfl⟩
set_option maxHeartbeats 4000000 in
theorem VK (c:n5)(ds:List D6)(ss:List Y0)(i:Nat)(hi:i<c.K9.length)(hc:c.j3.length<=1000):Pm A 74 [.ptr 5 0,.d (num i)] (HH c ds ss) lW (.d (num (uJ c ss ds (nth c.K9 i)))) (HH c (B5 ds (nth c.K9 i).name) ss):=by
 have cn:=eY c ds ss (nth c.K9 i).name;have Ho:=Ed c (B5 ds (nth c.K9 i).name) ss (nth c.K9 i).table hc
 suffices h:Pq A 74 [.ptr 5 0,.d (num i)] (HH c ds ss) lW fun v H1=>v= .d (num (uJ c ss ds (nth c.K9 i)))/\H1=HH c (B5 ds (nth c.K9 i).name) ss by
  obtain ⟨v,H1,⟨rfl,rfl⟩,h⟩:=h;exact h
 generalize hx:nth c.K9 i=x at *
 unfold HH at *
 refine Pq.run (b:=6) [.ptr 5 0,.d (num i),.any,.any,.any] rfl rfl rfl rfl rfl ?_;refine gr ?_;rw [hx]
 repeat' (first|refine c0 cn rfl (h2:= ?_)|refine gx ?_|fail)
 refine tb (!o9 (E8 ds x.name) 0) (fun h1=> ?_) (fun h1=> ?_)
 ·refine gr ?_
  exact ⟨_,_,rfl,by unfold uJ;rw [h1];rfl,rfl⟩
 refine gr ?_;refine tB (!dg c ss x.table) ?_ (fun h2=> ?_) (fun h2=> ?_)
 ·repeat' (first|refine c1 Ho rfl ?_|refine gx ?_|refine fk (h1:=fun hw=> ?_) (h2:=fun hw=> ?_)|refine L3 (h1:=fun hw=> ?_) (h2:=fun hw=> ?_)|refine ⟨rfl,rfl,_,rfl,?_⟩|refine ⟨rfl,rfl⟩|fail)
  all_goals exact cc
 ·refine gr ?_
  exact ⟨_,_,rfl,by unfold uJ;rw [h1,h2];rfl,rfl⟩
 ·refine gr ?_
  exact ⟨_,_,rfl,by unfold uJ;rw [h1,h2];rfl,rfl⟩
set_option maxHeartbeats 4000000 in
theorem VH (c:n5)(ds:List D6)(ss:List Y0)(i:Nat)(hi:i<c.F3.length)(dV:∀ k,k<ss.length->(nth ss k).2.2.length<=100000):Pm A 71 [.ptr 5 0,.d (num i)] (HH c ds ss) lW (.d (num (jE ss ds (nth c.F3 i)))) (HH c (B5 ds (nth c.F3 i).name) ss):=by
 have cn:=eY c ds ss (nth c.F3 i).name;have wV:=xe c (B5 ds (nth c.F3 i).name) ss (nth c.F3 i).source (nth c.F3 i).col dV
 suffices h:Pq A 71 [.ptr 5 0,.d (num i)] (HH c ds ss) lW fun v H1=>v= .d (num (jE ss ds (nth c.F3 i)))/\H1=HH c (B5 ds (nth c.F3 i).name) ss by
  obtain ⟨v,H1,⟨rfl,rfl⟩,h⟩:=h;exact h
 generalize hx:nth c.F3 i=x at *
 unfold HH at *
 refine Pq.run (b:=6) [.ptr 5 0,.d (num i),.any,.any,.any,.any] rfl rfl rfl rfl rfl ?_;refine gr ?_;rw [hx]
 repeat' (first|refine c0 cn rfl (h2:= ?_)|refine gx ?_|fail)
 refine tb (!o9 (E8 ds x.name) 0) (fun h1=> ?_) (fun h1=> ?_)
 ·refine gr ?_
  exact ⟨_,_,rfl,by unfold jE;rw [h1];rfl,rfl⟩
 repeat' (first|refine c1 wV rfl ?_|refine gx ?_|fail)
 refine tb (!o9 (cw ss x.source x.col).2 0) (fun h2=> ?_) (fun h2=> ?_)
 ·refine gr ?_
  exact ⟨_,_,rfl,by unfold jE;rw [h1,h2];rfl,rfl⟩
 refine gr ?_;refine tb (!o9 x.kind 0&& !o9 x.kind 1&& !o9 x.kind 2) (fun h3=> ?_) (fun h3=> ?_)
 ·refine gr ?_
  exact ⟨_,_,rfl,by unfold jE;rw [h1,h2,h3];rfl,rfl⟩
 refine gr ?_;cases hW:n8 x.width 1 1024 with
 |false =>
  refine tB (true) ?_ (fun h4=> ?_) (fun h4=> ?_)
  ·repeat' (first|refine cl (bM _ _ _) ?_|refine gx ?_|refine fk (h1:=fun hw=> ?_) (h2:=fun hw=> ?_)|refine L3 (h1:=fun hw=> ?_) (h2:=fun hw=> ?_)|refine ⟨rfl,rfl,_,rfl,?_⟩|refine ⟨rfl,rfl⟩|fail)
   all_goals first|(simp [*,b9,hW];done)|(simp_all [b9,hW];done)|(simp_all [b9,hW,p8,p5,j9,B7];done)|(simp_all [b9,hW,p8,p5,j9,B7]<;>omega)
  ·refine gr ?_
   exact ⟨_,_,rfl,by unfold jE;rw [h1,h2,h3,hW];rfl,rfl⟩
  ·cases h4
 |true =>
 cases hD:n8 x.depth 1 8 with
 |false =>
  refine tB (true) ?_ (fun h4=> ?_) (fun h4=> ?_)
  ·repeat' (first|refine cl (bM _ _ _) ?_|refine gx ?_|refine fk (h1:=fun hw=> ?_) (h2:=fun hw=> ?_)|refine L3 (h1:=fun hw=> ?_) (h2:=fun hw=> ?_)|refine ⟨rfl,rfl,_,rfl,?_⟩|refine ⟨rfl,rfl⟩|fail)
   all_goals first|(simp [*,b9,hW,hD];done)|(simp_all [b9,hW,hD];done)|(simp_all [b9,hW,hD,p8,p5,j9,B7];done)|(simp_all [b9,hW,hD,p8,p5,j9,B7]<;>omega)
  ·refine gr ?_
   exact ⟨_,_,rfl,by unfold jE;rw [h1,h2,h3,hW,hD];rfl,rfl⟩
  ·cases h4
 |true =>
 have hm: -9223372036854775808<=x.width * x.depth/\x.width * x.depth<9223372036854775808:=by
  simp [n8,p5] at hW hD;have m1:=Int.mul_le_mul hW.2 hD.2 (by omega) (by omega);have m2:=Int.mul_nonneg (a:=x.width) (b:=x.depth) (by omega) (by omega);omega
 refine tB (!n8 x.width 1 1024|| !n8 x.depth 1 8||(o9 x.kind 2&& !o9 x.depth 1)||C7 1024 (x.width * x.depth)) ?_ (fun h4=> ?_) (fun h4=> ?_)
 ·repeat' (first|refine cl (bM _ _ _) ?_|refine mu (h0:=hm) ?_|refine gx ?_|refine fk (h1:=fun hw=> ?_) (h2:=fun hw=> ?_)|refine L3 (h1:=fun hw=> ?_) (h2:=fun hw=> ?_)|refine ⟨rfl,rfl,_,rfl,?_⟩|refine ⟨rfl,rfl⟩|fail)
  all_goals first|(simp [*,b9,hW,hD];done)|(simp_all [b9,hW,hD];done)|(simp_all [b9,hW,hD,p8,p5,j9,B7];done)|(simp_all [b9,hW,hD,p8,p5,j9,B7]<;>omega)
 ·refine gr ?_
  exact ⟨_,_,rfl,by unfold jE;rw [h1,h2,h3,h4];rfl,rfl⟩
 ·refine gr ?_
  exact ⟨_,_,rfl,by unfold jE;rw [h1,h2,h3,h4];rfl,rfl⟩
end Go.Proofs.YtkmclibmmlgogaaGreat.dK
namespace Go.Proofs.YtkmclibmmlgogaaGreat.dK
open Go.z7 Go.z7.S
attribute [local irreducible] Rx Ry Rn Ex Pf
variable [Inhabited XO]
def l7:H7:=⟨0,8,8,8⟩
theorem NU (a0 ax a1 a2 a3 a4 a5:z6)(x y:Y6):Pm A 148 [uy y,.ptr 7 0] [a0,ax,a1,a2,a3,a4,a5,.cells (x.enc.map .d)] l7 (.d (.bool (J4 y.name x.name))) [a0,ax,a1,a2,a3,a4,a5,.cells (x.enc.map .d)]:=by
 have _x:=(default:XO)
 suffices h:Pq A 148 [uy y,.ptr 7 0] [a0,ax,a1,a2,a3,a4,a5,.cells (x.enc.map .d)] l7 fun v H1=>v= .d (.bool (J4 y.name x.name))/\H1=[a0,ax,a1,a2,a3,a4,a5,.cells (x.enc.map .d)] by
  obtain ⟨v,H1,⟨rfl,rfl⟩,h⟩:=h;exact h
 refine Pq.run (b:=8) [uy y,.ptr 7 0,.any,.any] rfl rfl rfl rfl rfl ?_;refine gr ?_;exact ⟨_,_,rfl,rfl,rfl⟩
set_option maxHeartbeats 2000000 in
theorem NX (a0 ax a1 a2 a3 a4 a5:z6)(x:Y6)(ys:List Y6)(hy:ys.length<=1000):Pm A 171 [.d (A5 Y6.enc ys),.func 148 [] [.ptr 7 0]] [a0,ax,a1,a2,a3,a4,a5,.cells (x.enc.map .d)] l7 (.d (num (CO x ys 0))) [a0,ax,a1,a2,a3,a4,a5,.cells (x.enc.map .d)]:=by
 suffices h:Pq A 171 [.d (A5 Y6.enc ys),.func 148 [] [.ptr 7 0]] [a0,ax,a1,a2,a3,a4,a5,.cells (x.enc.map .d)] l7 fun v H1=>v= .d (num (CO x ys 0))/\H1=[a0,ax,a1,a2,a3,a4,a5,.cells (x.enc.map .d)] by
  obtain ⟨v,H1,⟨rfl,rfl⟩,h⟩:=h;exact h
 refine Pq.run (b:=8) [.d (A5 Y6.enc ys),.func 148 [] [.ptr 7 0],.any,.any,.any,.any] rfl rfl rfl rfl rfl ?_;refine gr ?_;refine Ex.J1 (fun k T H=>∃ (i:Nat) (v w:b6),T=[.d (A5 Y6.enc ys),.func 148 [] [.ptr 7 0],v,w,.d (num ys.length),.d (num i)]/\H=[a0,ax,a1,a2,a3,a4,a5,.cells (x.enc.map .d)]/\i+k=ys.length/\CO x ys 0=CO x (ys.drop i) i) (by rintro _ _ _ ⟨_,_,_,_,rfl,_⟩;rfl) ?_ (k:=ys.length) ⟨0,_,_,rfl,rfl,by simp,by simp⟩;rintro k _ _ ⟨i,v,w,rfl,rfl,hk,hi⟩;refine Ex.nT ?_;refine Ex.seq ?_;refine tb (C7 i ys.length) (fun h1=> ?_) (fun h1=> ?_)
 ·have h2:=A4 h1
  rw [A8 (by omega)] at hi;have p1:=NU a0 ax a1 a2 a3 a4 a5 x (nth ys i);refine gr ?_;refine tB (J4 (nth ys i).name x.name) ?_ (fun h3=> ?_) (fun h3=> ?_)
  ·repeat' (first|refine Yp p1 rfl ?_|refine gx ?_|refine fk (h1:=fun hw=> ?_) (h2:=fun hw=> ?_)|refine L3 (h1:=fun hw=> ?_) (h2:=fun hw=> ?_)|refine ⟨rfl,rfl,_,rfl,?_⟩|refine ⟨rfl,rfl⟩|fail)
   all_goals exact cc
  ·refine gr ?_
   exact ⟨_,_,rfl,by rw [hi,CO,h3];rfl,rfl⟩
  ·refine gr ?_
   exact ⟨k - 1,by omega,i+1,_,_,rfl,rfl,by omega,by rw [hi,CO,h3];rfl⟩
 ·have h2:=z8 h1
  rw [m6 (by omega)] at hi;refine gr ?_;exact ⟨_,_,rfl,by rw [hi];rfl,rfl⟩
theorem NT (a0 ax a1 a2 a3 a4 a5:z6)(x:Y6)(ys:List Y6)(hy:ys.length<=1000):Pm A 147 [.d (A5 Y6.enc ys),.func 148 [] [.ptr 7 0]] [a0,ax,a1,a2,a3,a4,a5,.cells (x.enc.map .d)] l7 (.d (.bool (ys.any fun y=>J4 y.name x.name))) [a0,ax,a1,a2,a3,a4,a5,.cells (x.enc.map .d)]:=by
 have p1:=NX a0 ax a1 a2 a3 a4 a5 x ys hy;rw [<- BC x ys 0]
 suffices h:Pq A 147 [.d (A5 Y6.enc ys),.func 148 [] [.ptr 7 0]] [a0,ax,a1,a2,a3,a4,a5,.cells (x.enc.map .d)] l7 fun v H1=>v= .d (.bool (W6 0 (CO x ys 0)))/\H1=[a0,ax,a1,a2,a3,a4,a5,.cells (x.enc.map .d)] by
  obtain ⟨v,H1,⟨rfl,rfl⟩,h⟩:=h;exact h
 refine Pq.run (b:=8) [.d (A5 Y6.enc ys),.func 148 [] [.ptr 7 0],.any] rfl rfl rfl rfl rfl ?_
 repeat' (first|refine c1 p1 rfl ?_|refine gx ?_|fail)
 exact ⟨_,_,rfl,rfl,rfl⟩
end Go.Proofs.YtkmclibmmlgogaaGreat.dK
namespace Go.Proofs.YtkmclibmmlgogaaGreat.dK
open Go.z7 Go.z7.S
attribute [local irreducible] Rx Ry Rn Ex Pf
variable [Inhabited XO]
set_option maxHeartbeats 8000000 in
theorem NR (c:n5)(ds:List D6)(ss:List Y0)(t:fu)(i:Nat)(hi:i<t.m9.length)(hc:t.m9.length<=1000)(ho:(nth t.m9 i).C9.length<=1000)(DF:ss.length<=c.j3.length)(ht:∀ k,k<ss.length->0<(nth ss k).2.2.length/\0<(nth c.j3 k).m9.length) :
  Pm A 110 [.ptr 5 0,iC t,.d (num i)] (HH c ds ss) lR (.d (num (dO c ss t i))) (HH c ds ss):=by
 have Rw:=lD c ds ss (nth t.m9 i).refs;have b1:=iO ss (nth t.m9 i).refs;have b2:(B8 (nth t.m9 i).refs (ss.map (·.1)) 0)= -1\/(0<=(B8 (nth t.m9 i).refs (ss.map (·.1)) 0)/\(B8 (nth t.m9 i).refs (ss.map (·.1)) 0)<ss.length/\0<(nth ss (B8 (nth t.m9 i).refs (ss.map (·.1)) 0).toNat).2.2.length/\0<(nth c.j3 (B8 (nth t.m9 i).refs (ss.map (·.1)) 0).toNat).m9.length):=by
  rcases b1 with h|h
  ·exact Or.inl h
  ·have:=ht (B8 (nth t.m9 i).refs (ss.map (·.1)) 0).toNat (by omega)
   exact Or.inr ⟨h.1,h.2,this.1,this.2⟩
 have Wc:=TA t (nth t.m9 i).C9 ho hc;have Wd:=TB t (nth t.m9 i);have q49:=VA (nth t.m9 i).C9 i (by omega)
 suffices h:Pq A 110 [.ptr 5 0,iC t,.d (num i)] (HH c ds ss) lR fun v H1=>v= .d (num (dO c ss t i))/\H1=HH c ds ss by
  obtain ⟨v,H1,⟨rfl,rfl⟩,h⟩:=h;exact h
 unfold HH at *
 have Wb:=NT (.cells (c.enc.map .d)) xo (.cells (c.enc.map .d)) (.map (dmap ds)) (.map (S6 (ss.map (·.1)) 0)) (.cells (c.enc.map .d++[.map 3,.map 4,B4 2 G5 ss])) (.cells (t.enc.map .d)) (nth t.m9 i) (t.m9.take i) (by simp;omega);refine Pq.run (b:=6) [.ptr 5 0,iC t,.d (num i),.any,.any,.any,.any,.any] rfl rfl rfl rfl rfl ?_;refine gr ?_;refine tB (!E5 (nth t.m9 i).name||(!J4 (nth t.m9 i).space []&& !E5 (nth t.m9 i).space)) ?_ (fun h1=> ?_) (fun h1=> ?_)
 ·repeat' (first|refine cl (zZ _) ?_|refine gx ?_|refine fk (h1:=fun hw=> ?_) (h2:=fun hw=> ?_)|refine L3 (h1:=fun hw=> ?_) (h2:=fun hw=> ?_)|refine ⟨rfl,rfl,_,rfl,?_⟩|refine ⟨rfl,rfl⟩|fail)
  all_goals exact cc
 ·refine gr ?_
  exact ⟨_,_,rfl,by unfold dO;rw [h1];rfl,rfl⟩
 refine gr ?_;refine tB ((t.m9.take i).any fun y=>J4 y.name (nth t.m9 i).name) ?_ (fun h2=> ?_) (fun h2=> ?_)
 ·repeat' (first|refine c1 Wb rfl ?_|refine gx ?_|refine fk (h1:=fun hw=> ?_) (h2:=fun hw=> ?_)|refine L3 (h1:=fun hw=> ?_) (h2:=fun hw=> ?_)|refine ⟨rfl,rfl,_,rfl,?_⟩|refine ⟨rfl,rfl⟩|fail)
  all_goals exact cc
 ·refine gr ?_
  exact ⟨_,_,rfl,by unfold dO;rw [h1,h2];rfl,rfl⟩
 repeat' (first|refine c1 Rw rfl ?_|refine gx ?_|fail)
 refine tb (!J4 (nth t.m9 i).refs []&&C7 (B8 (nth t.m9 i).refs (ss.map (·.1)) 0) 0) (fun h3=> ?_) (fun h3=> ?_)
 ·refine gr ?_
  exact ⟨_,_,rfl,by unfold dO;rw [h1,h2,h3];rfl,rfl⟩
 refine gr ?_;refine tB (!(o9 (nth t.m9 i).type 1||o9 (nth t.m9 i).type 2)||(W6 0 (B8 (nth t.m9 i).refs (ss.map (·.1)) 0)&& !o9 (nth t.m9 i).type (nth (nth ss (B8 (nth t.m9 i).refs (ss.map (·.1)) 0).toNat).2.2 0))) ?_ (fun h4=> ?_) (fun h4=> ?_)
 ·repeat' (first|refine cl (Ty _) ?_|refine gx ?_|refine fk (h1:=fun hw=> ?_) (h2:=fun hw=> ?_)|refine L3 (h1:=fun hw=> ?_) (h2:=fun hw=> ?_)|refine ⟨rfl,rfl,_,rfl,?_⟩|refine ⟨rfl,rfl⟩|fail)
  all_goals exact cc
 ·refine gr ?_
  exact ⟨_,_,rfl,by unfold dO;rw [h1,h2,h3,h4];rfl,rfl⟩
 refine gr ?_;refine tB ((!J4 (nth t.m9 i).space []&& !J4 (nth t.m9 i).refs [])|| !S3 t (-1) (nth t.m9 i).C9|| !iS t (nth t.m9 i)) ?_ (fun h5=> ?_) (fun h5=> ?_)
 ·repeat' (first|refine cl (Wc) ?_|refine cl (Wd) ?_|refine gx ?_|refine fk (h1:=fun hw=> ?_) (h2:=fun hw=> ?_)|refine L3 (h1:=fun hw=> ?_) (h2:=fun hw=> ?_)|refine ⟨rfl,rfl,_,rfl,?_⟩|refine ⟨rfl,rfl⟩|fail)
  all_goals exact cc
 ·refine gr ?_
  exact ⟨_,_,rfl,by unfold dO;rw [h1,h2,h3,h4,h5];rfl,rfl⟩
 refine gr ?_;refine tb (o9 i 0&&C7 0 (nth t.m9 i).C9.length&& !o9 t.erase 1) (fun h6=> ?_) (fun h6=> ?_)
 ·refine gr ?_
  exact ⟨_,_,rfl,by unfold dO;rw [h1,h2,h3,h4,h5,h6];rfl,rfl⟩
 refine gr ?_;refine tB (W6 0 (B8 (nth t.m9 i).refs (ss.map (·.1)) 0)&&C7 0 (nth (nth c.j3 (B8 (nth t.m9 i).refs (ss.map (·.1)) 0).toNat).m9 0).C9.length&& !((nth t.m9 i).C9.any fun y=>o9 y i)) ?_ (fun h7=> ?_) (fun h7=> ?_)
 ·repeat' (first|refine cl (q49) ?_|refine gx ?_|refine fk (h1:=fun hw=> ?_) (h2:=fun hw=> ?_)|refine L3 (h1:=fun hw=> ?_) (h2:=fun hw=> ?_)|refine ⟨rfl,rfl,_,rfl,?_⟩|refine ⟨rfl,rfl⟩|fail)
  all_goals exact cc
 ·refine gr ?_
  exact ⟨_,_,rfl,by unfold dO;rw [h1,h2,h3,h4,h5,h6,h7];rfl,rfl⟩
 refine gr ?_;exact ⟨_,_,rfl,by unfold dO;rw [h1,h2,h3,h4,h5,h6,h7];rfl,rfl⟩
end Go.Proofs.YtkmclibmmlgogaaGreat.dK
namespace Go.Proofs.YtkmclibmmlgogaaGreat.dK
open Go.z7 Go.z7.S
attribute [local irreducible] Rx Ry Rn Ex Pf
variable [Inhabited XO]
set_option maxHeartbeats 8000000 in
theorem VE (c:n5)(ds:List D6)(ss:List Y0)(i:Nat)(hi:i<c.j3.length)(hc:(nth c.j3 i).m9.length<=1000)(ho:∀ j,j<(nth c.j3 i).m9.length->(nth (nth c.j3 i).m9 j).C9.length<=1000)(DF:ss.length<=c.j3.length)(UX:ss.length<=1000)(hi2:c.j3.length<=1000)
  (ht:∀ k,k<ss.length->0<(nth ss k).2.2.length/\0<(nth c.j3 k).m9.length) (hsub:∀ s,(ds.any fun y=>J4 y s)=false->((ss.map (·.1)).any fun y=>J4 y s)=false) :
  Pm A 68 [.ptr 5 0,.d (num i)] (HH c ds ss) lW (.d (num (gE c ss ds (nth c.j3 i)))) (HH c (B5 ds (nth c.j3 i).name) (rC c ss ds (nth c.j3 i))):=by
 generalize hx:nth c.j3 i=t at *
 have cn:=eY c ds ss t.name;have Vt:∀ j,j<t.m9.length->Pm A 110 [.ptr 5 0,iC t,.d (num j)] (HH c (B5 ds t.name) ss) lR (.d (num (dO c ss t j))) (HH c (B5 ds t.name) ss):=fun j hj=>NR c (B5 ds t.name) ss t j hj hc (ho j hj) DF ht
 have VT:=Ts t.m9 hc;have VU:=Tt t.m9 hc;have wU:E8 ds t.name=0->Pm A 111 [.ptr 5 0,.d (.str t.name),nV (t.m9.map Y6.name) (t.m9.map Y6.type)] (HH c (B5 ds t.name) ss) lW (.tuple []) (HH c (B5 ds t.name) (ss++[(t.name,t.m9.map Y6.name,t.m9.map Y6.type)])):=fun h=>by
  refine xd c (B5 ds t.name) ss t.name _ _ (hsub _ ?_) UX;unfold E8 at h;cases h1:(!E5 t.name) with
  |true=>rw [h1] at h;simp at h
  |false =>
   rw [h1] at h;cases h2:ds.any fun y=>J4 y t.name with
   |false=>rfl
   |true=>rw [h2] at h;simp at h
 suffices h:Pq A 68 [.ptr 5 0,.d (num i)] (HH c ds ss) lW fun v H1=>v= .d (num (gE c ss ds t))/\H1=HH c (B5 ds t.name) (rC c ss ds t) by
  obtain ⟨v,H1,⟨rfl,rfl⟩,h⟩:=h;exact h
 have fin:∀ e:Int,o9 e 0=false->gE c ss ds t=e->rC c ss ds t=ss:=fun e h1 h2=>by unfold rC;rw [h2,h1];rfl
 unfold HH at *
 refine Pq.run (b:=6) [.ptr 5 0,.d (num i),.any,.any,.any,.any,.any,.any,.any] rfl rfl rfl rfl rfl ?_;refine gr ?_;rw [hx]
 repeat' (first|refine c0 cn rfl (h2:= ?_)|refine gx ?_|fail)
 refine tb (!o9 (E8 ds t.name) 0) (fun h1=> ?_) (fun h1=> ?_)
 ·have e1:gE c ss ds t=E8 ds t.name:=by unfold gE;rw [h1];rfl
  refine gr ?_;exact ⟨_,_,rfl,by rw [e1];rfl,by rw [fin _ (by simpa using h1) e1];rfl⟩
 refine gr ?_;refine tB (ez t) ?_ (fun h2=> ?_) (fun h2=> ?_)
 ·repeat' (first|refine cl (bM _ _ _) ?_|refine gx ?_|refine fk (h1:=fun hw=> ?_) (h2:=fun hw=> ?_)|refine L3 (h1:=fun hw=> ?_) (h2:=fun hw=> ?_)|refine ⟨rfl,rfl,_,rfl,?_⟩|refine ⟨rfl,rfl⟩|fail)
  all_goals first|(simp [*,b9,ez];done)|(simp_all [b9,ez];done)|(simp_all [b9,ez,p8,p5,j9,B7];done)|(simp_all [b9,ez,p8,p5,j9,B7]<;>omega)
 ·have e1:gE c ss ds t=1:=by unfold gE;rw [h1,h2];rfl
  refine gr ?_;exact ⟨_,_,rfl,by rw [e1];rfl,by rw [fin 1 (by simp [j9]) e1];rfl⟩
 refine gr ?_;refine Ex.J1 (fun k T H=>∃ (j:Nat) (w1 w2 w4 w5 w6:b6),T=[.ptr 5 0,w1,w2,.ptr 6 0,w4,w5,w6,.d (num t.m9.length),.d (num j)]/\H=[.cells (c.enc.map .d),xo,.cells (c.enc.map .d),.map (dmap (B5 ds t.name)),.map (S6 (ss.map (·.1)) 0),.cells (c.enc.map .d++[.map 3,.map 4,B4 2 G5 ss]),.cells (t.enc.map .d)]/\j+k=t.m9.length/\gE c ss ds t=tG c ss t k j) (by rintro _ _ _ ⟨_,_,_,_,_,_,_,rfl,_⟩;rfl) ?_ (k:=t.m9.length) ⟨0,_,_,_,_,_,rfl,rfl,by simp,by unfold gE;rw [h1,h2];rfl⟩;rintro k _ _ ⟨j,w1,w2,w4,w5,w6,rfl,rfl,hk,hj⟩;refine Ex.nT ?_;refine Ex.seq ?_;refine tb (C7 j t.m9.length) (fun h3=> ?_) (fun h3=> ?_)
 ·have h4:=A4 h3
  obtain ⟨k,rfl⟩:∃ k',k=k' +1:=⟨k - 1,by omega⟩;have VS:=Vt j (by omega);rw [tG] at hj
  repeat' (first|refine c1 VS rfl ?_|refine gx ?_|fail)
  refine tb (!o9 (dO c ss t j) 0) (fun h5=> ?_) (fun h5=> ?_)
  ·rw [h5,if_pos rfl] at hj
   refine gr ?_;exact ⟨_,_,rfl,by rw [hj];rfl,by rw [fin _ (by simpa using h5) hj];rfl⟩
  ·rw [h5,if_neg (by simp)] at hj
   refine gr ?_;exact ⟨k,by omega,j+1,_,_,_,_,_,rfl,rfl,by omega,hj⟩
 ·have h4:=z8 h3
  obtain rfl:k=0:=by omega
  have Hu:=wU (X2 (by simpa using h1));have e1:gE c ss ds t=0:=hj;have e2:rC c ss ds t=ss++[(t.name,t.m9.map Y6.name,t.m9.map Y6.type)]:=by unfold rC;rw [e1];simp [j9]
  rw [e2]
  repeat' (first|refine cl (VT) ?_|refine cl (VU) ?_|refine c0 Hu rfl (h2:= ?_)|refine gx ?_|fail)
  exact ⟨_,_,rfl,by rw [e1];rfl,rfl⟩
end Go.Proofs.YtkmclibmmlgogaaGreat.dK
namespace Go.Proofs.YtkmclibmmlgogaaGreat.dK
open Go.z7 Go.z7.S
attribute [local irreducible] Rx Ry Rn Ex Pf
variable [Inhabited XO]
set_option maxHeartbeats 4000000 in
theorem VJ (c:n5)(ds:List D6)(ss:List Y0)(i:Nat)(hi:i<c.J3.length)(hc:c.j3.length<=1000)(DF:ss.length<=c.j3.length+c.views.length)(hsv:c.views.length<=1000)(hg:∀ k,k<c.views.length->(nth c.views k).kind≠1\/0<(nth c.views k).C2.length):Pm A 73 [.ptr 5 0,.d (num i)] (HH c ds ss) lW (.d (num (qQ c ss ds (nth c.J3 i)))) (HH c (B5 ds (nth c.J3 i).name) ss):=by
 have cn:=eY c ds ss (nth c.J3 i).name;have Rw:=lD c (B5 ds (nth c.J3 i).name) ss (nth c.J3 i).source;have b1:=iO ss (nth c.J3 i).source
 suffices h:Pq A 73 [.ptr 5 0,.d (num i)] (HH c ds ss) lW fun v H1=>v= .d (num (qQ c ss ds (nth c.J3 i)))/\H1=HH c (B5 ds (nth c.J3 i).name) ss by
  obtain ⟨v,H1,⟨rfl,rfl⟩,h⟩:=h;exact h
 generalize hx:nth c.J3 i=x at *
 unfold HH at *
 refine Pq.run (b:=6) [.ptr 5 0,.d (num i),.any,.any,.any,.any,.any] rfl rfl rfl rfl rfl ?_;refine gr ?_;rw [hx]
 repeat' (first|refine c0 cn rfl (h2:= ?_)|refine gx ?_|fail)
 refine tb (!o9 (E8 ds x.name) 0) (fun h1=> ?_) (fun h1=> ?_)
 ·refine gr ?_
  exact ⟨_,_,rfl,by unfold qQ;rw [h1];rfl,rfl⟩
 repeat' (first|refine c1 Rw rfl ?_|refine gx ?_|fail)
 refine tb (C7 (B8 x.source (ss.map (·.1)) 0 - c.j3.length) 0) (fun h2=> ?_) (fun h2=> ?_)
 ·refine gr ?_
  exact ⟨_,_,rfl,by unfold qQ;rw [h1,h2];rfl,rfl⟩
 have h3:=z8 h2;have h4:=hg (B8 x.source (ss.map (·.1)) 0 - c.j3.length).toNat (by omega);have hrv:nth c.views (B8 x.source (ss.map (·.1)) 0 - c.j3.length).toNat=RS c ss x:=rfl;refine gr ?_;rw [hrv] at h4 ⊢;refine gr ?_;refine tB (!o9 (RS c ss x).kind 1|| !o9 (nth (RS c ss x).C2 0).func 0|| !n8 x.Xl 1 1024) ?_ (fun h5=> ?_) (fun h5=> ?_)
 ·repeat' (first|refine cl (bM _ _ _) ?_|refine gx ?_|refine fk (h1:=fun hw=> ?_) (h2:=fun hw=> ?_)|refine L3 (h1:=fun hw=> ?_) (h2:=fun hw=> ?_)|refine ⟨rfl,rfl,_,rfl,?_⟩|refine ⟨rfl,rfl⟩|fail)
  all_goals exact cc
 ·refine gr ?_
  exact ⟨_,_,rfl,by unfold qQ;rw [h1,h2,h5];rfl,rfl⟩
 ·refine gr ?_
  exact ⟨_,_,rfl,by unfold qQ;rw [h1,h2,h5];rfl,rfl⟩
set_option maxHeartbeats 4000000 in
theorem VL (c:n5)(ds:List D6)(ss:List Y0)(i:Nat)(hi:i<c.M8.length)(hc:c.j3.length<=1000)(hx1:(nth c.M8 i).tables.length<=1000):Pm A 75 [.ptr 5 0,.d (num i)] (HH c ds ss) lW (.d (num (Ij c ss ds (nth c.M8 i)))) (HH c (B5 ds (nth c.M8 i).name) ss):=by
 have cn:=eY c ds ss (nth c.M8 i).name;have Ho:∀ s,Pm A 122 [.ptr 5 0,.d (.str s)] (HH c (B5 ds (nth c.M8 i).name) ss) lR (.d (.bool (dg c ss s))) (HH c (B5 ds (nth c.M8 i).name) ss):=fun s=>Ed c (B5 ds (nth c.M8 i).name) ss s hc
 suffices h:Pq A 75 [.ptr 5 0,.d (num i)] (HH c ds ss) lW fun v H1=>v= .d (num (Ij c ss ds (nth c.M8 i)))/\H1=HH c (B5 ds (nth c.M8 i).name) ss by
  obtain ⟨v,H1,⟨rfl,rfl⟩,h⟩:=h;exact h
 generalize hx:nth c.M8 i=x at *
 unfold HH at *
 refine Pq.run (b:=6) [.ptr 5 0,.d (num i),.any,.any,.any,.any,.any,.any,.any,.any] rfl rfl rfl rfl rfl ?_;refine gr ?_;rw [hx]
 repeat' (first|refine c0 cn rfl (h2:= ?_)|refine gx ?_|fail)
 refine tb (!o9 (E8 ds x.name) 0) (fun h1=> ?_) (fun h1=> ?_)
 ·refine gr ?_
  exact ⟨_,_,rfl,by unfold Ij;rw [h1];rfl,rfl⟩
 refine gr ?_;refine tB (o9 x.tables.length 0|| !n8 x.keep 1 1048576) ?_ (fun h2=> ?_) (fun h2=> ?_)
 ·repeat' (first|refine cl (bM _ _ _) ?_|refine gx ?_|refine fk (h1:=fun hw=> ?_) (h2:=fun hw=> ?_)|refine L3 (h1:=fun hw=> ?_) (h2:=fun hw=> ?_)|refine ⟨rfl,rfl,_,rfl,?_⟩|refine ⟨rfl,rfl⟩|fail)
  all_goals exact cc
 ·refine gr ?_
  exact ⟨_,_,rfl,by unfold Ij;rw [h1,h2];rfl,rfl⟩
 refine gr ?_;refine Ex.J1 (fun k T H=>∃ (j:Nat) (w1 w2 w4 w5 w6:b6),T=[.ptr 5 0,w1,w2,.ptr 6 0,w4,w5,w6,.d (A5 (fun s=>[.str s]) x.tables),.d (num x.tables.length),.d (num j)]/\H=[.cells (c.enc.map .d),xo,.cells (c.enc.map .d),.map (dmap (B5 ds x.name)),.map (S6 (ss.map (·.1)) 0),.cells (c.enc.map .d++[.map 3,.map 4,B4 2 G5 ss]),.cells (x.enc.map .d)]/\j+k=x.tables.length/\Ij c ss ds x=Mc c ss (x.tables.take j) (x.tables.drop j)) (by rintro _ _ _ ⟨_,_,_,_,_,_,_,rfl,_⟩;rfl) ?_ (k:=x.tables.length) ⟨0,_,_,_,_,_,rfl,rfl,by simp,by simp [Ij,h1,h2]⟩;rintro k _ _ ⟨j,w1,w2,w4,w5,w6,rfl,rfl,hk,hj⟩;refine Ex.nT ?_;refine Ex.seq ?_;refine tb (C7 j x.tables.length) (fun h3=> ?_) (fun h3=> ?_)
 ·have h4:=A4 h3
  rw [A8 (by omega)] at hj;have VZ:=Ho (nth x.tables j);have Wa:=IV (x.tables.take j) (nth x.tables j) (by simp;omega);refine gr ?_;refine tB (!dg c ss (nth x.tables j)) ?_ (fun h5=> ?_) (fun h5=> ?_)
  ·repeat' (first|refine c1 VZ rfl ?_|refine gx ?_|refine fk (h1:=fun hw=> ?_) (h2:=fun hw=> ?_)|refine L3 (h1:=fun hw=> ?_) (h2:=fun hw=> ?_)|refine ⟨rfl,rfl,_,rfl,?_⟩|refine ⟨rfl,rfl⟩|fail)
   all_goals exact cc
  ·refine gr ?_
   exact ⟨_,_,rfl,by rw [hj];unfold Mc;rw [h5];rfl,rfl⟩
  refine gr ?_;refine tB ((x.tables.take j).any fun y=>J4 y (nth x.tables j)) ?_ (fun h6=> ?_) (fun h6=> ?_)
  ·repeat' (first|refine cl (Wa) ?_|refine gx ?_|refine fk (h1:=fun hw=> ?_) (h2:=fun hw=> ?_)|refine L3 (h1:=fun hw=> ?_) (h2:=fun hw=> ?_)|refine ⟨rfl,rfl,_,rfl,?_⟩|refine ⟨rfl,rfl⟩|fail)
   all_goals exact cc
  ·refine gr ?_
   exact ⟨_,_,rfl,by rw [hj];unfold Mc;rw [h5,h6];rfl,rfl⟩
  ·refine gr ?_
   refine ⟨k - 1,by omega,j+1,_,_,_,_,_,rfl,rfl,by omega,?_⟩;rw [hj,F6 (by omega)];simp only [Mc,h5,h6,b7,if_false]
 ·have h4:=z8 h3
  rw [m6 (by omega)] at hj;refine gr ?_;exact ⟨_,_,rfl,by rw [hj];rfl,rfl⟩
end Go.Proofs.YtkmclibmmlgogaaGreat.dK


/- Texts D22 D23 (made short by a program) -/
import Derived.Test.YtkmclibmmlgogaaGreatD7
set_option linter.unusedVariables false
set_option linter.unusedSimpArgs false
open Bool renaming false_eq_true → b7
open List renaming drop_of_length_le → m7
namespace Go.Proofs.YtkmclibmmlgogaaGreat
open Go.u7 Go.u7.S
attribute [local irreducible] Rx Ry Rn Ex Pf
def nF (x:C7):List C7->Nat->Int
 |[],_=> -1
 |y::r,i=>if I9 x y then i else nF x r (i+1)
theorem yO (x:C7):∀ (l:List C7) (i:Nat),X4 0 (nF x l i)=l.any fun y=>I9 y x
 |[],i=>by simp [nF,o5]
 |y::r,i=>by
  have h1:=yO x r (i+1);have h2:I9 x y=I9 y x:=by simp only [A3];rw [Bool.eq_iff_iff];simp only [beq_iff_eq];exact eq_comm
  simp only [nF,List.any_cons,h2];cases h3:I9 y x with
  |true=>simp [o5]
  |false=>simpa using h1
theorem Yy (xs:List C7)(x:C7)(hx:xs.length<=100000):Pf A 158 [.d (y7 encS xs),.d (.str x)] (.d (num (nF x xs 0))):=by
 refine Pf.run [.d (y7 encS xs),.d (.str x),.any,.any,.any,.any] rfl rfl rfl rfl ?_;refine gr ?_;refine Ex.I7 (fun k T H=>∃ (i:Nat) (v w:b6),T=[.d (y7 encS xs),.d (.str x),v,w,.d (num xs.length),.d (num i)]/\H=[]/\i+k=xs.length/\nF x xs 0=nF x (xs.drop i) i) (by rintro _ _ _ ⟨_,_,_,_,rfl,_⟩;rfl) ?_ (k:=xs.length) ⟨0,_,_,rfl,rfl,by simp,by simp⟩;rintro k _ _ ⟨i,v,w,rfl,rfl,hk,hi⟩;refine Ex.nT ?_
 repeat' (first|refine gx ?_|refine Ex.J6 ?_|refine Ex.J8 ?_|refine Ex.cond rfl (fun ht=> ?_) (fun ht=> ?_)|refine Ex.test (Rn.text ?_)|refine Ex.test (Rn.draw ?_)|refine ⟨_,rfl,fun ht=> ?_,fun ht=> ?_⟩|refine ⟨_,rfl,?_⟩|fail)
 ·have h1:=z6 ‹C2 i _=true›
  rw [A4 (by omega)] at hi;simp [hi,nF,ht,b9,num]
 ·have h1:=z6 ‹C2 i _=true›
  rw [A4 (by omega)] at hi;exact ⟨k - 1,by omega,i+1,_,_,rfl,rfl,by omega,by simp [hi,nF,ht]⟩
 ·have h1:=z8 ht
  rw [m7 (by omega)] at hi;simp [hi,nF,b9,num]
theorem Ir (xs:List C7)(x:C7)(hx:xs.length<=100000):Pf A 123 [.d (y7 encS xs),.d (.str x)] (.d (.bool (xs.any fun y=>I9 y x))):=by
 rw [<- yO x xs 0];refine Pf.run [.d (y7 encS xs),.d (.str x),.any] rfl rfl rfl rfl ?_
 repeat' (first|refine cl (Yy xs x hx) ?_|refine gx ?_|fail)
 exact ⟨_,rfl,rfl⟩
def yg (x:Int):List Int->Nat->Int
 |[],_=> -1
 |y::r,i=>if o8 x y then i else yg x r (i+1)
theorem CH (x:Int):∀ (l:List Int) (i:Nat),X4 0 (yg x l i)=l.any fun y=>o8 y x
 |[],i=>by simp [yg,o5]
 |y::r,i=>by
  have h1:=CH x r (i+1);have h2:o8 x y=o8 y x:=by simp only [j5];rw [Bool.eq_iff_iff];simp only [beq_iff_eq];exact eq_comm
  simp only [yg,List.any_cons,h2];cases h3:o8 y x with
  |true=>simp [o5]
  |false=>simpa using h1
theorem at3 (xs:List Int)(x:Int)(hx:xs.length<=100000):Pf A 82 [.d (y7 (fun n=>[num n]) xs),.d (num x)] (.d (num (yg x xs 0))):=by
 refine Pf.run [.d (y7 (fun n=>[num n]) xs),.d (num x),.any,.any,.any,.any] rfl rfl rfl rfl ?_;refine gr ?_;refine Ex.I7 (fun k T H=>∃ (i:Nat) (v w:b6),T=[.d (y7 (fun n=>[num n]) xs),.d (num x),v,w,.d (num xs.length),.d (num i)]/\H=[]/\i+k=xs.length/\yg x xs 0=yg x (xs.drop i) i) (by rintro _ _ _ ⟨_,_,_,_,rfl,_⟩;rfl) ?_ (k:=xs.length) ⟨0,_,_,rfl,rfl,by simp,by simp⟩;rintro k _ _ ⟨i,v,w,rfl,rfl,hk,hi⟩;refine Ex.nT ?_
 repeat' (first|refine gx ?_|refine Ex.J6 ?_|refine Ex.J8 ?_|refine Ex.cond rfl (fun ht=> ?_) (fun ht=> ?_)|refine Ex.test (Rn.text ?_)|refine Ex.test (Rn.draw ?_)|refine ⟨_,rfl,fun ht=> ?_,fun ht=> ?_⟩|refine ⟨_,rfl,?_⟩|fail)
 ·have h1:=z6 ‹C2 i _=true›
  rw [A4 (by omega)] at hi;simp [hi,yg,ht,b9,num]
 ·have h1:=z6 ‹C2 i _=true›
  rw [A4 (by omega)] at hi;exact ⟨k - 1,by omega,i+1,_,_,rfl,rfl,by omega,by simp [hi,yg,ht]⟩
 ·have h1:=z8 ht
  rw [m7 (by omega)] at hi;simp [hi,yg,b9,num]
theorem Us (xs:List Int)(x:Int)(hx:xs.length<=100000):Pf A 49 [.d (y7 (fun n=>[num n]) xs),.d (num x)] (.d (.bool (xs.any fun y=>o8 y x))):=by
 rw [<- CH x xs 0];refine Pf.run [.d (y7 (fun n=>[num n]) xs),.d (num x),.any] rfl rfl rfl rfl ?_
 repeat' (first|refine cl (at3 xs x hx) ?_|refine gx ?_|fail)
 exact ⟨_,rfl,rfl⟩
def pN (ss:List W5)(ds:List C7)(x:gD):Int:=if !o8 (E0 ds x.name) 0 then E0 ds x.name else if !o8 (bV ss x.source x.col).2 0 then (bV ss x.source x.col).2 else if !o8 (bV ss x.source x.col).1 2 then 5 else 0
def ji (ss:List W5)(ds:List C7)(x:gv):Int:=if !o8 (E0 ds x.name) 0 then E0 ds x.name else if !o8 (bV ss x.source x.col).2 0 then (bV ss x.source x.col).2
 else if !o8 x.kind 0&& !o8 x.kind 1&& !o8 x.kind 2 then 1
 else if !n7 x.width 1 1024|| !n7 x.depth 1 8||(o8 x.kind 2&& !o8 x.depth 1)||C2 1024 (x.width * x.depth) then 1 else 0
def oW (ss:List W5)(ds:List C7)(x:jy):Int:=if !o8 (E0 ds x.name) 0 then E0 ds x.name else if !o8 (bV ss x.source x.col).2 0 then (bV ss x.source x.col).2 else if !n7 x.ttl 1 1048576 then 1 else 0
def tY (c:m9)(ss:List W5)(ds:List C7)(x:kI):Int:=if !o8 (E0 ds x.name) 0 then E0 ds x.name else if !cN c ss x.table then 7 else 0
set_option maxHeartbeats 4000000 in
theorem Ux (c:m9)(ds:List C7)(ss:List W5)(i:Nat)(hi:i<c.idxs.length)(dy:∀ k,k<ss.length->(nth ss k).2.2.length<=100000):Pm A 70 [.ptr 4 0,.d (num i)] (HH c ds ss) lW (.d (num (pN ss ds (nth c.idxs i)))) (HH c (A1 ds (nth c.idxs i).name) ss):=by
 have bP:=eH c ds ss (nth c.idxs i).name;have vY:=wo c (A1 ds (nth c.idxs i).name) ss (nth c.idxs i).source (nth c.idxs i).col dy
 suffices h:Pq A 70 [.ptr 4 0,.d (num i)] (HH c ds ss) lW fun v H1=>v= .d (num (pN ss ds (nth c.idxs i)))/\H1=HH c (A1 ds (nth c.idxs i).name) ss by
  obtain ⟨v,H1,⟨rfl,rfl⟩,h⟩:=h;exact h
 generalize hx:nth c.idxs i=x at *
 unfold HH at *
 refine Pq.run (b:=5) [.ptr 4 0,.d (num i),.any,.any,.any,.any,.any] rfl rfl rfl rfl rfl ?_;refine gr ?_;rw [hx]
 repeat' (first|refine c0 bP rfl (h2:= ?_)|refine gx ?_|fail)
 refine tb (!o8 (E0 ds x.name) 0) (fun h1=> ?_) (fun h1=> ?_)
 ·refine gr ?_
  exact ⟨_,_,rfl,by unfold pN;rw [h1];rfl,rfl⟩
 repeat' (first|refine c1 vY rfl ?_|refine gx ?_|fail)
 refine tb (!o8 (bV ss x.source x.col).2 0) (fun h2=> ?_) (fun h2=> ?_)
 ·refine gr ?_
  exact ⟨_,_,rfl,by unfold pN;rw [h1,h2];rfl,rfl⟩
 refine gr ?_;refine tb (!o8 (bV ss x.source x.col).1 2) (fun h3=> ?_) (fun h3=> ?_)
 ·refine gr ?_
  exact ⟨_,_,rfl,by unfold pN;rw [h1,h2,h3];rfl,rfl⟩
 ·refine gr ?_
  exact ⟨_,_,rfl,by unfold pN;rw [h1,h2,h3];rfl,rfl⟩
set_option maxHeartbeats 4000000 in
theorem Uz (c:m9)(ds:List C7)(ss:List W5)(i:Nat)(hi:i<c.E3.length)(dy:∀ k,k<ss.length->(nth ss k).2.2.length<=100000):Pm A 72 [.ptr 4 0,.d (num i)] (HH c ds ss) lW (.d (num (oW ss ds (nth c.E3 i)))) (HH c (A1 ds (nth c.E3 i).name) ss):=by
 have bP:=eH c ds ss (nth c.E3 i).name;have vY:=wo c (A1 ds (nth c.E3 i).name) ss (nth c.E3 i).source (nth c.E3 i).col dy
 suffices h:Pq A 72 [.ptr 4 0,.d (num i)] (HH c ds ss) lW fun v H1=>v= .d (num (oW ss ds (nth c.E3 i)))/\H1=HH c (A1 ds (nth c.E3 i).name) ss by
  obtain ⟨v,H1,⟨rfl,rfl⟩,h⟩:=h;exact h
 generalize hx:nth c.E3 i=x at *
 unfold HH at *
 refine Pq.run (b:=5) [.ptr 4 0,.d (num i),.any,.any,.any,.any] rfl rfl rfl rfl rfl ?_;refine gr ?_;rw [hx]
 repeat' (first|refine c0 bP rfl (h2:= ?_)|refine gx ?_|fail)
 refine tb (!o8 (E0 ds x.name) 0) (fun h1=> ?_) (fun h1=> ?_)
 ·refine gr ?_
  exact ⟨_,_,rfl,by unfold oW;rw [h1];rfl,rfl⟩
 repeat' (first|refine c1 vY rfl ?_|refine gx ?_|fail)
 refine tb (!o8 (bV ss x.source x.col).2 0) (fun h2=> ?_) (fun h2=> ?_)
 ·refine gr ?_
  exact ⟨_,_,rfl,by unfold oW;rw [h1,h2];rfl,rfl⟩
 refine gr ?_;refine tB (!n7 x.ttl 1 1048576) ?_ (fun h3=> ?_) (fun h3=> ?_)
 ·repeat' (first|refine cl (bu _ _ _) ?_|refine gx ?_|refine fk (h1:=fun hw=> ?_) (h2:=fun hw=> ?_)|refine M8 (h1:=fun hw=> ?_) (h2:=fun hw=> ?_)|refine ⟨rfl,rfl,_,rfl,?_⟩|refine ⟨rfl,rfl⟩|fail)
  all_goals exact cc
 ·refine gr ?_
  exact ⟨_,_,rfl,by unfold oW;rw [h1,h2,h3];rfl,rfl⟩
 ·refine gr ?_
  exact ⟨_,_,rfl,by unfold oW;rw [h1,h2,h3];rfl,rfl⟩
set_option maxHeartbeats 4000000 in
theorem UB (c:m9)(ds:List C7)(ss:List W5)(i:Nat)(hi:i<c.J3.length)(hc:c.j3.length<=1000):Pm A 74 [.ptr 4 0,.d (num i)] (HH c ds ss) lW (.d (num (tY c ss ds (nth c.J3 i)))) (HH c (A1 ds (nth c.J3 i).name) ss):=by
 have bP:=eH c ds ss (nth c.J3 i).name;have GJ:=DB c (A1 ds (nth c.J3 i).name) ss (nth c.J3 i).table hc
 suffices h:Pq A 74 [.ptr 4 0,.d (num i)] (HH c ds ss) lW fun v H1=>v= .d (num (tY c ss ds (nth c.J3 i)))/\H1=HH c (A1 ds (nth c.J3 i).name) ss by
  obtain ⟨v,H1,⟨rfl,rfl⟩,h⟩:=h;exact h
 generalize hx:nth c.J3 i=x at *
 unfold HH at *
 refine Pq.run (b:=5) [.ptr 4 0,.d (num i),.any,.any,.any] rfl rfl rfl rfl rfl ?_;refine gr ?_;rw [hx]
 repeat' (first|refine c0 bP rfl (h2:= ?_)|refine gx ?_|fail)
 refine tb (!o8 (E0 ds x.name) 0) (fun h1=> ?_) (fun h1=> ?_)
 ·refine gr ?_
  exact ⟨_,_,rfl,by unfold tY;rw [h1];rfl,rfl⟩
 refine gr ?_;refine tB (!cN c ss x.table) ?_ (fun h2=> ?_) (fun h2=> ?_)
 ·repeat' (first|refine c1 GJ rfl ?_|refine gx ?_|refine fk (h1:=fun hw=> ?_) (h2:=fun hw=> ?_)|refine M8 (h1:=fun hw=> ?_) (h2:=fun hw=> ?_)|refine ⟨rfl,rfl,_,rfl,?_⟩|refine ⟨rfl,rfl⟩|fail)
  all_goals exact cc
 ·refine gr ?_
  exact ⟨_,_,rfl,by unfold tY;rw [h1,h2];rfl,rfl⟩
 ·refine gr ?_
  exact ⟨_,_,rfl,by unfold tY;rw [h1,h2];rfl,rfl⟩
set_option maxHeartbeats 4000000 in
theorem Uy (c:m9)(ds:List C7)(ss:List W5)(i:Nat)(hi:i<c.D6.length)(dy:∀ k,k<ss.length->(nth ss k).2.2.length<=100000):Pm A 71 [.ptr 4 0,.d (num i)] (HH c ds ss) lW (.d (num (ji ss ds (nth c.D6 i)))) (HH c (A1 ds (nth c.D6 i).name) ss):=by
 have bP:=eH c ds ss (nth c.D6 i).name;have vY:=wo c (A1 ds (nth c.D6 i).name) ss (nth c.D6 i).source (nth c.D6 i).col dy
 suffices h:Pq A 71 [.ptr 4 0,.d (num i)] (HH c ds ss) lW fun v H1=>v= .d (num (ji ss ds (nth c.D6 i)))/\H1=HH c (A1 ds (nth c.D6 i).name) ss by
  obtain ⟨v,H1,⟨rfl,rfl⟩,h⟩:=h;exact h
 generalize hx:nth c.D6 i=x at *
 unfold HH at *
 refine Pq.run (b:=5) [.ptr 4 0,.d (num i),.any,.any,.any,.any] rfl rfl rfl rfl rfl ?_;refine gr ?_;rw [hx]
 repeat' (first|refine c0 bP rfl (h2:= ?_)|refine gx ?_|fail)
 refine tb (!o8 (E0 ds x.name) 0) (fun h1=> ?_) (fun h1=> ?_)
 ·refine gr ?_
  exact ⟨_,_,rfl,by unfold ji;rw [h1];rfl,rfl⟩
 repeat' (first|refine c1 vY rfl ?_|refine gx ?_|fail)
 refine tb (!o8 (bV ss x.source x.col).2 0) (fun h2=> ?_) (fun h2=> ?_)
 ·refine gr ?_
  exact ⟨_,_,rfl,by unfold ji;rw [h1,h2];rfl,rfl⟩
 refine gr ?_;refine tb (!o8 x.kind 0&& !o8 x.kind 1&& !o8 x.kind 2) (fun h3=> ?_) (fun h3=> ?_)
 ·refine gr ?_
  exact ⟨_,_,rfl,by unfold ji;rw [h1,h2,h3];rfl,rfl⟩
 refine gr ?_;cases hW:n7 x.width 1 1024 with
 |false =>
  refine tB (true) ?_ (fun h4=> ?_) (fun h4=> ?_)
  ·repeat' (first|refine cl (bu _ _ _) ?_|refine gx ?_|refine fk (h1:=fun hw=> ?_) (h2:=fun hw=> ?_)|refine M8 (h1:=fun hw=> ?_) (h2:=fun hw=> ?_)|refine ⟨rfl,rfl,_,rfl,?_⟩|refine ⟨rfl,rfl⟩|fail)
   all_goals first|(simp [*,b9,hW];done)|(simp_all [b9,hW];done)|(simp_all [b9,hW,o9,o5,j5,A3];done)|(simp_all [b9,hW,o9,o5,j5,A3]<;>omega)
  ·refine gr ?_
   exact ⟨_,_,rfl,by unfold ji;rw [h1,h2,h3,hW];rfl,rfl⟩
  ·cases h4
 |true =>
 cases hD:n7 x.depth 1 8 with
 |false =>
  refine tB (true) ?_ (fun h4=> ?_) (fun h4=> ?_)
  ·repeat' (first|refine cl (bu _ _ _) ?_|refine gx ?_|refine fk (h1:=fun hw=> ?_) (h2:=fun hw=> ?_)|refine M8 (h1:=fun hw=> ?_) (h2:=fun hw=> ?_)|refine ⟨rfl,rfl,_,rfl,?_⟩|refine ⟨rfl,rfl⟩|fail)
   all_goals first|(simp [*,b9,hW,hD];done)|(simp_all [b9,hW,hD];done)|(simp_all [b9,hW,hD,o9,o5,j5,A3];done)|(simp_all [b9,hW,hD,o9,o5,j5,A3]<;>omega)
  ·refine gr ?_
   exact ⟨_,_,rfl,by unfold ji;rw [h1,h2,h3,hW,hD];rfl,rfl⟩
  ·cases h4
 |true =>
 have hm: -9223372036854775808<=x.width * x.depth/\x.width * x.depth<9223372036854775808:=by
  simp [n7,o5] at hW hD;have m1:=Int.mul_le_mul hW.2 hD.2 (by omega) (by omega);have m2:=Int.mul_nonneg (a:=x.width) (b:=x.depth) (by omega) (by omega);omega
 refine tB (!n7 x.width 1 1024|| !n7 x.depth 1 8||(o8 x.kind 2&& !o8 x.depth 1)||C2 1024 (x.width * x.depth)) ?_ (fun h4=> ?_) (fun h4=> ?_)
 ·repeat' (first|refine cl (bu _ _ _) ?_|refine mu (h0:=hm) ?_|refine gx ?_|refine fk (h1:=fun hw=> ?_) (h2:=fun hw=> ?_)|refine M8 (h1:=fun hw=> ?_) (h2:=fun hw=> ?_)|refine ⟨rfl,rfl,_,rfl,?_⟩|refine ⟨rfl,rfl⟩|fail)
  all_goals first|(simp [*,b9,hW,hD];done)|(simp_all [b9,hW,hD];done)|(simp_all [b9,hW,hD,o9,o5,j5,A3];done)|(simp_all [b9,hW,hD,o9,o5,j5,A3]<;>omega)
 ·refine gr ?_
  exact ⟨_,_,rfl,by unfold ji;rw [h1,h2,h3,h4];rfl,rfl⟩
 ·refine gr ?_
  exact ⟨_,_,rfl,by unfold ji;rw [h1,h2,h3,h4];rfl,rfl⟩
def QT (c:m9)(ss:List W5)(x:iO):Vw:=nth c.views (A8 x.source (ss.map (·.1)) 0 - c.j3.length).toNat
def qh (c:m9)(ss:List W5)(ds:List C7)(x:iO):Int:=if !o8 (E0 ds x.name) 0 then E0 ds x.name else if C2 (A8 x.source (ss.map (·.1)) 0 - c.j3.length) 0 then 7
 else if !o8 (QT c ss x).kind 1|| !o8 (nth (QT c ss x).B3 0).func 0|| !n7 x.SP 1 1024 then 1 else 0
def Lt (c:m9)(ss:List W5):List C7->List C7->Int
 |_,[]=>0
 |seen,t::r=>if !cN c ss t then 7 else if seen.any fun y=>I9 y t then 4 else Lt c ss (seen++[t]) r
def HC (c:m9)(ss:List W5)(ds:List C7)(x:kH):Int:=if !o8 (E0 ds x.name) 0 then E0 ds x.name else if o8 x.tables.length 0|| !n7 x.keep 1 1048576 then 1 else Lt c ss [] x.tables
set_option maxHeartbeats 4000000 in
theorem UA (c:m9)(ds:List C7)(ss:List W5)(i:Nat)(hi:i<c.G9.length)(hc:c.j3.length<=1000)(Da:ss.length<=c.j3.length+c.views.length)(hsv:c.views.length<=1000)(hg:∀ k,k<c.views.length->(nth c.views k).kind≠1\/0<(nth c.views k).B3.length):Pm A 73 [.ptr 4 0,.d (num i)] (HH c ds ss) lW (.d (num (qh c ss ds (nth c.G9 i)))) (HH c (A1 ds (nth c.G9 i).name) ss):=by
 have bP:=eH c ds ss (nth c.G9 i).name;have Un:=lK c (A1 ds (nth c.G9 i).name) ss (nth c.G9 i).source;have b1:=iu ss (nth c.G9 i).source
 suffices h:Pq A 73 [.ptr 4 0,.d (num i)] (HH c ds ss) lW fun v H1=>v= .d (num (qh c ss ds (nth c.G9 i)))/\H1=HH c (A1 ds (nth c.G9 i).name) ss by
  obtain ⟨v,H1,⟨rfl,rfl⟩,h⟩:=h;exact h
 generalize hx:nth c.G9 i=x at *
 unfold HH at *
 refine Pq.run (b:=5) [.ptr 4 0,.d (num i),.any,.any,.any,.any,.any] rfl rfl rfl rfl rfl ?_;refine gr ?_;rw [hx]
 repeat' (first|refine c0 bP rfl (h2:= ?_)|refine gx ?_|fail)
 refine tb (!o8 (E0 ds x.name) 0) (fun h1=> ?_) (fun h1=> ?_)
 ·refine gr ?_
  exact ⟨_,_,rfl,by unfold qh;rw [h1];rfl,rfl⟩
 repeat' (first|refine c1 Un rfl ?_|refine gx ?_|fail)
 refine tb (C2 (A8 x.source (ss.map (·.1)) 0 - c.j3.length) 0) (fun h2=> ?_) (fun h2=> ?_)
 ·refine gr ?_
  exact ⟨_,_,rfl,by unfold qh;rw [h1,h2];rfl,rfl⟩
 have h3:=z8 h2;have h4:=hg (A8 x.source (ss.map (·.1)) 0 - c.j3.length).toNat (by omega);have hrv:nth c.views (A8 x.source (ss.map (·.1)) 0 - c.j3.length).toNat=QT c ss x:=rfl;refine gr ?_;rw [hrv] at h4 ⊢;refine gr ?_;refine tB (!o8 (QT c ss x).kind 1|| !o8 (nth (QT c ss x).B3 0).func 0|| !n7 x.SP 1 1024) ?_ (fun h5=> ?_) (fun h5=> ?_)
 ·repeat' (first|refine cl (bu _ _ _) ?_|refine gx ?_|refine fk (h1:=fun hw=> ?_) (h2:=fun hw=> ?_)|refine M8 (h1:=fun hw=> ?_) (h2:=fun hw=> ?_)|refine ⟨rfl,rfl,_,rfl,?_⟩|refine ⟨rfl,rfl⟩|fail)
  all_goals exact cc
 ·refine gr ?_
  exact ⟨_,_,rfl,by unfold qh;rw [h1,h2,h5];rfl,rfl⟩
 ·refine gr ?_
  exact ⟨_,_,rfl,by unfold qh;rw [h1,h2,h5];rfl,rfl⟩
set_option maxHeartbeats 4000000 in
theorem UC (c:m9)(ds:List C7)(ss:List W5)(i:Nat)(hi:i<c.K8.length)(hc:c.j3.length<=1000)(hx1:(nth c.K8 i).tables.length<=1000):Pm A 75 [.ptr 4 0,.d (num i)] (HH c ds ss) lW (.d (num (HC c ss ds (nth c.K8 i)))) (HH c (A1 ds (nth c.K8 i).name) ss):=by
 have bP:=eH c ds ss (nth c.K8 i).name;have GJ:∀ s,Pm A 122 [.ptr 4 0,.d (.str s)] (HH c (A1 ds (nth c.K8 i).name) ss) lR (.d (.bool (cN c ss s))) (HH c (A1 ds (nth c.K8 i).name) ss):=fun s=>DB c (A1 ds (nth c.K8 i).name) ss s hc
 suffices h:Pq A 75 [.ptr 4 0,.d (num i)] (HH c ds ss) lW fun v H1=>v= .d (num (HC c ss ds (nth c.K8 i)))/\H1=HH c (A1 ds (nth c.K8 i).name) ss by
  obtain ⟨v,H1,⟨rfl,rfl⟩,h⟩:=h;exact h
 generalize hx:nth c.K8 i=x at *
 unfold HH at *
 refine Pq.run (b:=5) [.ptr 4 0,.d (num i),.any,.any,.any,.any,.any,.any,.any,.any] rfl rfl rfl rfl rfl ?_;refine gr ?_;rw [hx]
 repeat' (first|refine c0 bP rfl (h2:= ?_)|refine gx ?_|fail)
 refine tb (!o8 (E0 ds x.name) 0) (fun h1=> ?_) (fun h1=> ?_)
 ·refine gr ?_
  exact ⟨_,_,rfl,by unfold HC;rw [h1];rfl,rfl⟩
 refine gr ?_;refine tB (o8 x.tables.length 0|| !n7 x.keep 1 1048576) ?_ (fun h2=> ?_) (fun h2=> ?_)
 ·repeat' (first|refine cl (bu _ _ _) ?_|refine gx ?_|refine fk (h1:=fun hw=> ?_) (h2:=fun hw=> ?_)|refine M8 (h1:=fun hw=> ?_) (h2:=fun hw=> ?_)|refine ⟨rfl,rfl,_,rfl,?_⟩|refine ⟨rfl,rfl⟩|fail)
  all_goals exact cc
 ·refine gr ?_
  exact ⟨_,_,rfl,by unfold HC;rw [h1,h2];rfl,rfl⟩
 refine gr ?_;refine Ex.I7 (fun k T H=>∃ (j:Nat) (w1 w2 w4 w5 w6:b6),T=[.ptr 4 0,w1,w2,.ptr 5 0,w4,w5,w6,.d (y7 (fun s=>[.str s]) x.tables),.d (num x.tables.length),.d (num j)]/\H=[.cells (c.enc.map .d),.cells (c.enc.map .d),.map (dmap (A1 ds x.name)),.map (R1 (ss.map (·.1)) 0),.cells (c.enc.map .d++[.map 2,.map 3,A5 2 E9 ss]),.cells (x.enc.map .d)]/\j+k=x.tables.length/\HC c ss ds x=Lt c ss (x.tables.take j) (x.tables.drop j)) (by rintro _ _ _ ⟨_,_,_,_,_,_,_,rfl,_⟩;rfl) ?_ (k:=x.tables.length) ⟨0,_,_,_,_,_,rfl,rfl,by simp,by simp [HC,h1,h2]⟩;rintro k _ _ ⟨j,w1,w2,w4,w5,w6,rfl,rfl,hk,hj⟩;refine Ex.nT ?_;refine Ex.seq ?_;refine tb (C2 j x.tables.length) (fun h3=> ?_) (fun h3=> ?_)
 ·have h4:=z6 h3
  rw [A4 (by omega)] at hj;have UP:=GJ (nth x.tables j);have UQ:=Ir (x.tables.take j) (nth x.tables j) (by simp;omega);refine gr ?_;refine tB (!cN c ss (nth x.tables j)) ?_ (fun h5=> ?_) (fun h5=> ?_)
  ·repeat' (first|refine c1 UP rfl ?_|refine gx ?_|refine fk (h1:=fun hw=> ?_) (h2:=fun hw=> ?_)|refine M8 (h1:=fun hw=> ?_) (h2:=fun hw=> ?_)|refine ⟨rfl,rfl,_,rfl,?_⟩|refine ⟨rfl,rfl⟩|fail)
   all_goals exact cc
  ·refine gr ?_
   exact ⟨_,_,rfl,by rw [hj];unfold Lt;rw [h5];rfl,rfl⟩
  refine gr ?_;refine tB ((x.tables.take j).any fun y=>I9 y (nth x.tables j)) ?_ (fun h6=> ?_) (fun h6=> ?_)
  ·repeat' (first|refine cl (UQ) ?_|refine gx ?_|refine fk (h1:=fun hw=> ?_) (h2:=fun hw=> ?_)|refine M8 (h1:=fun hw=> ?_) (h2:=fun hw=> ?_)|refine ⟨rfl,rfl,_,rfl,?_⟩|refine ⟨rfl,rfl⟩|fail)
   all_goals exact cc
  ·refine gr ?_
   exact ⟨_,_,rfl,by rw [hj];unfold Lt;rw [h5,h6];rfl,rfl⟩
  ·refine gr ?_
   refine ⟨k - 1,by omega,j+1,_,_,_,_,_,rfl,rfl,by omega,?_⟩;rw [hj,I6 (by omega)];simp only [Lt,h5,h6,b7,if_false]
 ·have h4:=z8 h3
  rw [m7 (by omega)] at hj;refine gr ?_;exact ⟨_,_,rfl,by rw [hj];rfl,rfl⟩
end Go.Proofs.YtkmclibmmlgogaaGreat


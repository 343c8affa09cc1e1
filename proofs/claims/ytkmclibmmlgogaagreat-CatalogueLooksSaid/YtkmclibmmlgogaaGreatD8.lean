/- Texts D22 D23 (made short by a program) -/
import Derived.Test.YtkmclibmmlgogaaGreatD7
set_option linter.unusedVariables false
set_option linter.unusedSimpArgs false
open Bool renaming false_eq_true → b7
open List renaming drop_of_length_le → m6
namespace Go.Proofs.YtkmclibmmlgogaaGreat
open Go.z7 Go.z7.S
attribute [local irreducible] Rx Ry Rn Ex Pf
def od (x:D6):List D6->Nat->Int
 |[],_=> -1
 |y::r,i=>if J4 x y then i else od x r (i+1)
theorem zG (x:D6):∀ (l:List D6) (i:Nat),W6 0 (od x l i)=l.any fun y=>J4 y x
 |[],i=>by simp [od,p5]
 |y::r,i=>by
  have h1:=zG x r (i+1);have h2:J4 x y=J4 y x:=by simp only [B7];rw [Bool.eq_iff_iff];simp only [beq_iff_eq];exact eq_comm
  simp only [od,List.any_cons,h2];cases h3:J4 y x with
  |true=>simp [p5]
  |false=>simpa using h1
theorem ZJ (xs:List D6)(x:D6)(hx:xs.length<=100000):Pf A 158 [.d (A5 encS xs),.d (.str x)] (.d (num (od x xs 0))):=by
 refine Pf.run [.d (A5 encS xs),.d (.str x),.any,.any,.any,.any] rfl rfl rfl rfl ?_;refine gr ?_;refine Ex.J1 (fun k T H=>∃ (i:Nat) (v w:b6),T=[.d (A5 encS xs),.d (.str x),v,w,.d (num xs.length),.d (num i)]/\H=[]/\i+k=xs.length/\od x xs 0=od x (xs.drop i) i) (by rintro _ _ _ ⟨_,_,_,_,rfl,_⟩;rfl) ?_ (k:=xs.length) ⟨0,_,_,rfl,rfl,by simp,by simp⟩;rintro k _ _ ⟨i,v,w,rfl,rfl,hk,hi⟩;refine Ex.nT ?_
 repeat' (first|refine gx ?_|refine Ex.I4 ?_|refine Ex.I6 ?_|refine Ex.cond rfl (fun ht=> ?_) (fun ht=> ?_)|refine Ex.test (Rn.text ?_)|refine Ex.test (Rn.draw ?_)|refine ⟨_,rfl,fun ht=> ?_,fun ht=> ?_⟩|refine ⟨_,rfl,?_⟩|fail)
 ·have h1:=A4 ‹C7 i _=true›
  rw [A8 (by omega)] at hi;simp [hi,od,ht,b9,num]
 ·have h1:=A4 ‹C7 i _=true›
  rw [A8 (by omega)] at hi;exact ⟨k - 1,by omega,i+1,_,_,rfl,rfl,by omega,by simp [hi,od,ht]⟩
 ·have h1:=z8 ht
  rw [m6 (by omega)] at hi;simp [hi,od,b9,num]
theorem IV (xs:List D6)(x:D6)(hx:xs.length<=100000):Pf A 123 [.d (A5 encS xs),.d (.str x)] (.d (.bool (xs.any fun y=>J4 y x))):=by
 rw [<- zG x xs 0];refine Pf.run [.d (A5 encS xs),.d (.str x),.any] rfl rfl rfl rfl ?_
 repeat' (first|refine cl (ZJ xs x hx) ?_|refine gx ?_|fail)
 exact ⟨_,rfl,rfl⟩
def yU (x:Int):List Int->Nat->Int
 |[],_=> -1
 |y::r,i=>if o9 x y then i else yU x r (i+1)
theorem Dq (x:Int):∀ (l:List Int) (i:Nat),W6 0 (yU x l i)=l.any fun y=>o9 y x
 |[],i=>by simp [yU,p5]
 |y::r,i=>by
  have h1:=Dq x r (i+1);have h2:o9 x y=o9 y x:=by simp only [j9];rw [Bool.eq_iff_iff];simp only [beq_iff_eq];exact eq_comm
  simp only [yU,List.any_cons,h2];cases h3:o9 y x with
  |true=>simp [p5]
  |false=>simpa using h1
theorem aB5 (xs:List Int)(x:Int)(hx:xs.length<=100000):Pf A 82 [.d (A5 (fun n=>[num n]) xs),.d (num x)] (.d (num (yU x xs 0))):=by
 refine Pf.run [.d (A5 (fun n=>[num n]) xs),.d (num x),.any,.any,.any,.any] rfl rfl rfl rfl ?_;refine gr ?_;refine Ex.J1 (fun k T H=>∃ (i:Nat) (v w:b6),T=[.d (A5 (fun n=>[num n]) xs),.d (num x),v,w,.d (num xs.length),.d (num i)]/\H=[]/\i+k=xs.length/\yU x xs 0=yU x (xs.drop i) i) (by rintro _ _ _ ⟨_,_,_,_,rfl,_⟩;rfl) ?_ (k:=xs.length) ⟨0,_,_,rfl,rfl,by simp,by simp⟩;rintro k _ _ ⟨i,v,w,rfl,rfl,hk,hi⟩;refine Ex.nT ?_
 repeat' (first|refine gx ?_|refine Ex.I4 ?_|refine Ex.I6 ?_|refine Ex.cond rfl (fun ht=> ?_) (fun ht=> ?_)|refine Ex.test (Rn.text ?_)|refine Ex.test (Rn.draw ?_)|refine ⟨_,rfl,fun ht=> ?_,fun ht=> ?_⟩|refine ⟨_,rfl,?_⟩|fail)
 ·have h1:=A4 ‹C7 i _=true›
  rw [A8 (by omega)] at hi;simp [hi,yU,ht,b9,num]
 ·have h1:=A4 ‹C7 i _=true›
  rw [A8 (by omega)] at hi;exact ⟨k - 1,by omega,i+1,_,_,rfl,rfl,by omega,by simp [hi,yU,ht]⟩
 ·have h1:=z8 ht
  rw [m6 (by omega)] at hi;simp [hi,yU,b9,num]
theorem VA (xs:List Int)(x:Int)(hx:xs.length<=100000):Pf A 49 [.d (A5 (fun n=>[num n]) xs),.d (num x)] (.d (.bool (xs.any fun y=>o9 y x))):=by
 rw [<- Dq x xs 0];refine Pf.run [.d (A5 (fun n=>[num n]) xs),.d (num x),.any] rfl rfl rfl rfl ?_
 repeat' (first|refine cl (aB5 xs x hx) ?_|refine gx ?_|fail)
 exact ⟨_,rfl,rfl⟩
def qB (ss:List Y0)(ds:List D6)(x:iW):Int:=if !o9 (E8 ds x.name) 0 then E8 ds x.name else if !o9 (cw ss x.source x.col).2 0 then (cw ss x.source x.col).2 else if !o9 (cw ss x.source x.col).1 2 then 5 else 0
def jE (ss:List Y0)(ds:List D6)(x:iK):Int:=if !o9 (E8 ds x.name) 0 then E8 ds x.name else if !o9 (cw ss x.source x.col).2 0 then (cw ss x.source x.col).2
 else if !o9 x.kind 0&& !o9 x.kind 1&& !o9 x.kind 2 then 1
 else if !n8 x.width 1 1024|| !n8 x.depth 1 8||(o9 x.kind 2&& !o9 x.depth 1)||C7 1024 (x.width * x.depth) then 1 else 0
def qg (ss:List Y0)(ds:List D6)(x:kP):Int:=if !o9 (E8 ds x.name) 0 then E8 ds x.name else if !o9 (cw ss x.source x.col).2 0 then (cw ss x.source x.col).2 else if !n8 x.ttl 1 1048576 then 1 else 0
def uJ (c:n5)(ss:List Y0)(ds:List D6)(x:nq):Int:=if !o9 (E8 ds x.name) 0 then E8 ds x.name else if !dg c ss x.table then 7 else 0
set_option maxHeartbeats 4000000 in
theorem VG (c:n5)(ds:List D6)(ss:List Y0)(i:Nat)(hi:i<c.idxs.length)(dV:∀ k,k<ss.length->(nth ss k).2.2.length<=100000):Pm A 70 [.ptr 4 0,.d (num i)] (HH c ds ss) lW (.d (num (qB ss ds (nth c.idxs i)))) (HH c (B5 ds (nth c.idxs i).name) ss):=by
 have cn:=eY c ds ss (nth c.idxs i).name;have wV:=xe c (B5 ds (nth c.idxs i).name) ss (nth c.idxs i).source (nth c.idxs i).col dV
 suffices h:Pq A 70 [.ptr 4 0,.d (num i)] (HH c ds ss) lW fun v H1=>v= .d (num (qB ss ds (nth c.idxs i)))/\H1=HH c (B5 ds (nth c.idxs i).name) ss by
  obtain ⟨v,H1,⟨rfl,rfl⟩,h⟩:=h;exact h
 generalize hx:nth c.idxs i=x at *
 unfold HH at *
 refine Pq.run (b:=5) [.ptr 4 0,.d (num i),.any,.any,.any,.any,.any] rfl rfl rfl rfl rfl ?_;refine gr ?_;rw [hx]
 repeat' (first|refine c0 cn rfl (h2:= ?_)|refine gx ?_|fail)
 refine tb (!o9 (E8 ds x.name) 0) (fun h1=> ?_) (fun h1=> ?_)
 ·refine gr ?_
  exact ⟨_,_,rfl,by unfold qB;rw [h1];rfl,rfl⟩
 repeat' (first|refine c1 wV rfl ?_|refine gx ?_|fail)
 refine tb (!o9 (cw ss x.source x.col).2 0) (fun h2=> ?_) (fun h2=> ?_)
 ·refine gr ?_
  exact ⟨_,_,rfl,by unfold qB;rw [h1,h2];rfl,rfl⟩
 refine gr ?_;refine tb (!o9 (cw ss x.source x.col).1 2) (fun h3=> ?_) (fun h3=> ?_)
 ·refine gr ?_
  exact ⟨_,_,rfl,by unfold qB;rw [h1,h2,h3];rfl,rfl⟩
 ·refine gr ?_
  exact ⟨_,_,rfl,by unfold qB;rw [h1,h2,h3];rfl,rfl⟩
set_option maxHeartbeats 4000000 in
theorem VI (c:n5)(ds:List D6)(ss:List Y0)(i:Nat)(hi:i<c.F9.length)(dV:∀ k,k<ss.length->(nth ss k).2.2.length<=100000):Pm A 72 [.ptr 4 0,.d (num i)] (HH c ds ss) lW (.d (num (qg ss ds (nth c.F9 i)))) (HH c (B5 ds (nth c.F9 i).name) ss):=by
 have cn:=eY c ds ss (nth c.F9 i).name;have wV:=xe c (B5 ds (nth c.F9 i).name) ss (nth c.F9 i).source (nth c.F9 i).col dV
 suffices h:Pq A 72 [.ptr 4 0,.d (num i)] (HH c ds ss) lW fun v H1=>v= .d (num (qg ss ds (nth c.F9 i)))/\H1=HH c (B5 ds (nth c.F9 i).name) ss by
  obtain ⟨v,H1,⟨rfl,rfl⟩,h⟩:=h;exact h
 generalize hx:nth c.F9 i=x at *
 unfold HH at *
 refine Pq.run (b:=5) [.ptr 4 0,.d (num i),.any,.any,.any,.any] rfl rfl rfl rfl rfl ?_;refine gr ?_;rw [hx]
 repeat' (first|refine c0 cn rfl (h2:= ?_)|refine gx ?_|fail)
 refine tb (!o9 (E8 ds x.name) 0) (fun h1=> ?_) (fun h1=> ?_)
 ·refine gr ?_
  exact ⟨_,_,rfl,by unfold qg;rw [h1];rfl,rfl⟩
 repeat' (first|refine c1 wV rfl ?_|refine gx ?_|fail)
 refine tb (!o9 (cw ss x.source x.col).2 0) (fun h2=> ?_) (fun h2=> ?_)
 ·refine gr ?_
  exact ⟨_,_,rfl,by unfold qg;rw [h1,h2];rfl,rfl⟩
 refine gr ?_;refine tB (!n8 x.ttl 1 1048576) ?_ (fun h3=> ?_) (fun h3=> ?_)
 ·repeat' (first|refine cl (bM _ _ _) ?_|refine gx ?_|refine fk (h1:=fun hw=> ?_) (h2:=fun hw=> ?_)|refine L3 (h1:=fun hw=> ?_) (h2:=fun hw=> ?_)|refine ⟨rfl,rfl,_,rfl,?_⟩|refine ⟨rfl,rfl⟩|fail)
  all_goals exact cc
 ·refine gr ?_
  exact ⟨_,_,rfl,by unfold qg;rw [h1,h2,h3];rfl,rfl⟩
 ·refine gr ?_
  exact ⟨_,_,rfl,by unfold qg;rw [h1,h2,h3];rfl,rfl⟩
set_option maxHeartbeats 4000000 in
theorem VK (c:n5)(ds:List D6)(ss:List Y0)(i:Nat)(hi:i<c.K9.length)(hc:c.j3.length<=1000):Pm A 74 [.ptr 4 0,.d (num i)] (HH c ds ss) lW (.d (num (uJ c ss ds (nth c.K9 i)))) (HH c (B5 ds (nth c.K9 i).name) ss):=by
 have cn:=eY c ds ss (nth c.K9 i).name;have Ho:=Ed c (B5 ds (nth c.K9 i).name) ss (nth c.K9 i).table hc
 suffices h:Pq A 74 [.ptr 4 0,.d (num i)] (HH c ds ss) lW fun v H1=>v= .d (num (uJ c ss ds (nth c.K9 i)))/\H1=HH c (B5 ds (nth c.K9 i).name) ss by
  obtain ⟨v,H1,⟨rfl,rfl⟩,h⟩:=h;exact h
 generalize hx:nth c.K9 i=x at *
 unfold HH at *
 refine Pq.run (b:=5) [.ptr 4 0,.d (num i),.any,.any,.any] rfl rfl rfl rfl rfl ?_;refine gr ?_;rw [hx]
 repeat' (first|refine c0 cn rfl (h2:= ?_)|refine gx ?_|fail)
 refine tb (!o9 (E8 ds x.name) 0) (fun h1=> ?_) (fun h1=> ?_)
 ·refine gr ?_
  exact ⟨_,_,rfl,by unfold uJ;rw [h1];rfl,rfl⟩
 refine gr ?_;refine tB (!dg c ss x.table) ?_ (fun h2=> ?_) (fun h2=> ?_)
 ·repeat' (first|refine c1 Ho rfl ?_|refine gx ?_|refine fk (h1:=fun hw=> ?_) (h2:=fun hw=> ?_)|refine L3 (h1:=fun hw=> ?_) (h2:=fun hw=> ?_)|refine ⟨rfl,rfl,_,rfl,?_⟩|refine ⟨rfl,rfl⟩|fail)
  all_goals exact cc
 ·refine gr ?_
  exact ⟨_,_,rfl,by unfold uJ;rw [h1,h2];rfl,rfl⟩
 ·refine gr ?_
  exact ⟨_,_,rfl,by unfold uJ;rw [h1,h2];rfl,rfl⟩
set_option maxHeartbeats 4000000 in
theorem VH (c:n5)(ds:List D6)(ss:List Y0)(i:Nat)(hi:i<c.F3.length)(dV:∀ k,k<ss.length->(nth ss k).2.2.length<=100000):Pm A 71 [.ptr 4 0,.d (num i)] (HH c ds ss) lW (.d (num (jE ss ds (nth c.F3 i)))) (HH c (B5 ds (nth c.F3 i).name) ss):=by
 have cn:=eY c ds ss (nth c.F3 i).name;have wV:=xe c (B5 ds (nth c.F3 i).name) ss (nth c.F3 i).source (nth c.F3 i).col dV
 suffices h:Pq A 71 [.ptr 4 0,.d (num i)] (HH c ds ss) lW fun v H1=>v= .d (num (jE ss ds (nth c.F3 i)))/\H1=HH c (B5 ds (nth c.F3 i).name) ss by
  obtain ⟨v,H1,⟨rfl,rfl⟩,h⟩:=h;exact h
 generalize hx:nth c.F3 i=x at *
 unfold HH at *
 refine Pq.run (b:=5) [.ptr 4 0,.d (num i),.any,.any,.any,.any] rfl rfl rfl rfl rfl ?_;refine gr ?_;rw [hx]
 repeat' (first|refine c0 cn rfl (h2:= ?_)|refine gx ?_|fail)
 refine tb (!o9 (E8 ds x.name) 0) (fun h1=> ?_) (fun h1=> ?_)
 ·refine gr ?_
  exact ⟨_,_,rfl,by unfold jE;rw [h1];rfl,rfl⟩
 repeat' (first|refine c1 wV rfl ?_|refine gx ?_|fail)
 refine tb (!o9 (cw ss x.source x.col).2 0) (fun h2=> ?_) (fun h2=> ?_)
 ·refine gr ?_
  exact ⟨_,_,rfl,by unfold jE;rw [h1,h2];rfl,rfl⟩
 refine gr ?_;refine tb (!o9 x.kind 0&& !o9 x.kind 1&& !o9 x.kind 2) (fun h3=> ?_) (fun h3=> ?_)
 ·refine gr ?_
  exact ⟨_,_,rfl,by unfold jE;rw [h1,h2,h3];rfl,rfl⟩
 refine gr ?_;cases hW:n8 x.width 1 1024 with
 |false =>
  refine tB (true) ?_ (fun h4=> ?_) (fun h4=> ?_)
  ·repeat' (first|refine cl (bM _ _ _) ?_|refine gx ?_|refine fk (h1:=fun hw=> ?_) (h2:=fun hw=> ?_)|refine L3 (h1:=fun hw=> ?_) (h2:=fun hw=> ?_)|refine ⟨rfl,rfl,_,rfl,?_⟩|refine ⟨rfl,rfl⟩|fail)
   all_goals first|(simp [*,b9,hW];done)|(simp_all [b9,hW];done)|(simp_all [b9,hW,p8,p5,j9,B7];done)|(simp_all [b9,hW,p8,p5,j9,B7]<;>omega)
  ·refine gr ?_
   exact ⟨_,_,rfl,by unfold jE;rw [h1,h2,h3,hW];rfl,rfl⟩
  ·cases h4
 |true =>
 cases hD:n8 x.depth 1 8 with
 |false =>
  refine tB (true) ?_ (fun h4=> ?_) (fun h4=> ?_)
  ·repeat' (first|refine cl (bM _ _ _) ?_|refine gx ?_|refine fk (h1:=fun hw=> ?_) (h2:=fun hw=> ?_)|refine L3 (h1:=fun hw=> ?_) (h2:=fun hw=> ?_)|refine ⟨rfl,rfl,_,rfl,?_⟩|refine ⟨rfl,rfl⟩|fail)
   all_goals first|(simp [*,b9,hW,hD];done)|(simp_all [b9,hW,hD];done)|(simp_all [b9,hW,hD,p8,p5,j9,B7];done)|(simp_all [b9,hW,hD,p8,p5,j9,B7]<;>omega)
  ·refine gr ?_
   exact ⟨_,_,rfl,by unfold jE;rw [h1,h2,h3,hW,hD];rfl,rfl⟩
  ·cases h4
 |true =>
 have hm: -9223372036854775808<=x.width * x.depth/\x.width * x.depth<9223372036854775808:=by
  simp [n8,p5] at hW hD;have m1:=Int.mul_le_mul hW.2 hD.2 (by omega) (by omega);have m2:=Int.mul_nonneg (a:=x.width) (b:=x.depth) (by omega) (by omega);omega
 refine tB (!n8 x.width 1 1024|| !n8 x.depth 1 8||(o9 x.kind 2&& !o9 x.depth 1)||C7 1024 (x.width * x.depth)) ?_ (fun h4=> ?_) (fun h4=> ?_)
 ·repeat' (first|refine cl (bM _ _ _) ?_|refine mu (h0:=hm) ?_|refine gx ?_|refine fk (h1:=fun hw=> ?_) (h2:=fun hw=> ?_)|refine L3 (h1:=fun hw=> ?_) (h2:=fun hw=> ?_)|refine ⟨rfl,rfl,_,rfl,?_⟩|refine ⟨rfl,rfl⟩|fail)
  all_goals first|(simp [*,b9,hW,hD];done)|(simp_all [b9,hW,hD];done)|(simp_all [b9,hW,hD,p8,p5,j9,B7];done)|(simp_all [b9,hW,hD,p8,p5,j9,B7]<;>omega)
 ·refine gr ?_
  exact ⟨_,_,rfl,by unfold jE;rw [h1,h2,h3,h4];rfl,rfl⟩
 ·refine gr ?_
  exact ⟨_,_,rfl,by unfold jE;rw [h1,h2,h3,h4];rfl,rfl⟩
def RS (c:n5)(ss:List Y0)(x:jV):Vw:=nth c.views (B8 x.source (ss.map (·.1)) 0 - c.j3.length).toNat
def qQ (c:n5)(ss:List Y0)(ds:List D6)(x:jV):Int:=if !o9 (E8 ds x.name) 0 then E8 ds x.name else if C7 (B8 x.source (ss.map (·.1)) 0 - c.j3.length) 0 then 7
 else if !o9 (RS c ss x).kind 1|| !o9 (nth (RS c ss x).C2 0).func 0|| !n8 x.Xl 1 1024 then 1 else 0
def Mc (c:n5)(ss:List Y0):List D6->List D6->Int
 |_,[]=>0
 |seen,t::r=>if !dg c ss t then 7 else if seen.any fun y=>J4 y t then 4 else Mc c ss (seen++[t]) r
def Ij (c:n5)(ss:List Y0)(ds:List D6)(x:nj):Int:=if !o9 (E8 ds x.name) 0 then E8 ds x.name else if o9 x.tables.length 0|| !n8 x.keep 1 1048576 then 1 else Mc c ss [] x.tables
set_option maxHeartbeats 4000000 in
theorem VJ (c:n5)(ds:List D6)(ss:List Y0)(i:Nat)(hi:i<c.J3.length)(hc:c.j3.length<=1000)(DF:ss.length<=c.j3.length+c.views.length)(hsv:c.views.length<=1000)(hg:∀ k,k<c.views.length->(nth c.views k).kind≠1\/0<(nth c.views k).C2.length):Pm A 73 [.ptr 4 0,.d (num i)] (HH c ds ss) lW (.d (num (qQ c ss ds (nth c.J3 i)))) (HH c (B5 ds (nth c.J3 i).name) ss):=by
 have cn:=eY c ds ss (nth c.J3 i).name;have Rw:=lD c (B5 ds (nth c.J3 i).name) ss (nth c.J3 i).source;have b1:=iO ss (nth c.J3 i).source
 suffices h:Pq A 73 [.ptr 4 0,.d (num i)] (HH c ds ss) lW fun v H1=>v= .d (num (qQ c ss ds (nth c.J3 i)))/\H1=HH c (B5 ds (nth c.J3 i).name) ss by
  obtain ⟨v,H1,⟨rfl,rfl⟩,h⟩:=h;exact h
 generalize hx:nth c.J3 i=x at *
 unfold HH at *
 refine Pq.run (b:=5) [.ptr 4 0,.d (num i),.any,.any,.any,.any,.any] rfl rfl rfl rfl rfl ?_;refine gr ?_;rw [hx]
 repeat' (first|refine c0 cn rfl (h2:= ?_)|refine gx ?_|fail)
 refine tb (!o9 (E8 ds x.name) 0) (fun h1=> ?_) (fun h1=> ?_)
 ·refine gr ?_
  exact ⟨_,_,rfl,by unfold qQ;rw [h1];rfl,rfl⟩
 repeat' (first|refine c1 Rw rfl ?_|refine gx ?_|fail)
 refine tb (C7 (B8 x.source (ss.map (·.1)) 0 - c.j3.length) 0) (fun h2=> ?_) (fun h2=> ?_)
 ·refine gr ?_
  exact ⟨_,_,rfl,by unfold qQ;rw [h1,h2];rfl,rfl⟩
 have h3:=z8 h2;have h4:=hg (B8 x.source (ss.map (·.1)) 0 - c.j3.length).toNat (by omega);have hrv:nth c.views (B8 x.source (ss.map (·.1)) 0 - c.j3.length).toNat=RS c ss x:=rfl;refine gr ?_;rw [hrv] at h4 ⊢;refine gr ?_;refine tB (!o9 (RS c ss x).kind 1|| !o9 (nth (RS c ss x).C2 0).func 0|| !n8 x.Xl 1 1024) ?_ (fun h5=> ?_) (fun h5=> ?_)
 ·repeat' (first|refine cl (bM _ _ _) ?_|refine gx ?_|refine fk (h1:=fun hw=> ?_) (h2:=fun hw=> ?_)|refine L3 (h1:=fun hw=> ?_) (h2:=fun hw=> ?_)|refine ⟨rfl,rfl,_,rfl,?_⟩|refine ⟨rfl,rfl⟩|fail)
  all_goals exact cc
 ·refine gr ?_
  exact ⟨_,_,rfl,by unfold qQ;rw [h1,h2,h5];rfl,rfl⟩
 ·refine gr ?_
  exact ⟨_,_,rfl,by unfold qQ;rw [h1,h2,h5];rfl,rfl⟩
set_option maxHeartbeats 4000000 in
theorem VL (c:n5)(ds:List D6)(ss:List Y0)(i:Nat)(hi:i<c.M8.length)(hc:c.j3.length<=1000)(hx1:(nth c.M8 i).tables.length<=1000):Pm A 75 [.ptr 4 0,.d (num i)] (HH c ds ss) lW (.d (num (Ij c ss ds (nth c.M8 i)))) (HH c (B5 ds (nth c.M8 i).name) ss):=by
 have cn:=eY c ds ss (nth c.M8 i).name;have Ho:∀ s,Pm A 122 [.ptr 4 0,.d (.str s)] (HH c (B5 ds (nth c.M8 i).name) ss) lR (.d (.bool (dg c ss s))) (HH c (B5 ds (nth c.M8 i).name) ss):=fun s=>Ed c (B5 ds (nth c.M8 i).name) ss s hc
 suffices h:Pq A 75 [.ptr 4 0,.d (num i)] (HH c ds ss) lW fun v H1=>v= .d (num (Ij c ss ds (nth c.M8 i)))/\H1=HH c (B5 ds (nth c.M8 i).name) ss by
  obtain ⟨v,H1,⟨rfl,rfl⟩,h⟩:=h;exact h
 generalize hx:nth c.M8 i=x at *
 unfold HH at *
 refine Pq.run (b:=5) [.ptr 4 0,.d (num i),.any,.any,.any,.any,.any,.any,.any,.any] rfl rfl rfl rfl rfl ?_;refine gr ?_;rw [hx]
 repeat' (first|refine c0 cn rfl (h2:= ?_)|refine gx ?_|fail)
 refine tb (!o9 (E8 ds x.name) 0) (fun h1=> ?_) (fun h1=> ?_)
 ·refine gr ?_
  exact ⟨_,_,rfl,by unfold Ij;rw [h1];rfl,rfl⟩
 refine gr ?_;refine tB (o9 x.tables.length 0|| !n8 x.keep 1 1048576) ?_ (fun h2=> ?_) (fun h2=> ?_)
 ·repeat' (first|refine cl (bM _ _ _) ?_|refine gx ?_|refine fk (h1:=fun hw=> ?_) (h2:=fun hw=> ?_)|refine L3 (h1:=fun hw=> ?_) (h2:=fun hw=> ?_)|refine ⟨rfl,rfl,_,rfl,?_⟩|refine ⟨rfl,rfl⟩|fail)
  all_goals exact cc
 ·refine gr ?_
  exact ⟨_,_,rfl,by unfold Ij;rw [h1,h2];rfl,rfl⟩
 refine gr ?_;refine Ex.J1 (fun k T H=>∃ (j:Nat) (w1 w2 w4 w5 w6:b6),T=[.ptr 4 0,w1,w2,.ptr 5 0,w4,w5,w6,.d (A5 (fun s=>[.str s]) x.tables),.d (num x.tables.length),.d (num j)]/\H=[.cells (c.enc.map .d),.cells (c.enc.map .d),.map (dmap (B5 ds x.name)),.map (S6 (ss.map (·.1)) 0),.cells (c.enc.map .d++[.map 2,.map 3,B4 2 G5 ss]),.cells (x.enc.map .d)]/\j+k=x.tables.length/\Ij c ss ds x=Mc c ss (x.tables.take j) (x.tables.drop j)) (by rintro _ _ _ ⟨_,_,_,_,_,_,_,rfl,_⟩;rfl) ?_ (k:=x.tables.length) ⟨0,_,_,_,_,_,rfl,rfl,by simp,by simp [Ij,h1,h2]⟩;rintro k _ _ ⟨j,w1,w2,w4,w5,w6,rfl,rfl,hk,hj⟩;refine Ex.nT ?_;refine Ex.seq ?_;refine tb (C7 j x.tables.length) (fun h3=> ?_) (fun h3=> ?_)
 ·have h4:=A4 h3
  rw [A8 (by omega)] at hj;have VZ:=Ho (nth x.tables j);have Wa:=IV (x.tables.take j) (nth x.tables j) (by simp;omega);refine gr ?_;refine tB (!dg c ss (nth x.tables j)) ?_ (fun h5=> ?_) (fun h5=> ?_)
  ·repeat' (first|refine c1 VZ rfl ?_|refine gx ?_|refine fk (h1:=fun hw=> ?_) (h2:=fun hw=> ?_)|refine L3 (h1:=fun hw=> ?_) (h2:=fun hw=> ?_)|refine ⟨rfl,rfl,_,rfl,?_⟩|refine ⟨rfl,rfl⟩|fail)
   all_goals exact cc
  ·refine gr ?_
   exact ⟨_,_,rfl,by rw [hj];unfold Mc;rw [h5];rfl,rfl⟩
  refine gr ?_;refine tB ((x.tables.take j).any fun y=>J4 y (nth x.tables j)) ?_ (fun h6=> ?_) (fun h6=> ?_)
  ·repeat' (first|refine cl (Wa) ?_|refine gx ?_|refine fk (h1:=fun hw=> ?_) (h2:=fun hw=> ?_)|refine L3 (h1:=fun hw=> ?_) (h2:=fun hw=> ?_)|refine ⟨rfl,rfl,_,rfl,?_⟩|refine ⟨rfl,rfl⟩|fail)
   all_goals exact cc
  ·refine gr ?_
   exact ⟨_,_,rfl,by rw [hj];unfold Mc;rw [h5,h6];rfl,rfl⟩
  ·refine gr ?_
   refine ⟨k - 1,by omega,j+1,_,_,_,_,_,rfl,rfl,by omega,?_⟩;rw [hj,F6 (by omega)];simp only [Mc,h5,h6,b7,if_false]
 ·have h4:=z8 h3
  rw [m6 (by omega)] at hj;refine gr ?_;exact ⟨_,_,rfl,by rw [hj];rfl,rfl⟩
end Go.Proofs.YtkmclibmmlgogaaGreat


/- Texts D22 D23 (made short by a program) -/
import Derived.Test.YtkmclibmmlgogaaGreatD7
set_option linter.unusedVariables false
set_option linter.unusedSimpArgs false
open Bool renaming false_eq_true → b7
open List renaming drop_of_length_le → k9
namespace Go.Proofs.YtkmclibmmlgogaaGreat
open Go.y3 Go.y3.S
attribute [local irreducible] Rx Ry Rn Ex Pf
def oG (x:D8):List D8->Nat->Int
 |[],_=> -1
 |y::r,i=>if J2 x y then i else oG x r (i+1)
theorem AH (x:D8):∀ (l:List D8) (i:Nat),W8 0 (oG x l i)=l.any fun y=>J2 y x
 |[],i=>by simp [oG,p4]
 |y::r,i=>by
  have h1:=AH x r (i+1);have h2:J2 x y=J2 y x:=by simp only [B8];rw [Bool.eq_iff_iff];simp only [beq_iff_eq];exact eq_comm
  simp only [oG,List.any_cons,h2];cases h3:J2 y x with
  |true=>simp [p4]
  |false=>simpa using h1
theorem ak6 (xs:List D8)(x:D8)(hx:xs.length<=100000):Pf A 158 [.d (z6 encS xs),.d (.str x)] (.d (num (oG x xs 0))):=by
 refine Pf.run [.d (z6 encS xs),.d (.str x),.any,.any,.any,.any] rfl rfl rfl rfl ?_;refine gr ?_;refine Ex.J0 (fun k T H=>∃ (i:Nat) (v w:b6),T=[.d (z6 encS xs),.d (.str x),v,w,.d (num xs.length),.d (num i)]/\H=[]/\i+k=xs.length/\oG x xs 0=oG x (xs.drop i) i) (by rintro _ _ _ ⟨_,_,_,_,rfl,_⟩;rfl) ?_ (k:=xs.length) ⟨0,_,_,rfl,rfl,by simp,by simp⟩;rintro k _ _ ⟨i,v,w,rfl,rfl,hk,hi⟩;refine Ex.nT ?_
 repeat' (first|refine gx ?_|refine Ex.H7 ?_|refine Ex.H8 ?_|refine Ex.cond rfl (fun ht=> ?_) (fun ht=> ?_)|refine Ex.test (Rn.text ?_)|refine Ex.test (Rn.draw ?_)|refine ⟨_,rfl,fun ht=> ?_,fun ht=> ?_⟩|refine ⟨_,rfl,?_⟩|fail)
 ·have h1:=y9 ‹C9 i _=true›
  rw [A2 (by omega)] at hi;simp [hi,oG,ht,b8,num]
 ·have h1:=y9 ‹C9 i _=true›
  rw [A2 (by omega)] at hi;exact ⟨k - 1,by omega,i+1,_,_,rfl,rfl,by omega,by simp [hi,oG,ht]⟩
 ·have h1:=y8 ht
  rw [k9 (by omega)] at hi;simp [hi,oG,b8,num]
theorem Kd (xs:List D8)(x:D8)(hx:xs.length<=100000):Pf A 123 [.d (z6 encS xs),.d (.str x)] (.d (.bool (xs.any fun y=>J2 y x))):=by
 rw [<- AH x xs 0];refine Pf.run [.d (z6 encS xs),.d (.str x),.any] rfl rfl rfl rfl ?_
 repeat' (first|refine cl (ak6 xs x hx) ?_|refine gx ?_|fail)
 exact ⟨_,rfl,rfl⟩
def Ab (x:Int):List Int->Nat->Int
 |[],_=> -1
 |y::r,i=>if o9 x y then i else Ab x r (i+1)
theorem Ep (x:Int):∀ (l:List Int) (i:Nat),W8 0 (Ab x l i)=l.any fun y=>o9 y x
 |[],i=>by simp [Ab,p4]
 |y::r,i=>by
  have h1:=Ep x r (i+1);have h2:o9 x y=o9 y x:=by simp only [j9];rw [Bool.eq_iff_iff];simp only [beq_iff_eq];exact eq_comm
  simp only [Ab,List.any_cons,h2];cases h3:o9 y x with
  |true=>simp [p4]
  |false=>simpa using h1
theorem aO2 (xs:List Int)(x:Int)(hx:xs.length<=100000):Pf A 82 [.d (z6 (fun n=>[num n]) xs),.d (num x)] (.d (num (Ab x xs 0))):=by
 refine Pf.run [.d (z6 (fun n=>[num n]) xs),.d (num x),.any,.any,.any,.any] rfl rfl rfl rfl ?_;refine gr ?_;refine Ex.J0 (fun k T H=>∃ (i:Nat) (v w:b6),T=[.d (z6 (fun n=>[num n]) xs),.d (num x),v,w,.d (num xs.length),.d (num i)]/\H=[]/\i+k=xs.length/\Ab x xs 0=Ab x (xs.drop i) i) (by rintro _ _ _ ⟨_,_,_,_,rfl,_⟩;rfl) ?_ (k:=xs.length) ⟨0,_,_,rfl,rfl,by simp,by simp⟩;rintro k _ _ ⟨i,v,w,rfl,rfl,hk,hi⟩;refine Ex.nT ?_
 repeat' (first|refine gx ?_|refine Ex.H7 ?_|refine Ex.H8 ?_|refine Ex.cond rfl (fun ht=> ?_) (fun ht=> ?_)|refine Ex.test (Rn.text ?_)|refine Ex.test (Rn.draw ?_)|refine ⟨_,rfl,fun ht=> ?_,fun ht=> ?_⟩|refine ⟨_,rfl,?_⟩|fail)
 ·have h1:=y9 ‹C9 i _=true›
  rw [A2 (by omega)] at hi;simp [hi,Ab,ht,b8,num]
 ·have h1:=y9 ‹C9 i _=true›
  rw [A2 (by omega)] at hi;exact ⟨k - 1,by omega,i+1,_,_,rfl,rfl,by omega,by simp [hi,Ab,ht]⟩
 ·have h1:=y8 ht
  rw [k9 (by omega)] at hi;simp [hi,Ab,b8,num]
theorem XU (xs:List Int)(x:Int)(hx:xs.length<=100000):Pf A 49 [.d (z6 (fun n=>[num n]) xs),.d (num x)] (.d (.bool (xs.any fun y=>o9 y x))):=by
 rw [<- Ep x xs 0];refine Pf.run [.d (z6 (fun n=>[num n]) xs),.d (num x),.any] rfl rfl rfl rfl ?_
 repeat' (first|refine cl (aO2 xs x hx) ?_|refine gx ?_|fail)
 exact ⟨_,rfl,rfl⟩
def qT (ss:List Y4)(ds:List D8)(x:iC):Int:=if !o9 (E8 ds x.name) 0 then E8 ds x.name else if !o9 (cI ss x.source x.col).2 0 then (cI ss x.source x.col).2 else if !o9 (cI ss x.source x.col).1 2 then 5 else 0
def jR (ss:List Y4)(ds:List D8)(x:iq):Int:=if !o9 (E8 ds x.name) 0 then E8 ds x.name else if !o9 (cI ss x.source x.col).2 0 then (cI ss x.source x.col).2
 else if !o9 x.kind 0&& !o9 x.kind 1&& !o9 x.kind 2 then 1
 else if !n7 x.width 1 1024|| !n7 x.depth 1 8||(o9 x.kind 2&& !o9 x.depth 1)||C9 1024 (x.width * x.depth) then 1 else 0
def qD (ss:List Y4)(ds:List D8)(x:kj):Int:=if !o9 (E8 ds x.name) 0 then E8 ds x.name else if !o9 (cI ss x.source x.col).2 0 then (cI ss x.source x.col).2 else if !n7 x.ttl 1 1048576 then 1 else 0
def vA (c:m8)(ss:List Y4)(ds:List D8)(x:lS):Int:=if !o9 (E8 ds x.name) 0 then E8 ds x.name else if !dx c ss x.table then 7 else 0
set_option maxHeartbeats 4000000 in
theorem Ya (c:m8)(ds:List D8)(ss:List Y4)(i:Nat)(hi:i<c.idxs.length)(eg:∀ k,k<ss.length->(nth ss k).2.2.length<=100000):Pm A 70 [.ptr 4 0,.d (num i)] (HH c ds ss) lW (.d (num (qT ss ds (nth c.idxs i)))) (HH c (B4 ds (nth c.idxs i).name) ss):=by
 have cF:=fu c ds ss (nth c.idxs i).name;have xV:=yc c (B4 ds (nth c.idxs i).name) ss (nth c.idxs i).source (nth c.idxs i).col eg
 suffices h:Pq A 70 [.ptr 4 0,.d (num i)] (HH c ds ss) lW fun v H1=>v= .d (num (qT ss ds (nth c.idxs i)))/\H1=HH c (B4 ds (nth c.idxs i).name) ss by
  obtain ⟨v,H1,⟨rfl,rfl⟩,h⟩:=h;exact h
 generalize hx:nth c.idxs i=x at *
 unfold HH at *
 refine Pq.run (b:=5) [.ptr 4 0,.d (num i),.any,.any,.any,.any,.any] rfl rfl rfl rfl rfl ?_;refine gr ?_;rw [hx]
 repeat' (first|refine c0 cF rfl (h2:= ?_)|refine gx ?_|fail)
 refine tb (!o9 (E8 ds x.name) 0) (fun h1=> ?_) (fun h1=> ?_)
 ·refine gr ?_
  exact ⟨_,_,rfl,by unfold qT;rw [h1];rfl,rfl⟩
 repeat' (first|refine c1 xV rfl ?_|refine gx ?_|fail)
 refine tb (!o9 (cI ss x.source x.col).2 0) (fun h2=> ?_) (fun h2=> ?_)
 ·refine gr ?_
  exact ⟨_,_,rfl,by unfold qT;rw [h1,h2];rfl,rfl⟩
 refine gr ?_;refine tb (!o9 (cI ss x.source x.col).1 2) (fun h3=> ?_) (fun h3=> ?_)
 ·refine gr ?_
  exact ⟨_,_,rfl,by unfold qT;rw [h1,h2,h3];rfl,rfl⟩
 ·refine gr ?_
  exact ⟨_,_,rfl,by unfold qT;rw [h1,h2,h3];rfl,rfl⟩
set_option maxHeartbeats 4000000 in
theorem Yc (c:m8)(ds:List D8)(ss:List Y4)(i:Nat)(hi:i<c.F1.length)(eg:∀ k,k<ss.length->(nth ss k).2.2.length<=100000):Pm A 72 [.ptr 4 0,.d (num i)] (HH c ds ss) lW (.d (num (qD ss ds (nth c.F1 i)))) (HH c (B4 ds (nth c.F1 i).name) ss):=by
 have cF:=fu c ds ss (nth c.F1 i).name;have xV:=yc c (B4 ds (nth c.F1 i).name) ss (nth c.F1 i).source (nth c.F1 i).col eg
 suffices h:Pq A 72 [.ptr 4 0,.d (num i)] (HH c ds ss) lW fun v H1=>v= .d (num (qD ss ds (nth c.F1 i)))/\H1=HH c (B4 ds (nth c.F1 i).name) ss by
  obtain ⟨v,H1,⟨rfl,rfl⟩,h⟩:=h;exact h
 generalize hx:nth c.F1 i=x at *
 unfold HH at *
 refine Pq.run (b:=5) [.ptr 4 0,.d (num i),.any,.any,.any,.any] rfl rfl rfl rfl rfl ?_;refine gr ?_;rw [hx]
 repeat' (first|refine c0 cF rfl (h2:= ?_)|refine gx ?_|fail)
 refine tb (!o9 (E8 ds x.name) 0) (fun h1=> ?_) (fun h1=> ?_)
 ·refine gr ?_
  exact ⟨_,_,rfl,by unfold qD;rw [h1];rfl,rfl⟩
 repeat' (first|refine c1 xV rfl ?_|refine gx ?_|fail)
 refine tb (!o9 (cI ss x.source x.col).2 0) (fun h2=> ?_) (fun h2=> ?_)
 ·refine gr ?_
  exact ⟨_,_,rfl,by unfold qD;rw [h1,h2];rfl,rfl⟩
 refine gr ?_;refine tB (!n7 x.ttl 1 1048576) ?_ (fun h3=> ?_) (fun h3=> ?_)
 ·repeat' (first|refine cl (bX _ _ _) ?_|refine gx ?_|refine fk (h1:=fun hw=> ?_) (h2:=fun hw=> ?_)|refine L7 (h1:=fun hw=> ?_) (h2:=fun hw=> ?_)|refine ⟨rfl,rfl,_,rfl,?_⟩|refine ⟨rfl,rfl⟩|fail)
  all_goals exact cc
 ·refine gr ?_
  exact ⟨_,_,rfl,by unfold qD;rw [h1,h2,h3];rfl,rfl⟩
 ·refine gr ?_
  exact ⟨_,_,rfl,by unfold qD;rw [h1,h2,h3];rfl,rfl⟩
set_option maxHeartbeats 4000000 in
theorem Ye (c:m8)(ds:List D8)(ss:List Y4)(i:Nat)(hi:i<c.K9.length)(hc:c.j3.length<=1000):Pm A 74 [.ptr 4 0,.d (num i)] (HH c ds ss) lW (.d (num (vA c ss ds (nth c.K9 i)))) (HH c (B4 ds (nth c.K9 i).name) ss):=by
 have cF:=fu c ds ss (nth c.K9 i).name;have IB:=Fg c (B4 ds (nth c.K9 i).name) ss (nth c.K9 i).table hc
 suffices h:Pq A 74 [.ptr 4 0,.d (num i)] (HH c ds ss) lW fun v H1=>v= .d (num (vA c ss ds (nth c.K9 i)))/\H1=HH c (B4 ds (nth c.K9 i).name) ss by
  obtain ⟨v,H1,⟨rfl,rfl⟩,h⟩:=h;exact h
 generalize hx:nth c.K9 i=x at *
 unfold HH at *
 refine Pq.run (b:=5) [.ptr 4 0,.d (num i),.any,.any,.any] rfl rfl rfl rfl rfl ?_;refine gr ?_;rw [hx]
 repeat' (first|refine c0 cF rfl (h2:= ?_)|refine gx ?_|fail)
 refine tb (!o9 (E8 ds x.name) 0) (fun h1=> ?_) (fun h1=> ?_)
 ·refine gr ?_
  exact ⟨_,_,rfl,by unfold vA;rw [h1];rfl,rfl⟩
 refine gr ?_;refine tB (!dx c ss x.table) ?_ (fun h2=> ?_) (fun h2=> ?_)
 ·repeat' (first|refine c1 IB rfl ?_|refine gx ?_|refine fk (h1:=fun hw=> ?_) (h2:=fun hw=> ?_)|refine L7 (h1:=fun hw=> ?_) (h2:=fun hw=> ?_)|refine ⟨rfl,rfl,_,rfl,?_⟩|refine ⟨rfl,rfl⟩|fail)
  all_goals exact cc
 ·refine gr ?_
  exact ⟨_,_,rfl,by unfold vA;rw [h1,h2];rfl,rfl⟩
 ·refine gr ?_
  exact ⟨_,_,rfl,by unfold vA;rw [h1,h2];rfl,rfl⟩
set_option maxHeartbeats 4000000 in
theorem Yb (c:m8)(ds:List D8)(ss:List Y4)(i:Nat)(hi:i<c.E7.length)(eg:∀ k,k<ss.length->(nth ss k).2.2.length<=100000):Pm A 71 [.ptr 4 0,.d (num i)] (HH c ds ss) lW (.d (num (jR ss ds (nth c.E7 i)))) (HH c (B4 ds (nth c.E7 i).name) ss):=by
 have cF:=fu c ds ss (nth c.E7 i).name;have xV:=yc c (B4 ds (nth c.E7 i).name) ss (nth c.E7 i).source (nth c.E7 i).col eg
 suffices h:Pq A 71 [.ptr 4 0,.d (num i)] (HH c ds ss) lW fun v H1=>v= .d (num (jR ss ds (nth c.E7 i)))/\H1=HH c (B4 ds (nth c.E7 i).name) ss by
  obtain ⟨v,H1,⟨rfl,rfl⟩,h⟩:=h;exact h
 generalize hx:nth c.E7 i=x at *
 unfold HH at *
 refine Pq.run (b:=5) [.ptr 4 0,.d (num i),.any,.any,.any,.any] rfl rfl rfl rfl rfl ?_;refine gr ?_;rw [hx]
 repeat' (first|refine c0 cF rfl (h2:= ?_)|refine gx ?_|fail)
 refine tb (!o9 (E8 ds x.name) 0) (fun h1=> ?_) (fun h1=> ?_)
 ·refine gr ?_
  exact ⟨_,_,rfl,by unfold jR;rw [h1];rfl,rfl⟩
 repeat' (first|refine c1 xV rfl ?_|refine gx ?_|fail)
 refine tb (!o9 (cI ss x.source x.col).2 0) (fun h2=> ?_) (fun h2=> ?_)
 ·refine gr ?_
  exact ⟨_,_,rfl,by unfold jR;rw [h1,h2];rfl,rfl⟩
 refine gr ?_;refine tb (!o9 x.kind 0&& !o9 x.kind 1&& !o9 x.kind 2) (fun h3=> ?_) (fun h3=> ?_)
 ·refine gr ?_
  exact ⟨_,_,rfl,by unfold jR;rw [h1,h2,h3];rfl,rfl⟩
 refine gr ?_;cases hW:n7 x.width 1 1024 with
 |false =>
  refine tB (true) ?_ (fun h4=> ?_) (fun h4=> ?_)
  ·repeat' (first|refine cl (bX _ _ _) ?_|refine gx ?_|refine fk (h1:=fun hw=> ?_) (h2:=fun hw=> ?_)|refine L7 (h1:=fun hw=> ?_) (h2:=fun hw=> ?_)|refine ⟨rfl,rfl,_,rfl,?_⟩|refine ⟨rfl,rfl⟩|fail)
   all_goals first|(simp [*,b8,hW];done)|(simp_all [b8,hW];done)|(simp_all [b8,hW,p5,p4,j9,B8];done)|(simp_all [b8,hW,p5,p4,j9,B8]<;>omega)
  ·refine gr ?_
   exact ⟨_,_,rfl,by unfold jR;rw [h1,h2,h3,hW];rfl,rfl⟩
  ·cases h4
 |true =>
 cases hD:n7 x.depth 1 8 with
 |false =>
  refine tB (true) ?_ (fun h4=> ?_) (fun h4=> ?_)
  ·repeat' (first|refine cl (bX _ _ _) ?_|refine gx ?_|refine fk (h1:=fun hw=> ?_) (h2:=fun hw=> ?_)|refine L7 (h1:=fun hw=> ?_) (h2:=fun hw=> ?_)|refine ⟨rfl,rfl,_,rfl,?_⟩|refine ⟨rfl,rfl⟩|fail)
   all_goals first|(simp [*,b8,hW,hD];done)|(simp_all [b8,hW,hD];done)|(simp_all [b8,hW,hD,p5,p4,j9,B8];done)|(simp_all [b8,hW,hD,p5,p4,j9,B8]<;>omega)
  ·refine gr ?_
   exact ⟨_,_,rfl,by unfold jR;rw [h1,h2,h3,hW,hD];rfl,rfl⟩
  ·cases h4
 |true =>
 have hm: -9223372036854775808<=x.width * x.depth/\x.width * x.depth<9223372036854775808:=by
  simp [n7,p4] at hW hD;have m1:=Int.mul_le_mul hW.2 hD.2 (by omega) (by omega);have m2:=Int.mul_nonneg (a:=x.width) (b:=x.depth) (by omega) (by omega);omega
 refine tB (!n7 x.width 1 1024|| !n7 x.depth 1 8||(o9 x.kind 2&& !o9 x.depth 1)||C9 1024 (x.width * x.depth)) ?_ (fun h4=> ?_) (fun h4=> ?_)
 ·repeat' (first|refine cl (bX _ _ _) ?_|refine mu (h0:=hm) ?_|refine gx ?_|refine fk (h1:=fun hw=> ?_) (h2:=fun hw=> ?_)|refine L7 (h1:=fun hw=> ?_) (h2:=fun hw=> ?_)|refine ⟨rfl,rfl,_,rfl,?_⟩|refine ⟨rfl,rfl⟩|fail)
  all_goals first|(simp [*,b8,hW,hD];done)|(simp_all [b8,hW,hD];done)|(simp_all [b8,hW,hD,p5,p4,j9,B8];done)|(simp_all [b8,hW,hD,p5,p4,j9,B8]<;>omega)
 ·refine gr ?_
  exact ⟨_,_,rfl,by unfold jR;rw [h1,h2,h3,h4];rfl,rfl⟩
 ·refine gr ?_
  exact ⟨_,_,rfl,by unfold jR;rw [h1,h2,h3,h4];rfl,rfl⟩
def TZ (c:m8)(ss:List Y4)(x:jx):Vw:=nth c.views (C0 x.source (ss.map (·.1)) 0 - c.j3.length).toNat
def rJ (c:m8)(ss:List Y4)(ds:List D8)(x:jx):Int:=if !o9 (E8 ds x.name) 0 then E8 ds x.name else if C9 (C0 x.source (ss.map (·.1)) 0 - c.j3.length) 0 then 7
 else if !o9 (TZ c ss x).kind 1|| !o9 (nth (TZ c ss x).C1 0).func 0|| !n7 x.VX 1 1024 then 1 else 0
def NN (c:m8)(ss:List Y4):List D8->List D8->Int
 |_,[]=>0
 |seen,t::r=>if !dx c ss t then 7 else if seen.any fun y=>J2 y t then 4 else NN c ss (seen++[t]) r
def Jv (c:m8)(ss:List Y4)(ds:List D8)(x:lQ):Int:=if !o9 (E8 ds x.name) 0 then E8 ds x.name else if o9 x.tables.length 0|| !n7 x.keep 1 1048576 then 1 else NN c ss [] x.tables
set_option maxHeartbeats 4000000 in
theorem Yd (c:m8)(ds:List D8)(ss:List Y4)(i:Nat)(hi:i<c.I9.length)(hc:c.j3.length<=1000)(EF:ss.length<=c.j3.length+c.views.length)(hsv:c.views.length<=1000)(hg:∀ k,k<c.views.length->(nth c.views k).kind≠1\/0<(nth c.views k).C1.length):Pm A 73 [.ptr 4 0,.d (num i)] (HH c ds ss) lW (.d (num (rJ c ss ds (nth c.I9 i)))) (HH c (B4 ds (nth c.I9 i).name) ss):=by
 have cF:=fu c ds ss (nth c.I9 i).name;have TJ:=lN c (B4 ds (nth c.I9 i).name) ss (nth c.I9 i).source;have b1:=jh ss (nth c.I9 i).source
 suffices h:Pq A 73 [.ptr 4 0,.d (num i)] (HH c ds ss) lW fun v H1=>v= .d (num (rJ c ss ds (nth c.I9 i)))/\H1=HH c (B4 ds (nth c.I9 i).name) ss by
  obtain ⟨v,H1,⟨rfl,rfl⟩,h⟩:=h;exact h
 generalize hx:nth c.I9 i=x at *
 unfold HH at *
 refine Pq.run (b:=5) [.ptr 4 0,.d (num i),.any,.any,.any,.any,.any] rfl rfl rfl rfl rfl ?_;refine gr ?_;rw [hx]
 repeat' (first|refine c0 cF rfl (h2:= ?_)|refine gx ?_|fail)
 refine tb (!o9 (E8 ds x.name) 0) (fun h1=> ?_) (fun h1=> ?_)
 ·refine gr ?_
  exact ⟨_,_,rfl,by unfold rJ;rw [h1];rfl,rfl⟩
 repeat' (first|refine c1 TJ rfl ?_|refine gx ?_|fail)
 refine tb (C9 (C0 x.source (ss.map (·.1)) 0 - c.j3.length) 0) (fun h2=> ?_) (fun h2=> ?_)
 ·refine gr ?_
  exact ⟨_,_,rfl,by unfold rJ;rw [h1,h2];rfl,rfl⟩
 have h3:=y8 h2;have h4:=hg (C0 x.source (ss.map (·.1)) 0 - c.j3.length).toNat (by omega);have hrv:nth c.views (C0 x.source (ss.map (·.1)) 0 - c.j3.length).toNat=TZ c ss x:=rfl;refine gr ?_;rw [hrv] at h4 ⊢;refine gr ?_;refine tB (!o9 (TZ c ss x).kind 1|| !o9 (nth (TZ c ss x).C1 0).func 0|| !n7 x.VX 1 1024) ?_ (fun h5=> ?_) (fun h5=> ?_)
 ·repeat' (first|refine cl (bX _ _ _) ?_|refine gx ?_|refine fk (h1:=fun hw=> ?_) (h2:=fun hw=> ?_)|refine L7 (h1:=fun hw=> ?_) (h2:=fun hw=> ?_)|refine ⟨rfl,rfl,_,rfl,?_⟩|refine ⟨rfl,rfl⟩|fail)
  all_goals exact cc
 ·refine gr ?_
  exact ⟨_,_,rfl,by unfold rJ;rw [h1,h2,h5];rfl,rfl⟩
 ·refine gr ?_
  exact ⟨_,_,rfl,by unfold rJ;rw [h1,h2,h5];rfl,rfl⟩
set_option maxHeartbeats 4000000 in
theorem Yf (c:m8)(ds:List D8)(ss:List Y4)(i:Nat)(hi:i<c.M7.length)(hc:c.j3.length<=1000)(hx1:(nth c.M7 i).tables.length<=1000):Pm A 75 [.ptr 4 0,.d (num i)] (HH c ds ss) lW (.d (num (Jv c ss ds (nth c.M7 i)))) (HH c (B4 ds (nth c.M7 i).name) ss):=by
 have cF:=fu c ds ss (nth c.M7 i).name;have IB:∀ s,Pm A 122 [.ptr 4 0,.d (.str s)] (HH c (B4 ds (nth c.M7 i).name) ss) lR (.d (.bool (dx c ss s))) (HH c (B4 ds (nth c.M7 i).name) ss):=fun s=>Fg c (B4 ds (nth c.M7 i).name) ss s hc
 suffices h:Pq A 75 [.ptr 4 0,.d (num i)] (HH c ds ss) lW fun v H1=>v= .d (num (Jv c ss ds (nth c.M7 i)))/\H1=HH c (B4 ds (nth c.M7 i).name) ss by
  obtain ⟨v,H1,⟨rfl,rfl⟩,h⟩:=h;exact h
 generalize hx:nth c.M7 i=x at *
 unfold HH at *
 refine Pq.run (b:=5) [.ptr 4 0,.d (num i),.any,.any,.any,.any,.any,.any,.any,.any] rfl rfl rfl rfl rfl ?_;refine gr ?_;rw [hx]
 repeat' (first|refine c0 cF rfl (h2:= ?_)|refine gx ?_|fail)
 refine tb (!o9 (E8 ds x.name) 0) (fun h1=> ?_) (fun h1=> ?_)
 ·refine gr ?_
  exact ⟨_,_,rfl,by unfold Jv;rw [h1];rfl,rfl⟩
 refine gr ?_;refine tB (o9 x.tables.length 0|| !n7 x.keep 1 1048576) ?_ (fun h2=> ?_) (fun h2=> ?_)
 ·repeat' (first|refine cl (bX _ _ _) ?_|refine gx ?_|refine fk (h1:=fun hw=> ?_) (h2:=fun hw=> ?_)|refine L7 (h1:=fun hw=> ?_) (h2:=fun hw=> ?_)|refine ⟨rfl,rfl,_,rfl,?_⟩|refine ⟨rfl,rfl⟩|fail)
  all_goals exact cc
 ·refine gr ?_
  exact ⟨_,_,rfl,by unfold Jv;rw [h1,h2];rfl,rfl⟩
 refine gr ?_;refine Ex.J0 (fun k T H=>∃ (j:Nat) (w1 w2 w4 w5 w6:b6),T=[.ptr 4 0,w1,w2,.ptr 5 0,w4,w5,w6,.d (z6 (fun s=>[.str s]) x.tables),.d (num x.tables.length),.d (num j)]/\H=[.cells (c.enc.map .d),.cells (c.enc.map .d),.map (dmap (B4 ds x.name)),.map (T3 (ss.map (·.1)) 0),.cells (c.enc.map .d++[.map 2,.map 3,B3 2 F9 ss]),.cells (x.enc.map .d)]/\j+k=x.tables.length/\Jv c ss ds x=NN c ss (x.tables.take j) (x.tables.drop j)) (by rintro _ _ _ ⟨_,_,_,_,_,_,_,rfl,_⟩;rfl) ?_ (k:=x.tables.length) ⟨0,_,_,_,_,_,rfl,rfl,by simp,by simp [Jv,h1,h2]⟩;rintro k _ _ ⟨j,w1,w2,w4,w5,w6,rfl,rfl,hk,hj⟩;refine Ex.nT ?_;refine Ex.seq ?_;refine tb (C9 j x.tables.length) (fun h3=> ?_) (fun h3=> ?_)
 ·have h4:=y9 h3
  rw [A2 (by omega)] at hj;have Ys:=IB (nth x.tables j);have Yt:=Kd (x.tables.take j) (nth x.tables j) (by simp;omega);refine gr ?_;refine tB (!dx c ss (nth x.tables j)) ?_ (fun h5=> ?_) (fun h5=> ?_)
  ·repeat' (first|refine c1 Ys rfl ?_|refine gx ?_|refine fk (h1:=fun hw=> ?_) (h2:=fun hw=> ?_)|refine L7 (h1:=fun hw=> ?_) (h2:=fun hw=> ?_)|refine ⟨rfl,rfl,_,rfl,?_⟩|refine ⟨rfl,rfl⟩|fail)
   all_goals exact cc
  ·refine gr ?_
   exact ⟨_,_,rfl,by rw [hj];unfold NN;rw [h5];rfl,rfl⟩
  refine gr ?_;refine tB ((x.tables.take j).any fun y=>J2 y (nth x.tables j)) ?_ (fun h6=> ?_) (fun h6=> ?_)
  ·repeat' (first|refine cl (Yt) ?_|refine gx ?_|refine fk (h1:=fun hw=> ?_) (h2:=fun hw=> ?_)|refine L7 (h1:=fun hw=> ?_) (h2:=fun hw=> ?_)|refine ⟨rfl,rfl,_,rfl,?_⟩|refine ⟨rfl,rfl⟩|fail)
   all_goals exact cc
  ·refine gr ?_
   exact ⟨_,_,rfl,by rw [hj];unfold NN;rw [h5,h6];rfl,rfl⟩
  ·refine gr ?_
   refine ⟨k - 1,by omega,j+1,_,_,_,_,_,rfl,rfl,by omega,?_⟩;rw [hj,F7 (by omega)];simp only [NN,h5,h6,b7,if_false]
 ·have h4:=y8 h3
  rw [k9 (by omega)] at hj;refine gr ?_;exact ⟨_,_,rfl,by rw [hj];rfl,rfl⟩
end Go.Proofs.YtkmclibmmlgogaaGreat


/- Texts D59 D62 (made short by a program) -/
import Derived.Test.YtkmclibmmlgogaaGreatX3
set_option linter.unusedVariables false
set_option linter.unusedSimpArgs false
open List renaming length_cons → B7
open Nat renaming le_refl → n5
namespace Go.Proofs.YtkmclibmmlgogaaGreat
open Go.y3 Go.y3.S
attribute [local irreducible] Rx Ry Rn Ex Pf
theorem qd {α:Type}(eq:α->α->Bool)(h:∀ a,eq a a=true):∀ l:List α,U4 eq l l=true
 |[]=>rfl
 |x::l=>by
  have:=qd eq h l;simp_all [U4]
theorem qL (a:Int):o9 a a=true:=by simp [j9]
theorem QG (a:D8):J2 a a=true:=by simp [B8]
theorem Ah (xs:List Int)(h:xs.length<=100000):Pf A 31 [.d (ints xs),.d (ints xs)] (.d (.bool true)):=by
 have:=aN6 xs xs h
 rwa [qd _ qL] at this
theorem XS (xs:List D8)(h:xs.length<=100000):Pf A 52 [.d (uE xs),.d (uE xs)] (.d (.bool true)):=by
 have:=aN8 xs xs h
 rwa [qd _ QG] at this
theorem xl (c:m8)(s:D8):MJ c s=xk c s:=by rw [WC];rfl
set_option maxHeartbeats 8000000 in
theorem am4 (c:m8)(hs:B6 c)(n:Int)(s:D8)(h:P9 c n=false):Pf A 22 [cat c,.d (num n),.d (.str s)] (.d (.bool true)):=by
 have ht:bF c n=false:=by unfold bF;rw [h];rfl
 have SA:=TK c hs s;have Yz:=TL c hs s;rw [xl] at SA;have TS:=Vs c hs n h;have TU:=am7 c hs n h;have TT:=Vz c hs n h;have TV:=am8 c hs n h;have Yx:=am1 c hs n h;have Zx:=VI c hs n (.inl h);have Yy:=am2 c hs n h;have YA:=am9 c hs n h;have Zv:=VC c hs n ht;have Zy:=VL c hs n ht;have Zw:=Qb c hs n ht;have Zz:=VM c hs n ht;have s0:=XS [] (by simp);have s1:=Ah [] (by simp);refine Pf.run [cat c,.d (num n),.d (.str s),.any,.any] rfl rfl rfl rfl ?_
 repeat' (first|refine cl (SA) ?_|refine cl (Yz) ?_|refine cl (TS) ?_|refine cl (TU) ?_|refine cl (s0) ?_|refine cl (TT) ?_|refine cl (TV) ?_|refine cl (s1) ?_|refine cl (Yx) ?_|refine cl (Zx) ?_|refine cl (Yy) ?_|refine cl (YA) ?_|refine cl (Zv) ?_|refine cl (Zy) ?_|refine cl (Zw) ?_|refine cl (Zz) ?_|refine gx ?_|refine fk (h1:=fun hw=> ?_) (h2:=fun hw=> ?_)|refine L7 (h1:=fun hw=> ?_) (h2:=fun hw=> ?_)|refine Ex.H7 ?_|refine Ex.H8 ?_|refine Ex.cond rfl (fun ht=> ?_) (fun ht=> ?_)|refine Ex.test (Rn.text ?_)|refine Ex.test (Rn.draw ?_)|refine ⟨_,rfl,fun ht=> ?_,fun ht=> ?_⟩|refine ⟨_,rfl,?_⟩|fail)
 all_goals simp_all [b8,qL]
section
variable (c:m8) (hs:B6 c) (m:Nat) (s:D8) (h:P9 c m=true)
include hs h
theorem Bn:(wY c m).length<=100000/\(R3 c m).length<=100000/\(aG c m).length<=100000/\(an c m (m8.ns c)).length<=100000:=by
 have h2:=fC (gf h);have h3:=(cq h).2.2;have hn:=Iz hs;have hnl:=Z3 c;have a1:=rS hs (m8.ns c) m (by omega) (n5 _) (fun k hk=>h2.1 k (by omega));have a2:=P7 hs (m8.ns c) m (by omega) (n5 _) h2.2.2;have a3:=mg c m (m8.ns c);refine ⟨by omega,by omega,?_,by omega⟩;unfold aG;split
 ·simp
 ·have:=AB (nth c.views ((m:Int) - c.j3.length).toNat) (YR c)
  omega
set_option maxHeartbeats 8000000 in
theorem am6 (ht:bF c m=false):Pf A 22 [cat c,.d (num m),.d (.str s)] (.d (.bool true)):=by
 have h4:(c.j3.length:Int)<=m:=by unfold bF at ht;rw [h,Bool.true_and] at ht;exact y8 ht
 obtain ⟨l1,l2,l3,l4⟩:=Bn c hs m h;have SA:=TK c hs s;have Yz:=TL c hs s;rw [xl] at SA;have TS:=Vt c hs m h;have TU:=VH c hs m h;have TT:=VA c hs m h;have TV:=Qd c hs m h;have Yx:=VF c hs m h;have Zx:=VJ c hs m h h4;have Yy:=VG c hs m h;have YA:=VK c hs m h;have Zv:=VC c hs m ht;have Zy:=VL c hs m ht;have Zw:=Qb c hs m ht;have Zz:=VM c hs m ht;rw [Int.toNat_natCast] at TS TU TT TV;have s0:=XS _ l1;have s1:=Ah _ l2;have s2:=Ah _ l3;have s3:=Ah _ l4;have s4:=Ah [] (by simp);obtain ⟨x0,e0⟩:∃ x,wY c m=x:=⟨_,rfl⟩;obtain ⟨x1,e1⟩:∃ x,R3 c m=x:=⟨_,rfl⟩;obtain ⟨x2,e2⟩:∃ x,aG c m=x:=⟨_,rfl⟩;obtain ⟨x3,e3⟩:∃ x,an c m (m8.ns c)=x:=⟨_,rfl⟩;obtain ⟨x4,e4⟩:∃ x,xk c s=x:=⟨_,rfl⟩;rw [e0] at TS TU s0;rw [e1] at TT TV s1;rw [e2] at Yx Zx s2;rw [e3] at Yy YA s3;rw [e4] at SA Yz;clear e0 e1 e2 e3 e4 l1 l2 l3 l4;refine Pf.run [cat c,.d (num m),.d (.str s),.any,.any] rfl rfl rfl rfl ?_
 repeat' (first|refine cl (SA) ?_|refine cl (Yz) ?_|refine cl (TS) ?_|refine cl (TU) ?_|refine cl (s0) ?_|refine cl (TT) ?_|refine cl (TV) ?_|refine cl (s1) ?_|refine cl (Yx) ?_|refine cl (Zx) ?_|refine cl (s2) ?_|refine cl (Yy) ?_|refine cl (YA) ?_|refine cl (s3) ?_|refine cl (Zv) ?_|refine cl (Zy) ?_|refine cl (s4) ?_|refine cl (Zw) ?_|refine cl (Zz) ?_|refine gx ?_|refine fk (h1:=fun hw=> ?_) (h2:=fun hw=> ?_)|refine L7 (h1:=fun hw=> ?_) (h2:=fun hw=> ?_)|refine Ex.H7 ?_|refine Ex.H8 ?_|refine Ex.cond rfl (fun ht=> ?_) (fun ht=> ?_)|refine Ex.test (Rn.text ?_)|refine Ex.test (Rn.draw ?_)|refine ⟨_,rfl,fun ht=> ?_,fun ht=> ?_⟩|refine ⟨_,rfl,?_⟩|fail)
 all_goals simp_all [b8,qL]
set_option maxHeartbeats 8000000 in
theorem am5 (ht:bF c m=true):Pf A 22 [cat c,.d (num m),.d (.str s)] (.d (.bool true)):=by
 have h4:=(qU ht).2.2;have e5:aG c m=[]:=by unfold aG;rw [show C9 (m:Int) c.j3.length=true by simp only [p5,decide_eq_true_eq];exact h4];rfl
 obtain ⟨l1,l2,l3,l4⟩:=Bn c hs m h;have hcl:=qg (gf h) (n:=m) (by omega);have l5:(CX c m).length<=100000:=by
  have:=rA (nth c.j3 m).m7 (nth c.j3 m).m7.length;unfold CX;rw [Int.toNat_natCast];omega
 have l6:(fixC c m).length<=100000:=by
  have a1:=me (Q6 (xh (nth c.j3 m)));rw [jS] at a1;have a2:=mR hcl.2 (nth c.j3 m).m7.length (n5 _);unfold fixC;rw [Int.toNat_natCast];simp only [xh,B7] at a1 ⊢;omega
 have SA:=TK c hs s;have Yz:=TL c hs s;rw [xl] at SA;have TS:=Vt c hs m h;have TU:=VH c hs m h;have TT:=VA c hs m h;have TV:=Qd c hs m h;have Yx:=VF c hs m h;have Zx:=VI c hs m (.inr h4);have Yy:=VG c hs m h;have YA:=VK c hs m h;have Zv:=ak9 c hs m ht;have Zy:=an0 c hs m ht;have Zw:=al4 c hs m ht;have Zz:=an1 c hs m ht;rw [Int.toNat_natCast] at TS TU TT TV;rw [e5] at Yx;have s0:=XS _ l1;have s1:=Ah _ l2;have s3:=Ah _ l4;have s4:=Ah [] (by simp);have s5:=Ah _ l5;have s6:=Ah _ l6;obtain ⟨x0,e0⟩:∃ x,wY c m=x:=⟨_,rfl⟩;obtain ⟨x1,e1⟩:∃ x,R3 c m=x:=⟨_,rfl⟩;obtain ⟨x3,e3⟩:∃ x,an c m (m8.ns c)=x:=⟨_,rfl⟩;obtain ⟨x4,e4⟩:∃ x,xk c s=x:=⟨_,rfl⟩;obtain ⟨x5,e6⟩:∃ x,CX c m=x:=⟨_,rfl⟩;obtain ⟨x6,e7⟩:∃ x,fixC c m=x:=⟨_,rfl⟩;rw [e0] at TS TU s0;rw [e1] at TT TV s1;rw [e3] at Yy YA s3;rw [e4] at SA Yz;rw [e6] at Zv Zy s5;rw [e7] at Zw Zz s6;clear e0 e1 e3 e4 e5 e6 e7 l1 l2 l3 l4 l5 l6 hcl;refine Pf.run [cat c,.d (num m),.d (.str s),.any,.any] rfl rfl rfl rfl ?_
 repeat' (first|refine cl (SA) ?_|refine cl (Yz) ?_|refine cl (TS) ?_|refine cl (TU) ?_|refine cl (s0) ?_|refine cl (TT) ?_|refine cl (TV) ?_|refine cl (s1) ?_|refine cl (Yx) ?_|refine cl (Zx) ?_|refine cl (s4) ?_|refine cl (Yy) ?_|refine cl (YA) ?_|refine cl (s3) ?_|refine cl (Zv) ?_|refine cl (Zy) ?_|refine cl (s5) ?_|refine cl (Zw) ?_|refine cl (Zz) ?_|refine cl (s6) ?_|refine gx ?_|refine fk (h1:=fun hw=> ?_) (h2:=fun hw=> ?_)|refine L7 (h1:=fun hw=> ?_) (h2:=fun hw=> ?_)|refine Ex.H7 ?_|refine Ex.H8 ?_|refine Ex.cond rfl (fun ht=> ?_) (fun ht=> ?_)|refine Ex.test (Rn.text ?_)|refine Ex.test (Rn.draw ?_)|refine ⟨_,rfl,fun ht=> ?_,fun ht=> ?_⟩|refine ⟨_,rfl,?_⟩|fail)
 all_goals simp_all [b8,qL]
end
theorem am3 (c:m8)(hs:B6 c)(n:Int)(s:D8):Pf A 22 [cat c,.d (num n),.d (.str s)] (.d (.bool true)):=by
 cases h:P9 c n with
 |false=>exact am4 c hs n s h
 |true =>
  have h3:=(cq h).2.2;obtain ⟨m,rfl⟩:∃ m:Nat,n=m:=⟨n.toNat,by omega⟩;cases ht:bF c m with
  |false=>exact am6 c hs m s h ht
  |true=>exact am5 c hs m s h ht
end Go.Proofs.YtkmclibmmlgogaaGreat


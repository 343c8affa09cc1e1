/- Texts D59 D62 (made short by a program) -/
import Derived.Test.YtkmclibmmlgogaaGreatX3
set_option linter.unusedVariables false
set_option linter.unusedSimpArgs false
open List renaming length_cons → A2
open Nat renaming le_refl → k9
namespace Go.Proofs.YtkmclibmmlgogaaGreat
open Go.z7 Go.z7.S
attribute [local irreducible] Rx Ry Rn Ex Pf
theorem pz {α:Type}(eq:α->α->Bool)(h:∀ a,eq a a=true):∀ l:List α,U3 eq l l=true
 |[]=>rfl
 |x::l=>by
  have:=pz eq h l;simp_all [U3]
theorem qq (a:Int):o9 a a=true:=by simp [j9]
theorem Ow (a:D6):J4 a a=true:=by simp [B7]
theorem yZ (xs:List Int)(h:xs.length<=100000):Pf A 31 [.d (ints xs),.d (ints xs)] (.d (.bool true)):=by
 have:=aA9 xs xs h
 rwa [pz _ qq] at this
theorem Vx (xs:List D6)(h:xs.length<=100000):Pf A 52 [.d (tY xs),.d (tY xs)] (.d (.bool true)):=by
 have:=aB1 xs xs h
 rwa [pz _ Ow] at this
theorem wk (c:n5)(s:D6):QC c s=wg c s:=by rw [UD];rfl
set_option maxHeartbeats 8000000 in
theorem aa0 (c:n5)(hs:C0 c)(n:Int)(s:D6)(h:P9 c n=false):Pf A 22 [cat c,.d (num n),.d (.str s)] (.d (.bool true)):=by
 have ht:cH c n=false:=by unfold cH;rw [h];rfl
 have Qo:=Vy c hs s;have Wg:=RB c hs s;rw [wk] at Qo;have RH:=ZI c hs n h;have RK:=aa3 c hs n h;have RJ:=ZK c hs n h;have RL:=aa4 c hs n h;have We:=ZY c hs n h;have Xg:=TN c hs n (.inl h);have Wf:=ZZ c hs n h;have Wh:=aa5 c hs n h;have Xd:=TG c hs n ht;have Xh:=TR c hs n ht;have Xe:=TI c hs n ht;have Xi:=TS c hs n ht;have s0:=Vx [] (by simp);have s1:=yZ [] (by simp);refine Pf.run [cat c,.d (num n),.d (.str s),.any,.any] rfl rfl rfl rfl ?_
 repeat' (first|refine cl (Qo) ?_|refine cl (Wg) ?_|refine cl (RH) ?_|refine cl (RK) ?_|refine cl (s0) ?_|refine cl (RJ) ?_|refine cl (RL) ?_|refine cl (s1) ?_|refine cl (We) ?_|refine cl (Xg) ?_|refine cl (Wf) ?_|refine cl (Wh) ?_|refine cl (Xd) ?_|refine cl (Xh) ?_|refine cl (Xe) ?_|refine cl (Xi) ?_|refine gx ?_|refine fk (h1:=fun hw=> ?_) (h2:=fun hw=> ?_)|refine L3 (h1:=fun hw=> ?_) (h2:=fun hw=> ?_)|refine Ex.I4 ?_|refine Ex.I6 ?_|refine Ex.cond rfl (fun ht=> ?_) (fun ht=> ?_)|refine Ex.test (Rn.text ?_)|refine Ex.test (Rn.draw ?_)|refine ⟨_,rfl,fun ht=> ?_,fun ht=> ?_⟩|refine ⟨_,rfl,?_⟩|fail)
 all_goals simp_all [b9,qq]
section
variable (c:n5) (hs:C0 c) (m:Nat) (s:D6) (h:P9 c m=true)
include hs h
theorem Ao:(vQ c m).length<=100000/\(Q5 c m).length<=100000/\(ay c m).length<=100000/\(aa c m (n5.ns c)).length<=100000:=by
 have h2:=fh (fO h);have h3:=(bT h).2.2;have hn:=Hj hs;have hnl:=Z1 c;have a1:=rj hs (n5.ns c) m (by omega) (k9 _) (fun k hk=>h2.1 k (by omega));have a2:=P0 hs (n5.ns c) m (by omega) (k9 _) h2.2.2;have a3:=lN c m (n5.ns c);refine ⟨by omega,by omega,?_,by omega⟩;unfold ay;split
 ·simp
 ·have:=zA (nth c.views ((m:Int) - c.j3.length).toNat) (Wx c)
  omega
set_option maxHeartbeats 8000000 in
theorem aa2 (ht:cH c m=false):Pf A 22 [cat c,.d (num m),.d (.str s)] (.d (.bool true)):=by
 have h4:(c.j3.length:Int)<=m:=by unfold cH at ht;rw [h,Bool.true_and] at ht;exact z8 ht
 obtain ⟨l1,l2,l3,l4⟩:=Ao c hs m h;have Qo:=Vy c hs s;have Wg:=RB c hs s;rw [wk] at Qo;have RH:=Tz c hs m h;have RK:=TM c hs m h;have RJ:=TE c hs m h;have RL:=NQ c hs m h;have We:=TK c hs m h;have Xg:=TP c hs m h h4;have Wf:=TL c hs m h;have Wh:=TQ c hs m h;have Xd:=TG c hs m ht;have Xh:=TR c hs m ht;have Xe:=TI c hs m ht;have Xi:=TS c hs m ht;rw [Int.toNat_natCast] at RH RK RJ RL;have s0:=Vx _ l1;have s1:=yZ _ l2;have s2:=yZ _ l3;have s3:=yZ _ l4;have s4:=yZ [] (by simp);obtain ⟨x0,e0⟩:∃ x,vQ c m=x:=⟨_,rfl⟩;obtain ⟨x1,e1⟩:∃ x,Q5 c m=x:=⟨_,rfl⟩;obtain ⟨x2,e2⟩:∃ x,ay c m=x:=⟨_,rfl⟩;obtain ⟨x3,e3⟩:∃ x,aa c m (n5.ns c)=x:=⟨_,rfl⟩;obtain ⟨x4,e4⟩:∃ x,wg c s=x:=⟨_,rfl⟩;rw [e0] at RH RK s0;rw [e1] at RJ RL s1;rw [e2] at We Xg s2;rw [e3] at Wf Wh s3;rw [e4] at Qo Wg;clear e0 e1 e2 e3 e4 l1 l2 l3 l4;refine Pf.run [cat c,.d (num m),.d (.str s),.any,.any] rfl rfl rfl rfl ?_
 repeat' (first|refine cl (Qo) ?_|refine cl (Wg) ?_|refine cl (RH) ?_|refine cl (RK) ?_|refine cl (s0) ?_|refine cl (RJ) ?_|refine cl (RL) ?_|refine cl (s1) ?_|refine cl (We) ?_|refine cl (Xg) ?_|refine cl (s2) ?_|refine cl (Wf) ?_|refine cl (Wh) ?_|refine cl (s3) ?_|refine cl (Xd) ?_|refine cl (Xh) ?_|refine cl (s4) ?_|refine cl (Xe) ?_|refine cl (Xi) ?_|refine gx ?_|refine fk (h1:=fun hw=> ?_) (h2:=fun hw=> ?_)|refine L3 (h1:=fun hw=> ?_) (h2:=fun hw=> ?_)|refine Ex.I4 ?_|refine Ex.I6 ?_|refine Ex.cond rfl (fun ht=> ?_) (fun ht=> ?_)|refine Ex.test (Rn.text ?_)|refine Ex.test (Rn.draw ?_)|refine ⟨_,rfl,fun ht=> ?_,fun ht=> ?_⟩|refine ⟨_,rfl,?_⟩|fail)
 all_goals simp_all [b9,qq]
set_option maxHeartbeats 8000000 in
theorem aa1 (ht:cH c m=true):Pf A 22 [cat c,.d (num m),.d (.str s)] (.d (.bool true)):=by
 have h4:=(qC ht).2.2;have e5:ay c m=[]:=by unfold ay;rw [show C7 (m:Int) c.j3.length=true by simp only [p8,decide_eq_true_eq];exact h4];rfl
 obtain ⟨l1,l2,l3,l4⟩:=Ao c hs m h;have hcl:=pH (fO h) (n:=m) (by omega);have l5:(BW c m).length<=100000:=by
  have:=qK (nth c.j3 m).m9 (nth c.j3 m).m9.length;unfold BW;rw [Int.toNat_natCast];omega
 have l6:(fixC c m).length<=100000:=by
  have a1:=lM (O6 (vY (nth c.j3 m)));rw [jF] at a1;have a2:=mB hcl.2 (nth c.j3 m).m9.length (k9 _);unfold fixC;rw [Int.toNat_natCast];simp only [vY,A2] at a1 ⊢;omega
 have Qo:=Vy c hs s;have Wg:=RB c hs s;rw [wk] at Qo;have RH:=Tz c hs m h;have RK:=TM c hs m h;have RJ:=TE c hs m h;have RL:=NQ c hs m h;have We:=TK c hs m h;have Xg:=TN c hs m (.inr h4);have Wf:=TL c hs m h;have Wh:=TQ c hs m h;have Xd:=ZN c hs m ht;have Xh:=aa6 c hs m ht;have Xe:=ZR c hs m ht;have Xi:=aa7 c hs m ht;rw [Int.toNat_natCast] at RH RK RJ RL;rw [e5] at We;have s0:=Vx _ l1;have s1:=yZ _ l2;have s3:=yZ _ l4;have s4:=yZ [] (by simp);have s5:=yZ _ l5;have s6:=yZ _ l6;obtain ⟨x0,e0⟩:∃ x,vQ c m=x:=⟨_,rfl⟩;obtain ⟨x1,e1⟩:∃ x,Q5 c m=x:=⟨_,rfl⟩;obtain ⟨x3,e3⟩:∃ x,aa c m (n5.ns c)=x:=⟨_,rfl⟩;obtain ⟨x4,e4⟩:∃ x,wg c s=x:=⟨_,rfl⟩;obtain ⟨x5,e6⟩:∃ x,BW c m=x:=⟨_,rfl⟩;obtain ⟨x6,e7⟩:∃ x,fixC c m=x:=⟨_,rfl⟩;rw [e0] at RH RK s0;rw [e1] at RJ RL s1;rw [e3] at Wf Wh s3;rw [e4] at Qo Wg;rw [e6] at Xd Xh s5;rw [e7] at Xe Xi s6;clear e0 e1 e3 e4 e5 e6 e7 l1 l2 l3 l4 l5 l6 hcl;refine Pf.run [cat c,.d (num m),.d (.str s),.any,.any] rfl rfl rfl rfl ?_
 repeat' (first|refine cl (Qo) ?_|refine cl (Wg) ?_|refine cl (RH) ?_|refine cl (RK) ?_|refine cl (s0) ?_|refine cl (RJ) ?_|refine cl (RL) ?_|refine cl (s1) ?_|refine cl (We) ?_|refine cl (Xg) ?_|refine cl (s4) ?_|refine cl (Wf) ?_|refine cl (Wh) ?_|refine cl (s3) ?_|refine cl (Xd) ?_|refine cl (Xh) ?_|refine cl (s5) ?_|refine cl (Xe) ?_|refine cl (Xi) ?_|refine cl (s6) ?_|refine gx ?_|refine fk (h1:=fun hw=> ?_) (h2:=fun hw=> ?_)|refine L3 (h1:=fun hw=> ?_) (h2:=fun hw=> ?_)|refine Ex.I4 ?_|refine Ex.I6 ?_|refine Ex.cond rfl (fun ht=> ?_) (fun ht=> ?_)|refine Ex.test (Rn.text ?_)|refine Ex.test (Rn.draw ?_)|refine ⟨_,rfl,fun ht=> ?_,fun ht=> ?_⟩|refine ⟨_,rfl,?_⟩|fail)
 all_goals simp_all [b9,qq]
end
theorem aA7 (c:n5)(hs:C0 c)(n:Int)(s:D6):Pf A 22 [cat c,.d (num n),.d (.str s)] (.d (.bool true)):=by
 cases h:P9 c n with
 |false=>exact aa0 c hs n s h
 |true =>
  have h3:=(bT h).2.2;obtain ⟨m,rfl⟩:∃ m:Nat,n=m:=⟨n.toNat,by omega⟩;cases ht:cH c m with
  |false=>exact aa2 c hs m s h ht
  |true=>exact aa1 c hs m s h ht
end Go.Proofs.YtkmclibmmlgogaaGreat


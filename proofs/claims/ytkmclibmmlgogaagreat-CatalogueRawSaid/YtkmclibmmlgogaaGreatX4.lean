/-
  The law's looks.; The law's looks at a store; the law's checks.
  (Put together by a small program out of several texts; blanks left out to keep the folder small.)
-/
import Derived.Test.YtkmclibmmlgogaaGreatX3
import Derived.Test.YtkmclibmmlgogaaGreatX0
import Derived.Test.YtkmclibmmlgogaaGreatB6
set_option linter.unusedVariables false
set_option linter.unusedSimpArgs false
namespace Go.Proofs.YtkmclibmmlgogaaGreat
open Go.Abs Go.Abs.S
attribute [local irreducible] Rx Ry Rn Ex Pf
theorem sameB_self {α:Type}(eq:α→α→Bool)(h:∀ a,eq a a=true):∀ l:List α,sameB eq l l=true
 |[]=>rfl
 |x::l=>by
  have:=sameB_self eq h l
  simp_all [sameB]
theorem eqB_self (a:Int):eqB a a=true:=by simp [eqB_eq]
theorem seB_self (a:Str):seB a a=true:=by simp [seB_eq]
theorem p31s (xs:List Int)(h:xs.length≤100000):Pf A 31 [.d (ints xs),.d (ints xs)] (.d (.bool true)):=by
 have:=pf31 xs xs h
 rwa [sameB_self _ eqB_self] at this
theorem p52s (xs:List Str)(h:xs.length≤100000):Pf A 52 [.d (strs' xs),.d (strs' xs)] (.d (.bool true)):=by
 have:=pf52 xs xs h
 rwa [sameB_self _ seB_self] at this
theorem fnd_same (c:Cat)(s:Str):fndC c s=fndR c s:=by rw [fnd_eq];rfl
set_option maxHeartbeats 8000000 in
theorem pf22n (c:Cat)(hs:Small2 c)(n:Int)(s:Str)(h:isSto c n=false):Pf A 22 [cat c,.d (num n),.d (.str s)] (.d (.bool true)):=by
 have ht:isTab c n=false:=by unfold isTab;rw [h];rfl
 have q25:=pf25 c hs s
 have q51:=pf51 c hs s
 rw [fnd_same] at q25
 have q14:=pf14f c hs n h
 have q53:=pf53f c hs n h
 have q15:=pf15f c hs n h
 have q54:=pf54f c hs n h
 have q19:=pf19f c hs n h
 have q55:=pf55f c hs n (.inl h)
 have q20:=pf20f c hs n h
 have q56:=pf56f c hs n h
 have q16:=pf16f c hs n ht
 have q57:=pf57f c hs n ht
 have q17:=pf17f c hs n ht
 have q58:=pf58f c hs n ht
 have s0:=p52s [] (by simp)
 have s1:=p31s [] (by simp)
 refine Pf.run [cat c,.d (num n),.d (.str s),.any,.any] rfl rfl rfl rfl ?_
 repeat' (first|refine cl (q25) ?_|refine cl (q51) ?_|refine cl (q14) ?_|refine cl (q53) ?_|refine cl (s0) ?_|refine cl (q15) ?_|refine cl (q54) ?_|refine cl (s1) ?_|refine cl (q19) ?_|refine cl (q55) ?_|refine cl (q20) ?_|refine cl (q56) ?_|refine cl (q16) ?_|refine cl (q57) ?_|refine cl (q17) ?_|refine cl (q58) ?_|refine gx ?_|refine fk (h1:=fun hw=> ?_) (h2:=fun hw=> ?_)|refine fpk (h1:=fun hw=> ?_) (h2:=fun hw=> ?_)|refine Ex.condP ?_|refine Ex.condN ?_|refine Ex.cond rfl (fun ht=> ?_) (fun ht=> ?_)|refine Ex.test (Rn.text ?_)|refine Ex.test (Rn.draw ?_)|refine ⟨_,rfl,fun ht=> ?_,fun ht=> ?_⟩|refine ⟨_,rfl,?_⟩|fail)
 all_goals simp_all [oneOrTuple,eqB_self]
end Go.Proofs.YtkmclibmmlgogaaGreat
namespace Go.Proofs.YtkmclibmmlgogaaGreat
open Go.Abs Go.Abs.S
attribute [local irreducible] Rx Ry Rn Ex Pf
section
variable (c:Cat) (hs:Small2 c) (m:Nat) (s:Str) (h:isSto c m=true)
include hs h
theorem sto_small:(cnm c m).length≤100000∧(ctys c m).length≤100000∧(srcC c m).length≤100000∧(depU c m (Cat.ns c)).length≤100000:=by
 have h2:=valid_ok (isSto_v h)
 have h3:=(isSto_t h).2.2
 have hn:=ns_few hs
 have hnl:=names_len c
 have a1:=sto_pos hs (Cat.ns c) m (by omega) (Nat.le_refl _) (fun k hk=>h2.1 k (by omega))
 have a2:=ctys_len hs (Cat.ns c) m (by omega) (Nat.le_refl _) h2.2.2
 have a3:=depU_len c m (Cat.ns c)
 refine ⟨by omega,by omega,?_,by omega⟩
 unfold srcC
 split
 ·simp
 ·have:=dedI_len' (nth c.views ((m:Int) - c.tabs.length).toNat) (sns c)
  omega
set_option maxHeartbeats 8000000 in
theorem pf22v (ht:isTab c m=false):Pf A 22 [cat c,.d (num m),.d (.str s)] (.d (.bool true)):=by
 have h4:(c.tabs.length:Int)≤m:=by unfold isTab at ht;rw [h,Bool.true_and] at ht;exact ltB_f ht
 obtain ⟨l1,l2,l3,l4⟩:=sto_small c hs m h
 have q25:=pf25 c hs s
 have q51:=pf51 c hs s
 rw [fnd_same] at q25
 have q14:=pf14t c hs m h
 have q53:=pf53t c hs m h
 have q15:=pf15t c hs m h
 have q54:=pf54t c hs m h
 have q19:=pf19t c hs m h
 have q55:=pf55v c hs m h h4
 have q20:=pf20t c hs m h
 have q56:=pf56t c hs m h
 have q16:=pf16f c hs m ht
 have q57:=pf57f c hs m ht
 have q17:=pf17f c hs m ht
 have q58:=pf58f c hs m ht
 rw [Int.toNat_natCast] at q14 q53 q15 q54
 have s0:=p52s _ l1
 have s1:=p31s _ l2
 have s2:=p31s _ l3
 have s3:=p31s _ l4
 have s4:=p31s [] (by simp)
 obtain ⟨x0,e0⟩:∃ x,cnm c m=x:=⟨_,rfl⟩
 obtain ⟨x1,e1⟩:∃ x,ctys c m=x:=⟨_,rfl⟩
 obtain ⟨x2,e2⟩:∃ x,srcC c m=x:=⟨_,rfl⟩
 obtain ⟨x3,e3⟩:∃ x,depU c m (Cat.ns c)=x:=⟨_,rfl⟩
 obtain ⟨x4,e4⟩:∃ x,fndR c s=x:=⟨_,rfl⟩
 rw [e0] at q14 q53 s0
 rw [e1] at q15 q54 s1
 rw [e2] at q19 q55 s2
 rw [e3] at q20 q56 s3
 rw [e4] at q25 q51
 clear e0 e1 e2 e3 e4 l1 l2 l3 l4
 refine Pf.run [cat c,.d (num m),.d (.str s),.any,.any] rfl rfl rfl rfl ?_
 repeat' (first|refine cl (q25) ?_|refine cl (q51) ?_|refine cl (q14) ?_|refine cl (q53) ?_|refine cl (s0) ?_|refine cl (q15) ?_|refine cl (q54) ?_|refine cl (s1) ?_|refine cl (q19) ?_|refine cl (q55) ?_|refine cl (s2) ?_|refine cl (q20) ?_|refine cl (q56) ?_|refine cl (s3) ?_|refine cl (q16) ?_|refine cl (q57) ?_|refine cl (s4) ?_|refine cl (q17) ?_|refine cl (q58) ?_|refine gx ?_|refine fk (h1:=fun hw=> ?_) (h2:=fun hw=> ?_)|refine fpk (h1:=fun hw=> ?_) (h2:=fun hw=> ?_)|refine Ex.condP ?_|refine Ex.condN ?_|refine Ex.cond rfl (fun ht=> ?_) (fun ht=> ?_)|refine Ex.test (Rn.text ?_)|refine Ex.test (Rn.draw ?_)|refine ⟨_,rfl,fun ht=> ?_,fun ht=> ?_⟩|refine ⟨_,rfl,?_⟩|fail)
 all_goals simp_all [oneOrTuple,eqB_self]
set_option maxHeartbeats 8000000 in
theorem pf22t (ht:isTab c m=true):Pf A 22 [cat c,.d (num m),.d (.str s)] (.d (.bool true)):=by
 have h4:=(isTab_t ht).2.2
 have e5:srcC c m=[]:=by unfold srcC;rw [show ltB (m:Int) c.tabs.length=true by simp only [ltB_eq,decide_eq_true_eq];exact h4];rfl
 obtain ⟨l1,l2,l3,l4⟩:=sto_small c hs m h
 have hcl:=tab_owners (isSto_v h) (n:=m) (by omega)
 have l5:(perC c m).length≤100000:=by
  have:=perU_len (nth c.tabs m).cols (nth c.tabs m).cols.length
  unfold perC
  rw [Int.toNat_natCast]
  omega
 have l6:(fixC c m).length≤100000:=by
  have a1:=dedI_len (sortI (fixL (nth c.tabs m)))
  rw [sortI_len] at a1
  have a2:=ownU_len hcl.2 (nth c.tabs m).cols.length (Nat.le_refl _)
  unfold fixC
  rw [Int.toNat_natCast]
  simp only [fixL,List.length_cons] at a1 ⊢
  omega
 have q25:=pf25 c hs s
 have q51:=pf51 c hs s
 rw [fnd_same] at q25
 have q14:=pf14t c hs m h
 have q53:=pf53t c hs m h
 have q15:=pf15t c hs m h
 have q54:=pf54t c hs m h
 have q19:=pf19t c hs m h
 have q55:=pf55f c hs m (.inr h4)
 have q20:=pf20t c hs m h
 have q56:=pf56t c hs m h
 have q16:=pf16t c hs m ht
 have q57:=pf57t c hs m ht
 have q17:=pf17t c hs m ht
 have q58:=pf58t c hs m ht
 rw [Int.toNat_natCast] at q14 q53 q15 q54
 rw [e5] at q19
 have s0:=p52s _ l1
 have s1:=p31s _ l2
 have s3:=p31s _ l4
 have s4:=p31s [] (by simp)
 have s5:=p31s _ l5
 have s6:=p31s _ l6
 obtain ⟨x0,e0⟩:∃ x,cnm c m=x:=⟨_,rfl⟩
 obtain ⟨x1,e1⟩:∃ x,ctys c m=x:=⟨_,rfl⟩
 obtain ⟨x3,e3⟩:∃ x,depU c m (Cat.ns c)=x:=⟨_,rfl⟩
 obtain ⟨x4,e4⟩:∃ x,fndR c s=x:=⟨_,rfl⟩
 obtain ⟨x5,e6⟩:∃ x,perC c m=x:=⟨_,rfl⟩
 obtain ⟨x6,e7⟩:∃ x,fixC c m=x:=⟨_,rfl⟩
 rw [e0] at q14 q53 s0
 rw [e1] at q15 q54 s1
 rw [e3] at q20 q56 s3
 rw [e4] at q25 q51
 rw [e6] at q16 q57 s5
 rw [e7] at q17 q58 s6
 clear e0 e1 e3 e4 e5 e6 e7 l1 l2 l3 l4 l5 l6 hcl
 refine Pf.run [cat c,.d (num m),.d (.str s),.any,.any] rfl rfl rfl rfl ?_
 repeat' (first|refine cl (q25) ?_|refine cl (q51) ?_|refine cl (q14) ?_|refine cl (q53) ?_|refine cl (s0) ?_|refine cl (q15) ?_|refine cl (q54) ?_|refine cl (s1) ?_|refine cl (q19) ?_|refine cl (q55) ?_|refine cl (s4) ?_|refine cl (q20) ?_|refine cl (q56) ?_|refine cl (s3) ?_|refine cl (q16) ?_|refine cl (q57) ?_|refine cl (s5) ?_|refine cl (q17) ?_|refine cl (q58) ?_|refine cl (s6) ?_|refine gx ?_|refine fk (h1:=fun hw=> ?_) (h2:=fun hw=> ?_)|refine fpk (h1:=fun hw=> ?_) (h2:=fun hw=> ?_)|refine Ex.condP ?_|refine Ex.condN ?_|refine Ex.cond rfl (fun ht=> ?_) (fun ht=> ?_)|refine Ex.test (Rn.text ?_)|refine Ex.test (Rn.draw ?_)|refine ⟨_,rfl,fun ht=> ?_,fun ht=> ?_⟩|refine ⟨_,rfl,?_⟩|fail)
 all_goals simp_all [oneOrTuple,eqB_self]
end
theorem pf22 (c:Cat)(hs:Small2 c)(n:Int)(s:Str):Pf A 22 [cat c,.d (num n),.d (.str s)] (.d (.bool true)):=by
 cases h:isSto c n with
 |false=>exact pf22n c hs n s h
 |true =>
  have h3:=(isSto_t h).2.2
  obtain ⟨m,rfl⟩:∃ m:Nat,n=m:=⟨n.toNat,by omega⟩
  cases ht:isTab c m with
  |false=>exact pf22v c hs m s h ht
  |true=>exact pf22t c hs m s h ht
end Go.Proofs.YtkmclibmmlgogaaGreat

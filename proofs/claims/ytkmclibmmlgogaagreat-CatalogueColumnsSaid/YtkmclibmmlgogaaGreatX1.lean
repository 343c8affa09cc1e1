/- Texts D48 D49 D50 D51 D55 (made short by a program) -/
import Derived.Test.YtkmclibmmlgogaaGreatX0
set_option linter.unusedVariables false
set_option linter.unusedSimpArgs false
open Bool renaming and_eq_true → b5, not_eq_false' → B4, not_eq_true' → j9
open List renaming mem_cons → B8, take_of_length_le → s6
open Nat renaming le_refl → l5
namespace Go.Proofs.YtkmclibmmlgogaaGreat
open Go.u7 Go.u7.S
attribute [local irreducible] Rx Ry Rn Ex Pf
theorem Ur (c:m9)(hs:E8 c):Pf A 36 [cat c] (.d (.bool (M7 c))):=by
 have p:=as7 c hs;unfold pair at p;refine Pf.run [cat c,.any,.any,.any] rfl rfl rfl rfl ?_
 repeat' (first|refine cl (p) ?_|refine gx ?_|fail)
 exact ⟨_,rfl,rfl⟩
theorem MC (c:m9)(n:Int):dA c n=(n7 n 0 ((c.j3.length:Int)+c.views.length - 1)&&M7 c):=by
 unfold dA n7 m9.ns;rw [Bool.eq_iff_iff];simp only [b5,o5,o9,decide_eq_true_eq];constructor
 ·rintro ⟨h1,h2,h3⟩;exact ⟨⟨h2,by omega⟩,h1⟩
 ·rintro ⟨⟨h2,h3⟩,h1⟩;exact ⟨h1,h2,by omega⟩
theorem at4 (c:m9)(hs:E8 c)(n:Int):Pf A 85 [cat c,.d (num n)] (.d (.bool (dA c n))):=by
 obtain ⟨f0,f1,f2,f3,f4,f5,f6,f7⟩:=id hs.sm.fI;have p36:=Ur c hs;have p95:=oB n 0 ((c.j3.length:Int)+c.views.length - 1);rw [MC];refine Pf.run [cat c,.d (num n),.any,.any] rfl rfl rfl rfl ?_
 repeat' (first|refine cl (p95) ?_|refine cl (p36) ?_|refine gx ?_|refine fk (h1:=fun hw=> ?_) (h2:=fun hw=> ?_)|refine M8 (h1:=fun hw=> ?_) (h2:=fun hw=> ?_)|refine Ex.J6 ?_|refine Ex.J8 ?_|refine Ex.cond rfl (fun ht=> ?_) (fun ht=> ?_)|refine Ex.test (Rn.text ?_)|refine Ex.test (Rn.draw ?_)|refine ⟨_,rfl,fun ht=> ?_,fun ht=> ?_⟩|refine ⟨_,rfl,?_⟩|fail)
 all_goals simp [*,b9]
def sV (c:m9)(n:Int):Bool:=dA c n&&C2 n c.j3.length
theorem mh {c:m9}(h:M7 c=true):br c c.names.length/\tooMany c=false/\nM c (m9.ns c):=by
 have h1:=yG (X2 h);have hnl:=Z9 c;exact ⟨h1.2.2,h1.2.1,S8 (fun m hm=>h1.2.2 m (by omega)) (l5 _)⟩
theorem Be {c:m9}{n:Int}(h:dA c n=true):M7 c=true:=by
 unfold dA at h;rw [b5] at h;exact h.1
def Ku (c:m9)(s:C7):Int:=if M7 c then D4 c s (m9.ns c) else -1
theorem as9 (c:m9)(hs:E8 c)(s:C7):Pf A 51 [cat c,.d (.str s)] (.d (num (Ku c s))):=by
 obtain ⟨f0,f1,f2,f3,f4,f5,f6,f7⟩:=id hs.sm.fI;have aN:m9.ns c=c.j3.length+c.views.length:=rfl;have p36:=Ur c hs;have p84:=Bo c s (m9.ns c) hs.sm.fI (by omega);rw [show ((m9.ns c:Nat):Int)=(c.j3.length:Int)+c.views.length by omega] at p84;refine Pf.run [cat c,.d (.str s),.any,.any] rfl rfl rfl rfl ?_;refine gr ?_;refine tB (!M7 c) ?_ (fun h1=> ?_) (fun h1=> ?_)
 ·repeat' (first|refine cl (p36) ?_|refine gx ?_|refine fk (h1:=fun hw=> ?_) (h2:=fun hw=> ?_)|refine M8 (h1:=fun hw=> ?_) (h2:=fun hw=> ?_)|refine ⟨rfl,rfl,_,rfl,?_⟩|refine ⟨rfl,rfl⟩|fail)
  all_goals exact cc
 ·refine gr ?_
  exact ⟨_,rfl,by unfold Ku;rw [j9] at h1;rw [h1];rfl⟩
 ·repeat' (first|refine cl (p84) ?_|refine gx ?_|fail)
  exact ⟨_,rfl,by unfold Ku;rw [B4] at h1;rw [h1];rfl⟩
theorem YO (c:m9)(hs:E8 c)(n:Int)(h:dA c n=true):Pf A 54 [cat c,.d (num n)] (.d (ints (P8 c n.toNat))):=by
 have p85:=at4 c hs n;rw [h] at p85;have h2:=mh (Be h);have h3:=(mS h).2.2;have p:=(fZ c hs (m9.ns c) n.toNat (by omega) (l5 _) h2.2.2).1;rw [Int.toNat_of_nonneg h3.1] at p;refine Pf.run [cat c,.d (num n),.any,.any] rfl rfl rfl rfl ?_;refine gr ?_;refine tB (false) ?_ (fun h1=> ?_) (fun h1=> ?_)
 ·repeat' (first|refine cl (p85) ?_|refine gx ?_|refine fk (h1:=fun hw=> ?_) (h2:=fun hw=> ?_)|refine M8 (h1:=fun hw=> ?_) (h2:=fun hw=> ?_)|refine ⟨rfl,rfl,_,rfl,?_⟩|refine ⟨rfl,rfl⟩|fail)
  all_goals exact cc
 ·cases h1
 repeat' (first|refine cl (p) ?_|refine gx ?_|fail)
 exact ⟨_,rfl,rfl⟩
def IsL (w:b6)(xs:List Int):Prop:=w= .d (ints xs)\/w=A5 1 (fun n=>[num n]) xs
theorem IsL.as {w:b6}{xs:List Int}(h:IsL w xs):w.F2= .d (ints xs):=by
 rcases h with rfl|rfl<;>rfl
theorem yU (s:C7):∀ (l:List C7) (k i:Nat),0<=A8 s (l.take k) i->A8 s l i=A8 s (l.take k) i
 |[],k,i,h=>by simp
 |d::l,0,i,h=>by simp [A8] at h
 |d::l,k+1,i,h=>by
  simp only [List.take_succ_cons,A8] at h ⊢;split
  ·rfl
  ·rename_i h1
   rw [if_neg h1] at h;exact yU s l k (i+1) h
theorem vi {c:m9}{s:C7}{k:Nat}(h:0<=D4 c s k):A8 s (sns c) 0=D4 c s k:=by
 unfold sns;rw [mc c (l5 _)];unfold D4 at h ⊢;rw [s6 (by rw [Q2];exact l5 _)];exact yU s _ k 0 h
end Go.Proofs.YtkmclibmmlgogaaGreat
namespace Go.Proofs.YtkmclibmmlgogaaGreat
open Go.u7 Go.u7.S
theorem Dm (x s:Int):∀ l:List Int,s ∈ ot x l↔s=x\/s ∈ l
 |[]=>by simp [ot]
 |y::l=>by
  simp only [ot];split
  ·simp
  ·simp only [B8,Dm x s l]
   exact or_left_comm
theorem mV (s:Int):∀ l:List Int,s ∈ T5 l↔s ∈ l
 |[]=>by simp [T5]
 |x::l=>by simp only [T5,Dm,mV s l,B8]
theorem pV (s:Int):∀ l:List Int,s ∈ S6 l↔s ∈ l
 |[]=>by simp [S6]
 |[x]=>by simp [S6]
 |x::y::l=>by
  have ih:=pV s (y::l);simp only [S6];split
  ·rename_i h
   subst h;rw [ih];simp
  ·simp only [B8] at ih ⊢
   rw [ih]
end Go.Proofs.YtkmclibmmlgogaaGreat


/- Texts D48 D49 D50 D51 (made short by a program) -/
import Derived.Test.YtkmclibmmlgogaaGreatX0
set_option linter.unusedVariables false
set_option linter.unusedSimpArgs false
open Bool renaming and_eq_true → b5, false_eq_true → b7, not_eq_false' → A7, not_eq_true' → j5
open List renaming take_of_length_le → q7
open Nat renaming le_refl → k9, lt_or_ge → p9
namespace Go.Proofs.YtkmclibmmlgogaaGreat
open Go.z7 Go.z7.S
attribute [local irreducible] Rx Ry Rn Ex Pf
set_option maxHeartbeats 8000000 in
theorem xb (c:n5)(hs:C0 c):∀ (n s:Nat),s<n->n<=n5.ns c->ot c n->Pf A 86 [cat c,.d (num s)] (.d (A5 encS (vQ c s)))
 |0,s,h,_,_=>absurd h (by omega)
 |n+1,s,h,hn,ho=>by
  have aY:n5.ns c<=2000:=by obtain ⟨f0,f1,_⟩:=hs.sm.fq;unfold n5.ns;omega
  have QZ:n5.ns c=c.j3.length+c.views.length:=rfl
  rcases p9 s n with h1|h1
  ·exact xb c hs n s h1 (by omega) (fun k h1 h2=>ho k h1 (by omega))
  obtain rfl:s=n:=by omega
  have ih:∀ k,k<s->Pf A 86 [cat c,.d (num k)] (.d (A5 encS (vQ c k))):=fun k hk=>xb c hs s k hk (by omega) (fun k h1 h2=>ho k h1 (by omega))
  refine Pf.run [cat c,.d (num s),.any,.any,.any,.any,.any,.any,.any] rfl rfl rfl rfl ?_;refine gr ?_;refine tb (C7 s c.j3.length) (fun h2=> ?_) (fun h2=> ?_)
  ·have h3:=A4 h2
   have hcl:=hs.sm.m9 s (by omega);refine gr ?_;refine Ex.J1 (fun k T H=>∃ (i:Nat) (acc:List D6) (w0 w3 w6 w7 w8:b6),T=[w0,.d (num s),.ptr 0 0,w3,B4 1 encS acc,.d (num i),w6,w7,w8]/\H=[.cells (c.enc.map .d)]/\i+k=(nth c.j3 s).m9.length/\acc=((nth c.j3 s).m9.take i).map Y6.name) (by rintro _ _ _ ⟨_,_,_,_,_,_,_,_,rfl,_⟩;rfl) ?_ (k:=(nth c.j3 s).m9.length) ⟨0,[],_,_,_,_,_,rfl,rfl,by simp,by simp⟩;rintro k _ _ ⟨i,acc,w0,w3,w6,w7,w8,rfl,rfl,hk,hacc⟩;have hl:acc.length=i:=by rw [hacc];simp;omega
   refine Ex.nT ?_
   repeat' (first|refine gx ?_|refine Ex.I4 ?_|refine Ex.I6 ?_|refine Ex.cond rfl (fun ht=> ?_) (fun ht=> ?_)|refine Ex.test (Rn.text ?_)|refine Ex.test (Rn.draw ?_)|refine ⟨_,rfl,fun ht=> ?_,fun ht=> ?_⟩|refine ⟨_,rfl,?_⟩|fail)
   ·have h4:=A4 ht
    refine ⟨k - 1,by omega,i+1,acc++[(nth (nth c.j3 s).m9 i).name],_,_,_,_,_,rfl,rfl,by omega,?_⟩;rw [F6 (by omega),hacc];simp
   ·have h4:=z8 ht
    rw [q7 (by omega)] at hacc;simp only [vQ,ou];rw [if_pos (by omega),<- hacc];rfl
  have h3:=z8 h2;have hv:s - c.j3.length<c.views.length:=by omega
  obtain ⟨o1,o2⟩:=ho s (by omega) (by omega);have b1:=I7 c (nth c.views (s - c.j3.length)).left s;obtain ⟨q1,e1⟩:∃ q:Nat,D4 c (nth c.views (s - c.j3.length)).left s=q:=⟨_,(Int.toNat_of_nonneg o1).symm⟩;have p1:=uH c (nth c.views (s - c.j3.length)).left s hs.sm.fq (by omega);rw [e1] at p1;have t1:=ih q1 (by omega);have hi1:=hs.items _ hv;have hi2:=hs.C2 _ hv
  repeat' (first|refine Vd (e:=(s:Int) - (c.j3.length:Int)) (s - c.j3.length) (h2:= ?_)|refine gx ?_|fail)
  refine tb (o9 (nth c.views (s - c.j3.length)).kind 2) (fun h4=> ?_) (fun h4=> ?_)
  ·repeat' (first|refine cl (p1) ?_|refine cl (t1) ?_|refine gx ?_|fail)
   refine ⟨_,rfl,?_⟩;have hct:vQ c s=nth (BT c s) q1:=by
    unfold vQ ou;rw [if_neg (by omega),h4,if_pos rfl,e1];rfl
   rw [hct,qH c (by omega)];rfl
  refine gr ?_;refine Ex.J1 (fun k T H=>∃ (i:Nat) (acc:List D6) (w0 w1 w2 w3 w5 w8:b6),T=[w0,w1,w2,w3,B4 1 encS acc,w5,.ptr 1 0,.d (num i),w8]/\H=[.cells (c.enc.map .d),.cells ((nth c.views (s - c.j3.length)).enc.map .d)]/\i+k=(nth c.views (s - c.j3.length)).items.length/\acc=((nth c.views (s - c.j3.length)).items.take i).map fun x=>x.name) (by rintro _ _ _ ⟨_,_,_,_,_,_,_,_,_,rfl,_⟩;rfl) ?_ (k:=(nth c.views (s - c.j3.length)).items.length) ⟨0,[],_,_,_,_,_,_,rfl,rfl,by simp,by simp⟩;rintro k _ _ ⟨i,acc,w0,w1,w2,w3,w5,w8,rfl,rfl,hk,hacc⟩;have hl:acc.length=i:=by rw [hacc];simp;omega
  refine Ex.nT ?_;refine Ex.seq ?_;refine tb (C7 i (nth c.views (s - c.j3.length)).items.length) (fun h5=> ?_) (fun h5=> ?_)
  ·have h6:=A4 h5
   refine gr ?_;refine ⟨k - 1,by omega,i+1,acc++[(nth (nth c.views (s - c.j3.length)).items i).name],_,_,_,_,_,_,rfl,rfl,by omega,?_⟩;rw [F6 (by omega),hacc];simp
  have h6:=z8 h5;rw [q7 (by omega)] at hacc;clear h5 h6 hk hl;refine gr ?_;have hl0:acc.length<=1000:=by rw [hacc];simp;omega
  refine Ex.J1 (fun k T H=>∃ (i:Nat) (sw:List D6) (w0 w1 w2 w3 w5 w7:b6),T=[w0,w1,w2,w3,B4 1 encS sw,w5,.ptr 1 0,w7,.d (num i)]/\H=[.cells (c.enc.map .d),.cells ((nth c.views (s - c.j3.length)).enc.map .d)]/\i+k=(nth c.views (s - c.j3.length)).C2.length/\sw=acc++((nth c.views (s - c.j3.length)).C2.take i).map fun x=>x.name) (by rintro _ _ _ ⟨_,_,_,_,_,_,_,_,_,rfl,_⟩;rfl) ?_ (k:=(nth c.views (s - c.j3.length)).C2.length) ⟨0,acc,_,_,_,_,_,_,rfl,rfl,by simp,by simp⟩;rintro k _ _ ⟨i,sw,w0,w1,w2,w3,w5,w7,rfl,rfl,hk,oh⟩;have hl:sw.length=acc.length+i:=by rw [oh];simp;omega
  refine Ex.nT ?_;refine Ex.seq ?_;refine tb (C7 i (nth c.views (s - c.j3.length)).C2.length) (fun h5=> ?_) (fun h5=> ?_)
  ·have h6:=A4 h5
   refine gr ?_;refine ⟨k - 1,by omega,i+1,sw++[(nth (nth c.views (s - c.j3.length)).C2 i).name],_,_,_,_,_,_,rfl,rfl,by omega,?_⟩;rw [F6 (by omega),oh];simp
  ·have h6:=z8 h5
   rw [q7 (by omega)] at oh;refine gr ?_;refine ⟨_,rfl,?_⟩;simp only [vQ,ou];rw [if_neg (by omega),h4,if_neg (by simp)];have e9:(X1 (nth c.views (s - c.j3.length))).map CR.name=sw:=by
    rw [oh,hacc];simp [X1,Function.comp_def]
   rw [e9];rfl
theorem Vz (c:n5)(hs:C0 c):Pf A 36 [cat c] (.d (.bool (K7 c))):=by
 have p:=aA8 c hs;unfold pair at p;refine Pf.run [cat c,.any,.any,.any] rfl rfl rfl rfl ?_
 repeat' (first|refine cl (p) ?_|refine gx ?_|fail)
 exact ⟨_,rfl,rfl⟩
theorem Ng (c:n5)(n:Int):P9 c n=(n8 n 0 ((c.j3.length:Int)+c.views.length - 1)&&K7 c):=by
 unfold P9 n8 n5.ns;rw [Bool.eq_iff_iff];simp only [b5,p5,p8,decide_eq_true_eq];constructor
 ·rintro ⟨h1,h2,h3⟩;exact ⟨⟨h2,by omega⟩,h1⟩
 ·rintro ⟨⟨h2,h3⟩,h1⟩;exact ⟨h1,h2,by omega⟩
theorem BX (c:n5)(hs:C0 c)(n:Int):Pf A 85 [cat c,.d (num n)] (.d (.bool (P9 c n))):=by
 obtain ⟨f0,f1,f2,f3,f4,f5,f6,f7⟩:=id hs.sm.fq;have p36:=Vz c hs;have p95:=pg n 0 ((c.j3.length:Int)+c.views.length - 1);rw [Ng];refine Pf.run [cat c,.d (num n),.any,.any] rfl rfl rfl rfl ?_
 repeat' (first|refine cl (p95) ?_|refine cl (p36) ?_|refine gx ?_|refine fk (h1:=fun hw=> ?_) (h2:=fun hw=> ?_)|refine L3 (h1:=fun hw=> ?_) (h2:=fun hw=> ?_)|refine Ex.I4 ?_|refine Ex.I6 ?_|refine Ex.cond rfl (fun ht=> ?_) (fun ht=> ?_)|refine Ex.test (Rn.text ?_)|refine Ex.test (Rn.draw ?_)|refine ⟨_,rfl,fun ht=> ?_,fun ht=> ?_⟩|refine ⟨_,rfl,?_⟩|fail)
 all_goals simp [*,b9]
def cH (c:n5)(n:Int):Bool:=P9 c n&&C7 n c.j3.length
theorem RC (c:n5)(hs:C0 c)(n:Int):Pf A 90 [cat c,.d (num n)] (.d (.bool (cH c n))):=by
 have wW:=BX c hs n;unfold cH;refine Pf.run [cat c,.d (num n),.any,.any] rfl rfl rfl rfl ?_
 repeat' (first|refine cl (wW) ?_|refine gx ?_|refine fk (h1:=fun hw=> ?_) (h2:=fun hw=> ?_)|refine L3 (h1:=fun hw=> ?_) (h2:=fun hw=> ?_)|refine Ex.I4 ?_|refine Ex.I6 ?_|refine Ex.cond rfl (fun ht=> ?_) (fun ht=> ?_)|refine Ex.test (Rn.text ?_)|refine Ex.test (Rn.draw ?_)|refine ⟨_,rfl,fun ht=> ?_,fun ht=> ?_⟩|refine ⟨_,rfl,?_⟩|fail)
 all_goals simp [*,b9]
theorem fh {c:n5}(h:K7 c=true):bJ c c.names.length/\tooMany c=false/\ot c (n5.ns c):=by
 have h1:=zw (X2 h);have hnl:=Z1 c;exact ⟨h1.2.2,h1.2.1,U0 (fun m hm=>h1.2.2 m (by omega)) (k9 _)⟩
theorem fO {c:n5}{n:Int}(h:P9 c n=true):K7 c=true:=by
 unfold P9 at h;rw [b5] at h;exact h.1
def wg (c:n5)(s:D6):Int:=if K7 c then D4 c s (n5.ns c) else -1
theorem RB (c:n5)(hs:C0 c)(s:D6):Pf A 51 [cat c,.d (.str s)] (.d (num (wg c s))):=by
 obtain ⟨f0,f1,f2,f3,f4,f5,f6,f7⟩:=id hs.sm.fq;have aY:n5.ns c=c.j3.length+c.views.length:=rfl;have p36:=Vz c hs;have p84:=uH c s (n5.ns c) hs.sm.fq (by omega);rw [show ((n5.ns c:Nat):Int)=(c.j3.length:Int)+c.views.length by omega] at p84;refine Pf.run [cat c,.d (.str s),.any,.any] rfl rfl rfl rfl ?_;refine gr ?_;refine tB (!K7 c) ?_ (fun h1=> ?_) (fun h1=> ?_)
 ·repeat' (first|refine cl (p36) ?_|refine gx ?_|refine fk (h1:=fun hw=> ?_) (h2:=fun hw=> ?_)|refine L3 (h1:=fun hw=> ?_) (h2:=fun hw=> ?_)|refine ⟨rfl,rfl,_,rfl,?_⟩|refine ⟨rfl,rfl⟩|fail)
  all_goals exact cc
 ·refine gr ?_
  exact ⟨_,rfl,by unfold wg;rw [j5] at h1;rw [h1];rfl⟩
 ·repeat' (first|refine cl (p84) ?_|refine gx ?_|fail)
  exact ⟨_,rfl,by unfold wg;rw [A7] at h1;rw [h1];rfl⟩
theorem UD (c:n5)(s:D6):wg c s=if K7 c then B8 s (Wx c) 0 else -1:=by
 unfold wg D4 Wx;rw [iB c (k9 _)]
theorem aa3 (c:n5)(hs:C0 c)(n:Int)(h:P9 c n=false):Pf A 53 [cat c,.d (num n)] (.own 1 0 []):=by
 have wW:=BX c hs n;rw [h] at wW;refine Pf.run [cat c,.d (num n),.any,.any] rfl rfl rfl rfl ?_;refine gr ?_;refine tB (true) ?_ (fun h1=> ?_) (fun h1=> ?_)
 ·repeat' (first|refine cl (wW) ?_|refine gx ?_|refine fk (h1:=fun hw=> ?_) (h2:=fun hw=> ?_)|refine L3 (h1:=fun hw=> ?_) (h2:=fun hw=> ?_)|refine ⟨rfl,rfl,_,rfl,?_⟩|refine ⟨rfl,rfl⟩|fail)
  all_goals exact cc
 ·refine gr ?_
  exact ⟨_,rfl,rfl⟩
 ·cases h1
theorem TM (c:n5)(hs:C0 c)(n:Int)(h:P9 c n=true):Pf A 53 [cat c,.d (num n)] (.d (A5 encS (vQ c n.toNat))):=by
 have wW:=BX c hs n;rw [h] at wW;have h2:=fh (fO h);have h3:=(bT h).2.2;have p:=xb c hs (n5.ns c) n.toNat (by omega) (k9 _) h2.2.2;rw [Int.toNat_of_nonneg h3.1] at p;refine Pf.run [cat c,.d (num n),.any,.any] rfl rfl rfl rfl ?_;refine gr ?_;refine tB (false) ?_ (fun h1=> ?_) (fun h1=> ?_)
 ·repeat' (first|refine cl (wW) ?_|refine gx ?_|refine fk (h1:=fun hw=> ?_) (h2:=fun hw=> ?_)|refine L3 (h1:=fun hw=> ?_) (h2:=fun hw=> ?_)|refine ⟨rfl,rfl,_,rfl,?_⟩|refine ⟨rfl,rfl⟩|fail)
  all_goals exact cc
 ·cases h1
 repeat' (first|refine cl (p) ?_|refine gx ?_|fail)
 exact ⟨_,rfl,rfl⟩
theorem aa4 (c:n5)(hs:C0 c)(n:Int)(h:P9 c n=false):Pf A 54 [cat c,.d (num n)] (.own 1 0 []):=by
 have wW:=BX c hs n;rw [h] at wW;refine Pf.run [cat c,.d (num n),.any,.any] rfl rfl rfl rfl ?_;refine gr ?_;refine tB (true) ?_ (fun h1=> ?_) (fun h1=> ?_)
 ·repeat' (first|refine cl (wW) ?_|refine gx ?_|refine fk (h1:=fun hw=> ?_) (h2:=fun hw=> ?_)|refine L3 (h1:=fun hw=> ?_) (h2:=fun hw=> ?_)|refine ⟨rfl,rfl,_,rfl,?_⟩|refine ⟨rfl,rfl⟩|fail)
  all_goals exact cc
 ·refine gr ?_
  exact ⟨_,rfl,rfl⟩
 ·cases h1
theorem NQ (c:n5)(hs:C0 c)(n:Int)(h:P9 c n=true):Pf A 54 [cat c,.d (num n)] (.d (ints (Q5 c n.toNat))):=by
 have wW:=BX c hs n;rw [h] at wW;have h2:=fh (fO h);have h3:=(bT h).2.2;have p:=(gA c hs (n5.ns c) n.toNat (by omega) (k9 _) h2.2.2).1;rw [Int.toNat_of_nonneg h3.1] at p;refine Pf.run [cat c,.d (num n),.any,.any] rfl rfl rfl rfl ?_;refine gr ?_;refine tB (false) ?_ (fun h1=> ?_) (fun h1=> ?_)
 ·repeat' (first|refine cl (wW) ?_|refine gx ?_|refine fk (h1:=fun hw=> ?_) (h2:=fun hw=> ?_)|refine L3 (h1:=fun hw=> ?_) (h2:=fun hw=> ?_)|refine ⟨rfl,rfl,_,rfl,?_⟩|refine ⟨rfl,rfl⟩|fail)
  all_goals exact cc
 ·cases h1
 repeat' (first|refine cl (p) ?_|refine gx ?_|fail)
 exact ⟨_,rfl,rfl⟩
def Z4:List Int->Int->List Int
 |[],n=>[n]
 |x::l,n=>if x<n then x::Z4 l n else if x=n then x::l else n::x::l
theorem Ib:∀ (l:List Int) (n:Int) (i:Nat),i<=l.length->(∀ j,j<i->nth l j<n)->(i<l.length->¬ nth l i<n)->Z4 l n=if i<l.length/\nth l i=n then l else l.take i++[n]++l.drop i
 |[],n,i,h,_,_=>by
  have:i=0:=by simpa using h
  subst this;simp [Z4]
 |x::l,n,0,h,_,h2=>by
  have h4:nth (x::l) 0=x:=K0 (by simp);have h3:¬ x<n:=by have:=h2 (by simp);rwa [h4] at this
  simp only [Z4,h3,if_false,h4];simp
 |x::l,n,i+1,h,h1,h2=>by
  have h0:∀ j,j<l.length->nth (x::l) (j+1)=nth l j:=fun j hj=>by rw [K0 (by simp;omega),K0 hj];simp
  have h3:x<n:=by have:=h1 0 (by omega);rwa [K0 (by simp)] at this
  have hl:i<=l.length:=by simpa using h
  have ih:=Ib l n i hl (fun j hj=>by rw [<- h0 j (by omega)];exact h1 (j+1) (by omega)) (fun hi=>by rw [<- h0 i hi];exact h2 (by simp;omega));simp only [Z4,h3,if_true,ih]
  by_cases hi:i<l.length
  ·rw [h0 i hi]
   by_cases e:nth l i=n
   ·simp [hi,e]
   ·simp [e]
  ·simp [hi]
def SL (w:b6)(xs:List Int):Prop:=w= .d (ints xs)\/w=B4 1 (fun n=>[num n]) xs
theorem SL.as {w:b6}{xs:List Int}(h:SL w xs):w.G9= .d (ints xs):=by
 rcases h with rfl|rfl<;>rfl
set_option maxHeartbeats 2000000 in
theorem VC (l:List Int)(n:Int)(hl:l.length<=10000):∃ w,SL w (Z4 l n)/\Pf A 88 [.d (ints l),.d (num n)] w:=by
 obtain ⟨i,hi1,hi2,hi3⟩:∃ i,i<=l.length/\(∀ j,j<i->nth l j<n)/\(i<l.length->¬ nth l i<n):=by
  clear hl
  induction l with
  |nil=>exact ⟨0,by simp,by simp,by simp⟩
  |cons x l ih =>
   by_cases hx:x<n
   ·obtain ⟨i,h1,h2,h3⟩:=ih
    have h0:∀ j,j<l.length->nth (x::l) (j+1)=nth l j:=fun j hj=>by rw [K0 (by simp;omega),K0 hj];simp
    refine ⟨i+1,by simp;omega,fun j hj=> ?_,fun hi=> ?_⟩
    ·cases j with
     |zero=>rw [K0 (by simp)];exact hx
     |succ j=>rw [h0 j (by omega)];exact h2 j (by omega)
    ·simp at hi
     rw [h0 i hi];exact h3 hi
   ·exact ⟨0,by simp,by simp,fun _=>by rw [K0 (by simp)];exact hx⟩
 have ha:=Ib l n i hi1 hi2 hi3;have key:∀ w,w=(if i<l.length/\nth l i=n then b6.d (ints l) else B4 1 (fun n=>[num n]) (l.take i++[n]++l.drop i))->SL w (Z4 l n):=fun w hw=>by
  rw [ha,hw];split
  ·exact .inl rfl
  ·exact .inr rfl
 refine ⟨_,key _ rfl,?_⟩;refine Pf.run [.d (ints l),.d (num n),.any,.any] rfl rfl rfl rfl ?_;refine gr ?_;refine Ex.J1 (fun k T H=>∃ (j:Nat) (w2:b6),T=[.d (ints l),.d (num n),w2,.d (num j)]/\H=[]/\j+k=i) (by rintro _ _ _ ⟨_,_,_,rfl,_⟩;rfl) ?_ (k:=i) ⟨0,_,rfl,rfl,by simp⟩;rintro k _ _ ⟨j,w2,rfl,rfl,hk⟩;refine Ex.nT ?_;refine Ex.seq ?_;have hj:j<i\/j=i:=by omega
 refine tb (C7 j l.length&&C7 (nth l j) n) (fun h1=> ?_) (fun h1=> ?_)
 ·simp only [b5] at h1
  have h2:=A4 h1.1;have h3:=A4 h1.2;refine gr ?_;refine ⟨k - 1,?_,j+1,_,rfl,rfl,?_⟩
  ·rcases hj with h|rfl
   ·omega
   ·exact absurd h3 (hi3 (by omega))
  ·rcases hj with h|rfl
   ·omega
   ·exact absurd h3 (hi3 (by omega))
 obtain rfl:j=i:=by
  rcases hj with h|h
  ·have:=hi2 j h
   simp only [Bool.and_eq_false_iff] at h1
   rcases h1 with h1|h1
   ·have:=z8 h1;omega
   ·have:=z8 h1;omega
  ·exact h
 refine gr ?_;refine tb (C7 j l.length&&o9 (nth l j) n) (fun h4=> ?_) (fun h4=> ?_)
 ·simp only [b5] at h4
  have h2:=A4 h4.1;have h3:=X2 h4.2;refine gr ?_;exact ⟨_,rfl,by rw [if_pos ⟨by omega,h3⟩];rfl⟩
 ·have e:¬ (j<l.length/\nth l j=n):=by
   rintro ⟨g1,g2⟩;simp only [Bool.and_eq_false_iff] at h4
   rcases h4 with h4|h4
   ·have:=z8 h4;omega
   ·exact qp h4 g2
  rw [if_neg e];refine gr ?_;exact ⟨_,rfl,rfl⟩
theorem zM (s:D6):∀ (l:List D6) (k i:Nat),0<=B8 s (l.take k) i->B8 s l i=B8 s (l.take k) i
 |[],k,i,h=>by simp
 |d::l,0,i,h=>by simp [B8] at h
 |d::l,k+1,i,h=>by
  simp only [List.take_succ_cons,B8] at h ⊢;split
  ·rfl
  ·rename_i h1
   rw [if_neg h1] at h;exact zM s l k (i+1) h
theorem lS {c:n5}{s:D6}{k:Nat}(h:0<=D4 c s k):B8 s (Wx c) 0=D4 c s k:=by
 unfold Wx;rw [iB c (k9 _)];unfold D4 at h ⊢;rw [q7 (by rw [R2];exact k9 _)];exact zM s _ k 0 h
theorem ak0 (i j:Int):Z4 [i] j=O2 (O6 [i,j]):=by
 rcases Int.lt_trichotomy i j with h|h|h
 ·simp only [Z4,O6,fA,if_pos h,if_pos (show i<=j by omega),O2]
  rw [if_neg (by omega)]
 ·subst h
  simp [Z4,O6,fA,O2]
 ·simp only [Z4,O6,fA,if_neg (show ¬ i<j by omega),if_neg (show ¬ i<=j by omega),if_neg (show ¬ i=j by omega),O2,if_neg (show ¬ j=i by omega)]
theorem Ln {c:n5}{n:Int}(h:P9 c n=true)(ht:c.j3.length<=n):0<=D4 c (nth c.views (n - c.j3.length).toNat).left n.toNat/\(J4 (nth c.views (n - c.j3.length).toNat).right []=false->0<=D4 c (nth c.views (n - c.j3.length).toNat).right n.toNat):=by
 have h2:=(fh (fO h)).2.2;have h3:=(bT h).2.2;have h4:=h2 n.toNat (by omega) (by omega);rw [show n.toNat - c.j3.length=(n - c.j3.length).toNat by omega] at h4;exact h4
theorem TN (c:n5)(hs:C0 c)(n:Int)(h:P9 c n=false\/n<c.j3.length):Pf A 55 [cat c,.d (num n)] (.own 1 0 []):=by
 have wW:=BX c hs n;have e:(!P9 c n||C7 n c.j3.length)=true:=by
  rcases h with h|h
  ·rw [h];rfl
  ·have:C7 n c.j3.length=true:=by rw [p8];simpa using h
   rw [this];simp
 refine Pf.run [cat c,.d (num n),.any,.any,.any,.any] rfl rfl rfl rfl ?_;refine gr ?_;refine tB (!P9 c n||C7 n c.j3.length) ?_ (fun h1=> ?_) (fun h1=> ?_)
 ·repeat' (first|refine cl (wW) ?_|refine gx ?_|refine fk (h1:=fun hw=> ?_) (h2:=fun hw=> ?_)|refine L3 (h1:=fun hw=> ?_) (h2:=fun hw=> ?_)|refine ⟨rfl,rfl,_,rfl,?_⟩|refine ⟨rfl,rfl⟩|fail)
  all_goals exact cc
 ·refine gr ?_
  exact ⟨_,rfl,rfl⟩
 ·rw [e] at h1;cases h1
theorem TP (c:n5)(hs:C0 c)(n:Int)(h:P9 c n=true)(ht:c.j3.length<=n):Pf A 55 [cat c,.d (num n)] (.d (ints (ay c n))):=by
 have aY:n5.ns c=c.j3.length+c.views.length:=rfl;obtain ⟨f0,f1,f2,f3,f4,f5,f6,f7⟩:=id hs.sm.fq;have wW:=BX c hs n;have h3:=(bT h).2.2;have e:(!P9 c n||C7 n c.j3.length)=false:=by
  have:C7 n c.j3.length=false:=by rw [p8];simpa using ht
  rw [h,this];rfl
 have hk:=Ln h ht;obtain ⟨s,rfl⟩:∃ s:Nat,n=s:=⟨n.toNat,(Int.toNat_of_nonneg h3.1).symm⟩;obtain ⟨v,hv⟩:∃ v,nth c.views (s - c.j3.length)=v:=⟨_,rfl⟩;have Re:((s:Int) - (c.j3.length:Int)).toNat=s - c.j3.length:=by omega
 rw [Re,hv,Int.toNat_natCast] at hk;have uD:s - c.j3.length<c.views.length:=by omega
 have p1:=uH c v.left s hs.sm.fq (by omega);have p2:=uH c v.right s hs.sm.fq (by omega);have e1:ay c s=if J4 v.right [] then [D4 c v.left s] else Z4 [D4 c v.left s] (D4 c v.right s):=by
  unfold ay nP;rw [show C7 (s:Int) c.j3.length=false by rw [p8];simp;omega,Re,hv,lS hk.1];cases g:J4 v.right [] with
  |true=>simp [O6,fA,O2]
  |false=>simp only [b7,if_false];rw [lS (hk.2 g),ak0]
 obtain ⟨w,hw,NH⟩:=VC [D4 c v.left s] (D4 c v.right s) (by simp);refine Pf.run [cat c,.d (num s),.any,.any,.any,.any] rfl rfl rfl rfl ?_;refine gr ?_;refine tB (!P9 c s||C7 s c.j3.length) ?_ (fun h1=> ?_) (fun h1=> ?_)
 ·repeat' (first|refine cl (wW) ?_|refine gx ?_|refine fk (h1:=fun hw=> ?_) (h2:=fun hw=> ?_)|refine L3 (h1:=fun hw=> ?_) (h2:=fun hw=> ?_)|refine ⟨rfl,rfl,_,rfl,?_⟩|refine ⟨rfl,rfl⟩|fail)
  all_goals exact cc
 ·rw [e] at h1;cases h1
 repeat' (first|refine Vd (e:=(s:Int) - (c.j3.length:Int)) (s - c.j3.length) (h2:= ?_)|refine gx ?_|fail)
 rw [hv]
 repeat' (first|refine cl (p1) ?_|refine gx ?_|fail)
 refine tb (!J4 v.right []) (fun h2=> ?_) (fun h2=> ?_)
 ·rw [j5] at h2
  rw [h2,if_neg (by simp)] at e1
  rcases hw with rfl|rfl
  ·repeat' (first|refine cl (p2) ?_|refine cl (NH) ?_|refine gx ?_|fail)
   exact ⟨_,rfl,by rw [e1];rfl⟩
  ·repeat' (first|refine cl (p2) ?_|refine cl (NH) ?_|refine gx ?_|fail)
   exact ⟨_,rfl,by rw [e1];rfl⟩
 ·rw [A7] at h2
  rw [h2,if_pos rfl] at e1;refine gr ?_;exact ⟨_,rfl,by rw [e1];rfl⟩
end Go.Proofs.YtkmclibmmlgogaaGreat


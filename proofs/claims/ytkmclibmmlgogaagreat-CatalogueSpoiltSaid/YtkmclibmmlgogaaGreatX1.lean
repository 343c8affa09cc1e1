/- Texts D48 D49 D50 D51 D55 (made short by a program) -/
import Derived.Test.YtkmclibmmlgogaaGreatX0
set_option linter.unusedVariables false
set_option linter.unusedSimpArgs false
open Bool renaming and_eq_true → b5, false_eq_true → b7, not_eq_false' → A9, not_eq_true' → j5
open List renaming mem_cons → C6, take_of_length_le → q5
open Nat renaming le_refl → n5, lt_or_ge → u9
namespace Go.Proofs.YtkmclibmmlgogaaGreat
open Go.y3 Go.y3.S
attribute [local irreducible] Rx Ry Rn Ex Pf
set_option maxHeartbeats 8000000 in
theorem ya (c:m8)(hs:B6 c):∀ (n s:Nat),s<n->n<=m8.ns c->oM c n->Pf A 86 [cat c,.d (num s)] (.d (z6 encS (wY c s)))
 |0,s,h,_,_=>absurd h (by omega)
 |n+1,s,h,hn,ho=>by
  have cz:m8.ns c<=2000:=by obtain ⟨f0,f1,_⟩:=hs.sm.fI;unfold m8.ns;omega
  have Tq:m8.ns c=c.j3.length+c.views.length:=rfl
  rcases u9 s n with h1|h1
  ·exact ya c hs n s h1 (by omega) (fun k h1 h2=>ho k h1 (by omega))
  obtain rfl:s=n:=by omega
  have ih:∀ k,k<s->Pf A 86 [cat c,.d (num k)] (.d (z6 encS (wY c k))):=fun k hk=>ya c hs s k hk (by omega) (fun k h1 h2=>ho k h1 (by omega))
  refine Pf.run [cat c,.d (num s),.any,.any,.any,.any,.any,.any,.any] rfl rfl rfl rfl ?_;refine gr ?_;refine tb (C9 s c.j3.length) (fun h2=> ?_) (fun h2=> ?_)
  ·have h3:=y9 h2
   have hcl:=hs.sm.m7 s (by omega);refine gr ?_;refine Ex.J0 (fun k T H=>∃ (i:Nat) (acc:List D8) (w0 w3 w6 w7 w8:b6),T=[w0,.d (num s),.ptr 0 0,w3,B3 1 encS acc,.d (num i),w6,w7,w8]/\H=[.cells (c.enc.map .d)]/\i+k=(nth c.j3 s).m7.length/\acc=((nth c.j3 s).m7.take i).map Y5.name) (by rintro _ _ _ ⟨_,_,_,_,_,_,_,_,rfl,_⟩;rfl) ?_ (k:=(nth c.j3 s).m7.length) ⟨0,[],_,_,_,_,_,rfl,rfl,by simp,by simp⟩;rintro k _ _ ⟨i,acc,w0,w3,w6,w7,w8,rfl,rfl,hk,hacc⟩;have hl:acc.length=i:=by rw [hacc];simp;omega
   refine Ex.nT ?_
   repeat' (first|refine gx ?_|refine Ex.H7 ?_|refine Ex.H8 ?_|refine Ex.cond rfl (fun ht=> ?_) (fun ht=> ?_)|refine Ex.test (Rn.text ?_)|refine Ex.test (Rn.draw ?_)|refine ⟨_,rfl,fun ht=> ?_,fun ht=> ?_⟩|refine ⟨_,rfl,?_⟩|fail)
   ·have h4:=y9 ht
    refine ⟨k - 1,by omega,i+1,acc++[(nth (nth c.j3 s).m7 i).name],_,_,_,_,_,rfl,rfl,by omega,?_⟩;rw [F7 (by omega),hacc];simp
   ·have h4:=y8 ht
    rw [q5 (by omega)] at hacc;simp only [wY,oN];rw [if_pos (by omega),<- hacc];rfl
  have h3:=y8 h2;have hv:s - c.j3.length<c.views.length:=by omega
  obtain ⟨o1,o2⟩:=ho s (by omega) (by omega);have b1:=I6 c (nth c.views (s - c.j3.length)).left s;obtain ⟨q1,e1⟩:∃ q:Nat,D5 c (nth c.views (s - c.j3.length)).left s=q:=⟨_,(Int.toNat_of_nonneg o1).symm⟩;have p1:=vu c (nth c.views (s - c.j3.length)).left s hs.sm.fI (by omega);rw [e1] at p1;have t1:=ih q1 (by omega);have hi1:=hs.items _ hv;have hi2:=hs.C1 _ hv
  repeat' (first|refine Xe (e:=(s:Int) - (c.j3.length:Int)) (s - c.j3.length) (h2:= ?_)|refine gx ?_|fail)
  refine tb (o9 (nth c.views (s - c.j3.length)).kind 2) (fun h4=> ?_) (fun h4=> ?_)
  ·repeat' (first|refine cl (p1) ?_|refine cl (t1) ?_|refine gx ?_|fail)
   refine ⟨_,rfl,?_⟩;have hct:wY c s=nth (CU c s) q1:=by
    unfold wY oN;rw [if_neg (by omega),h4,if_pos rfl,e1];rfl
   rw [hct,rj c (by omega)];rfl
  refine gr ?_;refine Ex.J0 (fun k T H=>∃ (i:Nat) (acc:List D8) (w0 w1 w2 w3 w5 w8:b6),T=[w0,w1,w2,w3,B3 1 encS acc,w5,.ptr 1 0,.d (num i),w8]/\H=[.cells (c.enc.map .d),.cells ((nth c.views (s - c.j3.length)).enc.map .d)]/\i+k=(nth c.views (s - c.j3.length)).items.length/\acc=((nth c.views (s - c.j3.length)).items.take i).map fun x=>x.name) (by rintro _ _ _ ⟨_,_,_,_,_,_,_,_,_,rfl,_⟩;rfl) ?_ (k:=(nth c.views (s - c.j3.length)).items.length) ⟨0,[],_,_,_,_,_,_,rfl,rfl,by simp,by simp⟩;rintro k _ _ ⟨i,acc,w0,w1,w2,w3,w5,w8,rfl,rfl,hk,hacc⟩;have hl:acc.length=i:=by rw [hacc];simp;omega
  refine Ex.nT ?_;refine Ex.seq ?_;refine tb (C9 i (nth c.views (s - c.j3.length)).items.length) (fun h5=> ?_) (fun h5=> ?_)
  ·have h6:=y9 h5
   refine gr ?_;refine ⟨k - 1,by omega,i+1,acc++[(nth (nth c.views (s - c.j3.length)).items i).name],_,_,_,_,_,_,rfl,rfl,by omega,?_⟩;rw [F7 (by omega),hacc];simp
  have h6:=y8 h5;rw [q5 (by omega)] at hacc;clear h5 h6 hk hl;refine gr ?_;have hl0:acc.length<=1000:=by rw [hacc];simp;omega
  refine Ex.J0 (fun k T H=>∃ (i:Nat) (sX:List D8) (w0 w1 w2 w3 w5 w7:b6),T=[w0,w1,w2,w3,B3 1 encS sX,w5,.ptr 1 0,w7,.d (num i)]/\H=[.cells (c.enc.map .d),.cells ((nth c.views (s - c.j3.length)).enc.map .d)]/\i+k=(nth c.views (s - c.j3.length)).C1.length/\sX=acc++((nth c.views (s - c.j3.length)).C1.take i).map fun x=>x.name) (by rintro _ _ _ ⟨_,_,_,_,_,_,_,_,_,rfl,_⟩;rfl) ?_ (k:=(nth c.views (s - c.j3.length)).C1.length) ⟨0,acc,_,_,_,_,_,_,rfl,rfl,by simp,by simp⟩;rintro k _ _ ⟨i,sX,w0,w1,w2,w3,w5,w7,rfl,rfl,hk,oI⟩;have hl:sX.length=acc.length+i:=by rw [oI];simp;omega
  refine Ex.nT ?_;refine Ex.seq ?_;refine tb (C9 i (nth c.views (s - c.j3.length)).C1.length) (fun h5=> ?_) (fun h5=> ?_)
  ·have h6:=y9 h5
   refine gr ?_;refine ⟨k - 1,by omega,i+1,sX++[(nth (nth c.views (s - c.j3.length)).C1 i).name],_,_,_,_,_,_,rfl,rfl,by omega,?_⟩;rw [F7 (by omega),oI];simp
  ·have h6:=y8 h5
   rw [q5 (by omega)] at oI;refine gr ?_;refine ⟨_,rfl,?_⟩;simp only [wY,oN];rw [if_neg (by omega),h4,if_neg (by simp)];have e9:(X1 (nth c.views (s - c.j3.length))).map DP.name=sX:=by
    rw [oI,hacc];simp [X1,Function.comp_def]
   rw [e9];rfl
theorem XT (c:m8)(hs:B6 c):Pf A 36 [cat c] (.d (.bool (J3 c))):=by
 have p:=aN5 c hs;unfold pair at p;refine Pf.run [cat c,.any,.any,.any] rfl rfl rfl rfl ?_
 repeat' (first|refine cl (p) ?_|refine gx ?_|fail)
 exact ⟨_,rfl,rfl⟩
theorem Pd (c:m8)(n:Int):P9 c n=(n7 n 0 ((c.j3.length:Int)+c.views.length - 1)&&J3 c):=by
 unfold P9 n7 m8.ns;rw [Bool.eq_iff_iff];simp only [b5,p4,p5,decide_eq_true_eq];constructor
 ·rintro ⟨h1,h2,h3⟩;exact ⟨⟨h2,by omega⟩,h1⟩
 ·rintro ⟨⟨h2,h3⟩,h1⟩;exact ⟨h1,h2,by omega⟩
theorem CY (c:m8)(hs:B6 c)(n:Int):Pf A 85 [cat c,.d (num n)] (.d (.bool (P9 c n))):=by
 obtain ⟨f0,f1,f2,f3,f4,f5,f6,f7⟩:=id hs.sm.fI;have p36:=XT c hs;have p95:=qa n 0 ((c.j3.length:Int)+c.views.length - 1);rw [Pd];refine Pf.run [cat c,.d (num n),.any,.any] rfl rfl rfl rfl ?_
 repeat' (first|refine cl (p95) ?_|refine cl (p36) ?_|refine gx ?_|refine fk (h1:=fun hw=> ?_) (h2:=fun hw=> ?_)|refine L7 (h1:=fun hw=> ?_) (h2:=fun hw=> ?_)|refine Ex.H7 ?_|refine Ex.H8 ?_|refine Ex.cond rfl (fun ht=> ?_) (fun ht=> ?_)|refine Ex.test (Rn.text ?_)|refine Ex.test (Rn.draw ?_)|refine ⟨_,rfl,fun ht=> ?_,fun ht=> ?_⟩|refine ⟨_,rfl,?_⟩|fail)
 all_goals simp [*,b8]
def bF (c:m8)(n:Int):Bool:=P9 c n&&C9 n c.j3.length
theorem TM (c:m8)(hs:B6 c)(n:Int):Pf A 90 [cat c,.d (num n)] (.d (.bool (bF c n))):=by
 have xW:=CY c hs n;unfold bF;refine Pf.run [cat c,.d (num n),.any,.any] rfl rfl rfl rfl ?_
 repeat' (first|refine cl (xW) ?_|refine gx ?_|refine fk (h1:=fun hw=> ?_) (h2:=fun hw=> ?_)|refine L7 (h1:=fun hw=> ?_) (h2:=fun hw=> ?_)|refine Ex.H7 ?_|refine Ex.H8 ?_|refine Ex.cond rfl (fun ht=> ?_) (fun ht=> ?_)|refine Ex.test (Rn.text ?_)|refine Ex.test (Rn.draw ?_)|refine ⟨_,rfl,fun ht=> ?_,fun ht=> ?_⟩|refine ⟨_,rfl,?_⟩|fail)
 all_goals simp [*,b8]
theorem fC {c:m8}(h:J3 c=true):bW c c.names.length/\tooMany c=false/\oM c (m8.ns c):=by
 have h1:=Ax (X2 h);have hnl:=Z3 c;exact ⟨h1.2.2,h1.2.1,U1 (fun m hm=>h1.2.2 m (by omega)) (n5 _)⟩
theorem gf {c:m8}{n:Int}(h:P9 c n=true):J3 c=true:=by
 unfold P9 at h;rw [b5] at h;exact h.1
def xk (c:m8)(s:D8):Int:=if J3 c then D5 c s (m8.ns c) else -1
theorem TL (c:m8)(hs:B6 c)(s:D8):Pf A 51 [cat c,.d (.str s)] (.d (num (xk c s))):=by
 obtain ⟨f0,f1,f2,f3,f4,f5,f6,f7⟩:=id hs.sm.fI;have cz:m8.ns c=c.j3.length+c.views.length:=rfl;have p36:=XT c hs;have p84:=vu c s (m8.ns c) hs.sm.fI (by omega);rw [show ((m8.ns c:Nat):Int)=(c.j3.length:Int)+c.views.length by omega] at p84;refine Pf.run [cat c,.d (.str s),.any,.any] rfl rfl rfl rfl ?_;refine gr ?_;refine tB (!J3 c) ?_ (fun h1=> ?_) (fun h1=> ?_)
 ·repeat' (first|refine cl (p36) ?_|refine gx ?_|refine fk (h1:=fun hw=> ?_) (h2:=fun hw=> ?_)|refine L7 (h1:=fun hw=> ?_) (h2:=fun hw=> ?_)|refine ⟨rfl,rfl,_,rfl,?_⟩|refine ⟨rfl,rfl⟩|fail)
  all_goals exact cc
 ·refine gr ?_
  exact ⟨_,rfl,by unfold xk;rw [j5] at h1;rw [h1];rfl⟩
 ·repeat' (first|refine cl (p84) ?_|refine gx ?_|fail)
  exact ⟨_,rfl,by unfold xk;rw [A9] at h1;rw [h1];rfl⟩
theorem WC (c:m8)(s:D8):xk c s=if J3 c then C0 s (YR c) 0 else -1:=by
 unfold xk D5 YR;rw [iS c (n5 _)]
theorem am7 (c:m8)(hs:B6 c)(n:Int)(h:P9 c n=false):Pf A 53 [cat c,.d (num n)] (.own 1 0 []):=by
 have xW:=CY c hs n;rw [h] at xW;refine Pf.run [cat c,.d (num n),.any,.any] rfl rfl rfl rfl ?_;refine gr ?_;refine tB (true) ?_ (fun h1=> ?_) (fun h1=> ?_)
 ·repeat' (first|refine cl (xW) ?_|refine gx ?_|refine fk (h1:=fun hw=> ?_) (h2:=fun hw=> ?_)|refine L7 (h1:=fun hw=> ?_) (h2:=fun hw=> ?_)|refine ⟨rfl,rfl,_,rfl,?_⟩|refine ⟨rfl,rfl⟩|fail)
  all_goals exact cc
 ·refine gr ?_
  exact ⟨_,rfl,rfl⟩
 ·cases h1
theorem VH (c:m8)(hs:B6 c)(n:Int)(h:P9 c n=true):Pf A 53 [cat c,.d (num n)] (.d (z6 encS (wY c n.toNat))):=by
 have xW:=CY c hs n;rw [h] at xW;have h2:=fC (gf h);have h3:=(cq h).2.2;have p:=ya c hs (m8.ns c) n.toNat (by omega) (n5 _) h2.2.2;rw [Int.toNat_of_nonneg h3.1] at p;refine Pf.run [cat c,.d (num n),.any,.any] rfl rfl rfl rfl ?_;refine gr ?_;refine tB (false) ?_ (fun h1=> ?_) (fun h1=> ?_)
 ·repeat' (first|refine cl (xW) ?_|refine gx ?_|refine fk (h1:=fun hw=> ?_) (h2:=fun hw=> ?_)|refine L7 (h1:=fun hw=> ?_) (h2:=fun hw=> ?_)|refine ⟨rfl,rfl,_,rfl,?_⟩|refine ⟨rfl,rfl⟩|fail)
  all_goals exact cc
 ·cases h1
 repeat' (first|refine cl (p) ?_|refine gx ?_|fail)
 exact ⟨_,rfl,rfl⟩
theorem am8 (c:m8)(hs:B6 c)(n:Int)(h:P9 c n=false):Pf A 54 [cat c,.d (num n)] (.own 1 0 []):=by
 have xW:=CY c hs n;rw [h] at xW;refine Pf.run [cat c,.d (num n),.any,.any] rfl rfl rfl rfl ?_;refine gr ?_;refine tB (true) ?_ (fun h1=> ?_) (fun h1=> ?_)
 ·repeat' (first|refine cl (xW) ?_|refine gx ?_|refine fk (h1:=fun hw=> ?_) (h2:=fun hw=> ?_)|refine L7 (h1:=fun hw=> ?_) (h2:=fun hw=> ?_)|refine ⟨rfl,rfl,_,rfl,?_⟩|refine ⟨rfl,rfl⟩|fail)
  all_goals exact cc
 ·refine gr ?_
  exact ⟨_,rfl,rfl⟩
 ·cases h1
theorem Qd (c:m8)(hs:B6 c)(n:Int)(h:P9 c n=true):Pf A 54 [cat c,.d (num n)] (.d (ints (R3 c n.toNat))):=by
 have xW:=CY c hs n;rw [h] at xW;have h2:=fC (gf h);have h3:=(cq h).2.2;have p:=(gR c hs (m8.ns c) n.toNat (by omega) (n5 _) h2.2.2).1;rw [Int.toNat_of_nonneg h3.1] at p;refine Pf.run [cat c,.d (num n),.any,.any] rfl rfl rfl rfl ?_;refine gr ?_;refine tB (false) ?_ (fun h1=> ?_) (fun h1=> ?_)
 ·repeat' (first|refine cl (xW) ?_|refine gx ?_|refine fk (h1:=fun hw=> ?_) (h2:=fun hw=> ?_)|refine L7 (h1:=fun hw=> ?_) (h2:=fun hw=> ?_)|refine ⟨rfl,rfl,_,rfl,?_⟩|refine ⟨rfl,rfl⟩|fail)
  all_goals exact cc
 ·cases h1
 repeat' (first|refine cl (p) ?_|refine gx ?_|fail)
 exact ⟨_,rfl,rfl⟩
def Z7:List Int->Int->List Int
 |[],n=>[n]
 |x::l,n=>if x<n then x::Z7 l n else if x=n then x::l else n::x::l
theorem Jp:∀ (l:List Int) (n:Int) (i:Nat),i<=l.length->(∀ j,j<i->nth l j<n)->(i<l.length->¬ nth l i<n)->Z7 l n=if i<l.length/\nth l i=n then l else l.take i++[n]++l.drop i
 |[],n,i,h,_,_=>by
  have:i=0:=by simpa using h
  subst this;simp [Z7]
 |x::l,n,0,h,_,h2=>by
  have h4:nth (x::l) 0=x:=K0 (by simp);have h3:¬ x<n:=by have:=h2 (by simp);rwa [h4] at this
  simp only [Z7,h3,if_false,h4];simp
 |x::l,n,i+1,h,h1,h2=>by
  have h0:∀ j,j<l.length->nth (x::l) (j+1)=nth l j:=fun j hj=>by rw [K0 (by simp;omega),K0 hj];simp
  have h3:x<n:=by have:=h1 0 (by omega);rwa [K0 (by simp)] at this
  have hl:i<=l.length:=by simpa using h
  have ih:=Jp l n i hl (fun j hj=>by rw [<- h0 j (by omega)];exact h1 (j+1) (by omega)) (fun hi=>by rw [<- h0 i hi];exact h2 (by simp;omega));simp only [Z7,h3,if_true,ih]
  by_cases hi:i<l.length
  ·rw [h0 i hi]
   by_cases e:nth l i=n
   ·simp [hi,e]
   ·simp [e]
  ·simp [hi]
def UL (w:b6)(xs:List Int):Prop:=w= .d (ints xs)\/w=B3 1 (fun n=>[num n]) xs
theorem UL.as {w:b6}{xs:List Int}(h:UL w xs):w.G4= .d (ints xs):=by
 rcases h with rfl|rfl<;>rfl
set_option maxHeartbeats 2000000 in
theorem XW (l:List Int)(n:Int)(hl:l.length<=10000):∃ w,UL w (Z7 l n)/\Pf A 88 [.d (ints l),.d (num n)] w:=by
 obtain ⟨i,hi1,hi2,hi3⟩:∃ i,i<=l.length/\(∀ j,j<i->nth l j<n)/\(i<l.length->¬ nth l i<n):=by
  clear hl
  induction l with
  |nil=>exact ⟨0,by simp,by simp,by simp⟩
  |cons x l ih =>
   by_cases hx:x<n
   ·obtain ⟨i,h1,h2,h3⟩:=ih
    have h0:∀ j,j<l.length->nth (x::l) (j+1)=nth l j:=fun j hj=>by rw [K0 (by simp;omega),K0 hj];simp
    refine ⟨i+1,by simp;omega,fun j hj=> ?_,fun hi=> ?_⟩
    ·cases j with
     |zero=>rw [K0 (by simp)];exact hx
     |succ j=>rw [h0 j (by omega)];exact h2 j (by omega)
    ·simp at hi
     rw [h0 i hi];exact h3 hi
   ·exact ⟨0,by simp,by simp,fun _=>by rw [K0 (by simp)];exact hx⟩
 have ha:=Jp l n i hi1 hi2 hi3;have key:∀ w,w=(if i<l.length/\nth l i=n then b6.d (ints l) else B3 1 (fun n=>[num n]) (l.take i++[n]++l.drop i))->UL w (Z7 l n):=fun w hw=>by
  rw [ha,hw];split
  ·exact .inl rfl
  ·exact .inr rfl
 refine ⟨_,key _ rfl,?_⟩;refine Pf.run [.d (ints l),.d (num n),.any,.any] rfl rfl rfl rfl ?_;refine gr ?_;refine Ex.J0 (fun k T H=>∃ (j:Nat) (w2:b6),T=[.d (ints l),.d (num n),w2,.d (num j)]/\H=[]/\j+k=i) (by rintro _ _ _ ⟨_,_,_,rfl,_⟩;rfl) ?_ (k:=i) ⟨0,_,rfl,rfl,by simp⟩;rintro k _ _ ⟨j,w2,rfl,rfl,hk⟩;refine Ex.nT ?_;refine Ex.seq ?_;have hj:j<i\/j=i:=by omega
 refine tb (C9 j l.length&&C9 (nth l j) n) (fun h1=> ?_) (fun h1=> ?_)
 ·simp only [b5] at h1
  have h2:=y9 h1.1;have h3:=y9 h1.2;refine gr ?_;refine ⟨k - 1,?_,j+1,_,rfl,rfl,?_⟩
  ·rcases hj with h|rfl
   ·omega
   ·exact absurd h3 (hi3 (by omega))
  ·rcases hj with h|rfl
   ·omega
   ·exact absurd h3 (hi3 (by omega))
 obtain rfl:j=i:=by
  rcases hj with h|h
  ·have:=hi2 j h
   simp only [Bool.and_eq_false_iff] at h1
   rcases h1 with h1|h1
   ·have:=y8 h1;omega
   ·have:=y8 h1;omega
  ·exact h
 refine gr ?_;refine tb (C9 j l.length&&o9 (nth l j) n) (fun h4=> ?_) (fun h4=> ?_)
 ·simp only [b5] at h4
  have h2:=y9 h4.1;have h3:=X2 h4.2;refine gr ?_;exact ⟨_,rfl,by rw [if_pos ⟨by omega,h3⟩];rfl⟩
 ·have e:¬ (j<l.length/\nth l j=n):=by
   rintro ⟨g1,g2⟩;simp only [Bool.and_eq_false_iff] at h4
   rcases h4 with h4|h4
   ·have:=y8 h4;omega
   ·exact mz h4 g2
  rw [if_neg e];refine gr ?_;exact ⟨_,rfl,rfl⟩
theorem AL (s:D8):∀ (l:List D8) (k i:Nat),0<=C0 s (l.take k) i->C0 s l i=C0 s (l.take k) i
 |[],k,i,h=>by simp
 |d::l,0,i,h=>by simp [C0] at h
 |d::l,k+1,i,h=>by
  simp only [List.take_succ_cons,C0] at h ⊢;split
  ·rfl
  ·rename_i h1
   rw [if_neg h1] at h;exact AL s l k (i+1) h
theorem mB {c:m8}{s:D8}{k:Nat}(h:0<=D5 c s k):C0 s (YR c) 0=D5 c s k:=by
 unfold YR;rw [iS c (n5 _)];unfold D5 at h ⊢;rw [q5 (by rw [S0];exact n5 _)];exact AL s _ k 0 h
theorem ax1 (i j:Int):Z7 [i] j=Q4 (Q6 [i,j]):=by
 rcases Int.lt_trichotomy i j with h|h|h
 ·simp only [Z7,Q6,iu,if_pos h,if_pos (show i<=j by omega),Q4]
  rw [if_neg (by omega)]
 ·subst h
  simp [Z7,Q6,iu,Q4]
 ·simp only [Z7,Q6,iu,if_neg (show ¬ i<j by omega),if_neg (show ¬ i<=j by omega),if_neg (show ¬ i=j by omega),Q4,if_neg (show ¬ j=i by omega)]
theorem MU {c:m8}{n:Int}(h:P9 c n=true)(ht:c.j3.length<=n):0<=D5 c (nth c.views (n - c.j3.length).toNat).left n.toNat/\(J2 (nth c.views (n - c.j3.length).toNat).right []=false->0<=D5 c (nth c.views (n - c.j3.length).toNat).right n.toNat):=by
 have h2:=(fC (gf h)).2.2;have h3:=(cq h).2.2;have h4:=h2 n.toNat (by omega) (by omega);rw [show n.toNat - c.j3.length=(n - c.j3.length).toNat by omega] at h4;exact h4
theorem VI (c:m8)(hs:B6 c)(n:Int)(h:P9 c n=false\/n<c.j3.length):Pf A 55 [cat c,.d (num n)] (.own 1 0 []):=by
 have xW:=CY c hs n;have e:(!P9 c n||C9 n c.j3.length)=true:=by
  rcases h with h|h
  ·rw [h];rfl
  ·have:C9 n c.j3.length=true:=by rw [p5];simpa using h
   rw [this];simp
 refine Pf.run [cat c,.d (num n),.any,.any,.any,.any] rfl rfl rfl rfl ?_;refine gr ?_;refine tB (!P9 c n||C9 n c.j3.length) ?_ (fun h1=> ?_) (fun h1=> ?_)
 ·repeat' (first|refine cl (xW) ?_|refine gx ?_|refine fk (h1:=fun hw=> ?_) (h2:=fun hw=> ?_)|refine L7 (h1:=fun hw=> ?_) (h2:=fun hw=> ?_)|refine ⟨rfl,rfl,_,rfl,?_⟩|refine ⟨rfl,rfl⟩|fail)
  all_goals exact cc
 ·refine gr ?_
  exact ⟨_,rfl,rfl⟩
 ·rw [e] at h1;cases h1
theorem VJ (c:m8)(hs:B6 c)(n:Int)(h:P9 c n=true)(ht:c.j3.length<=n):Pf A 55 [cat c,.d (num n)] (.d (ints (aG c n))):=by
 have cz:m8.ns c=c.j3.length+c.views.length:=rfl;obtain ⟨f0,f1,f2,f3,f4,f5,f6,f7⟩:=id hs.sm.fI;have xW:=CY c hs n;have h3:=(cq h).2.2;have e:(!P9 c n||C9 n c.j3.length)=false:=by
  have:C9 n c.j3.length=false:=by rw [p5];simpa using ht
  rw [h,this];rfl
 have hk:=MU h ht;obtain ⟨s,rfl⟩:∃ s:Nat,n=s:=⟨n.toNat,(Int.toNat_of_nonneg h3.1).symm⟩;obtain ⟨v,hv⟩:∃ v,nth c.views (s - c.j3.length)=v:=⟨_,rfl⟩;have Ve:((s:Int) - (c.j3.length:Int)).toNat=s - c.j3.length:=by omega
 rw [Ve,hv,Int.toNat_natCast] at hk;have vM:s - c.j3.length<c.views.length:=by omega
 have p1:=vu c v.left s hs.sm.fI (by omega);have p2:=vu c v.right s hs.sm.fI (by omega);have e1:aG c s=if J2 v.right [] then [D5 c v.left s] else Z7 [D5 c v.left s] (D5 c v.right s):=by
  unfold aG ov;rw [show C9 (s:Int) c.j3.length=false by rw [p5];simp;omega,Ve,hv,mB hk.1];cases g:J2 v.right [] with
  |true=>simp [Q6,iu,Q4]
  |false=>simp only [b7,if_false];rw [mB (hk.2 g),ax1]
 obtain ⟨w,hw,PR⟩:=XW [D5 c v.left s] (D5 c v.right s) (by simp);refine Pf.run [cat c,.d (num s),.any,.any,.any,.any] rfl rfl rfl rfl ?_;refine gr ?_;refine tB (!P9 c s||C9 s c.j3.length) ?_ (fun h1=> ?_) (fun h1=> ?_)
 ·repeat' (first|refine cl (xW) ?_|refine gx ?_|refine fk (h1:=fun hw=> ?_) (h2:=fun hw=> ?_)|refine L7 (h1:=fun hw=> ?_) (h2:=fun hw=> ?_)|refine ⟨rfl,rfl,_,rfl,?_⟩|refine ⟨rfl,rfl⟩|fail)
  all_goals exact cc
 ·rw [e] at h1;cases h1
 repeat' (first|refine Xe (e:=(s:Int) - (c.j3.length:Int)) (s - c.j3.length) (h2:= ?_)|refine gx ?_|fail)
 rw [hv]
 repeat' (first|refine cl (p1) ?_|refine gx ?_|fail)
 refine tb (!J2 v.right []) (fun h2=> ?_) (fun h2=> ?_)
 ·rw [j5] at h2
  rw [h2,if_neg (by simp)] at e1
  rcases hw with rfl|rfl
  ·repeat' (first|refine cl (p2) ?_|refine cl (PR) ?_|refine gx ?_|fail)
   exact ⟨_,rfl,by rw [e1];rfl⟩
  ·repeat' (first|refine cl (p2) ?_|refine cl (PR) ?_|refine gx ?_|fail)
   exact ⟨_,rfl,by rw [e1];rfl⟩
 ·rw [A9] at h2
  rw [h2,if_pos rfl] at e1;refine gr ?_;exact ⟨_,rfl,by rw [e1];rfl⟩
end Go.Proofs.YtkmclibmmlgogaaGreat
namespace Go.Proofs.YtkmclibmmlgogaaGreat
open Go.y3 Go.y3.S
theorem Ju:∀ {l m:List Int},l.Pairwise (·<·)->m.Pairwise (·<·)->(∀ s,s ∈ l↔s ∈ m)->l=m
 |[],[],_,_,_=>rfl
 |[],y::m,_,_,h=>absurd ((h y).2 (by simp)) (by simp)
 |x::l,[],_,_,h=>absurd ((h x).1 (by simp)) (by simp)
 |x::l,y::m,h1,h2,h=>by
  obtain ⟨a1,b1⟩:=List.pairwise_cons.1 h1;obtain ⟨a2,b2⟩:=List.pairwise_cons.1 h2;have hx:=(h x).1 (by simp);have hy:=(h y).2 (by simp);have e:x=y:=by
   simp only [C6] at hx hy
   rcases hx with hx|hx
   ·exact hx
   ·rcases hy with hy|hy
    ·exact hy.symm
    ·have:=a1 y hy
     have:=a2 x hx;omega
  subst e
  congr 1
  refine Ju b1 b2 fun s=>⟨fun hs=> ?_,fun hs=> ?_⟩
  ·have:=a1 s hs
   have h3:=(h s).1 (by simp [hs]);simp only [C6] at h3
   rcases h3 with h3|h3
   ·omega
   ·exact h3
  ·have:=a2 s hs
   have h3:=(h s).2 (by simp [hs]);simp only [C6] at h3
   rcases h3 with h3|h3
   ·omega
   ·exact h3
theorem xI (x s:Int):∀ l:List Int,s ∈ iu x l↔s=x\/s ∈ l
 |[]=>by simp [iu]
 |y::l=>by
  simp only [iu];split
  ·simp
  ·simp only [C6,xI x s l]
   exact or_left_comm
theorem tD (s:Int):∀ l:List Int,s ∈ Q6 l↔s ∈ l
 |[]=>by simp [Q6]
 |x::l=>by simp only [Q6,xI,tD s l,C6]
theorem FJ (x:Int):∀ l:List Int,l.Pairwise (·<=·)->(iu x l).Pairwise (·<=·)
 |[],_=>by simp [iu]
 |y::l,h=>by
  obtain ⟨a,b⟩:=List.pairwise_cons.1 h;simp only [iu];split
  ·rename_i hx
   refine List.pairwise_cons.2 ⟨fun s hs=> ?_,h⟩;simp only [C6] at hs
   rcases hs with rfl|hs
   ·exact hx
   ·have:=a s hs;omega
  ·rename_i hx
   refine List.pairwise_cons.2 ⟨fun s hs=> ?_,FJ x l b⟩;rw [xI] at hs
   rcases hs with rfl|hs
   ·omega
   ·exact a s hs
theorem Bf:∀ l:List Int,(Q6 l).Pairwise (·<=·)
 |[]=>by simp [Q6]
 |x::l=>FJ x _ (Bf l)
theorem qX (s:Int):∀ l:List Int,s ∈ Q4 l↔s ∈ l
 |[]=>by simp [Q4]
 |[x]=>by simp [Q4]
 |x::y::l=>by
  have ih:=qX s (y::l);simp only [Q4];split
  ·rename_i h
   subst h;rw [ih];simp
  ·simp only [C6] at ih ⊢
   rw [ih]
theorem DY:∀ l:List Int,l.Pairwise (·<=·)->(Q4 l).Pairwise (·<·)
 |[],_=>by simp [Q4]
 |[x],_=>by simp [Q4]
 |x::y::l,h=>by
  obtain ⟨a,b⟩:=List.pairwise_cons.1 h;have ih:=DY (y::l) b;simp only [Q4];split
  ·exact ih
  ·rename_i hx
   refine List.pairwise_cons.2 ⟨fun s hs=> ?_,ih⟩;rw [qX] at hs;have h1:=a y (by simp);simp only [C6] at hs
   rcases hs with rfl|hs
   ·omega
   ·have:=(List.pairwise_cons.1 b).1 s hs
    omega
theorem xH (x s:Int):∀ l:List Int,s ∈ Z7 l x↔s=x\/s ∈ l
 |[]=>by simp [Z7]
 |y::l=>by
  have ih:=xH x s l;simp only [Z7];split
  ·simp only [C6,ih]
   exact or_left_comm
  ·split
   ·rename_i h
    subst h;simp
   ·simp
theorem DX (x:Int):∀ l:List Int,l.Pairwise (·<·)->(Z7 l x).Pairwise (·<·)
 |[],_=>by simp [Z7]
 |y::l,h=>by
  obtain ⟨a,b⟩:=List.pairwise_cons.1 h;simp only [Z7];split
  ·rename_i hx
   refine List.pairwise_cons.2 ⟨fun s hs=> ?_,DX x l b⟩;rw [xH] at hs
   rcases hs with rfl|hs
   ·exact hx
   ·exact a s hs
  ·split
   ·exact h
   ·refine List.pairwise_cons.2 ⟨fun s hs=> ?_,h⟩
    simp only [C6] at hs
    rcases hs with rfl|hs
    ·omega
    ·have:=a s hs;omega
theorem Jq:∀ (xs l:List Int),l.Pairwise (·<·)->(xs.foldl Z7 l).Pairwise (·<·)/\∀ s,s ∈ xs.foldl Z7 l↔s ∈ l\/s ∈ xs
 |[],l,h=>⟨h,fun s=>by simp⟩
 |x::xs,l,h=>by
  obtain ⟨h1,h2⟩:=Jq xs (Z7 l x) (DX x l h);refine ⟨h1,fun s=> ?_⟩;simp only [List.foldl_cons,h2,xH,C6];constructor
  ·rintro ((h|h)|h)<;>simp [h]
  ·rintro (h|h|h)<;>simp [h]
theorem fix_eq (x:Int)(xs:List Int):xs.foldl Z7 [x]=Q4 (Q6 (x::xs)):=by
 obtain ⟨h1,h2⟩:=Jq xs [x] (by simp);refine Ju h1 (DY _ (Bf _)) fun s=> ?_
 rw [h2,qX,tD];simp
end Go.Proofs.YtkmclibmmlgogaaGreat


/- Texts T11 T12 (made short by a program) -/
import Derived.Test.YtkmclibmmlgogaaGreatT2
set_option linter.unusedVariables false
set_option linter.unusedSimpArgs false
open List renaming drop_of_length_le → m7, length_cons → y8, mem_singleton → p8, take_of_length_le → s6
open Nat renaming le_refl → l5, lt_or_ge → p7
namespace Go.Proofs.YtkmclibmmlgogaaGreat
open Go.u7 Go.u7.S Go.u7.Sh
attribute [local irreducible] Rx Ry Rn Ex Pf
theorem CB {c:m9}(ho:nM c (m9.ns c)):∀ n k,k<n->k<m9.ns c->(FY c k).length=(P8 c k).length
 |0,k,h,_=>absurd h (by omega)
 |n+1,k,h,hk=>by
  unfold FY P8 th gh;split
  ·simp
  ·rename_i ht
   have h1:=(ho k (by omega) hk).1;have h2:=G8 c (nth c.views (k - c.j3.length)).left k;split
   ·have e1:=pY c (k:=k) (j:=(D4 c (nth c.views (k - c.j3.length)).left k).toNat) (by omega)
    have e2:=U1 c (k:=k) (j:=(D4 c (nth c.views (k - c.j3.length)).left k).toNat) (by omega);exact (congrArg List.length e1).trans ((CB ho n _ (by omega) (by omega)).trans (congrArg List.length e2).symm)
   ·simp [W9,V2]
theorem built {xs:List Int}(hx:xs.length<=17592186043904):∃ (c:m9) (q:Nat),M7 c=true/\E8 c/\Pm A 12 [.d (ints xs)] [] bK (.ptr 0 0) [tp xs 0]/\Pm A 13 [.ptr 0 0] [tp xs 0] l1 (cat c) [tp xs q]:=by
 obtain ⟨v,H1,⟨rfl,rfl⟩,Yj⟩:=au6 xs hx;obtain ⟨v,H1,⟨o,o1,o2,o3⟩,VQ⟩:=(o13 (by omega) ⟨[],[],[],[],[],[],[],[]⟩:s13.ok (dn xs _) A).2 [.ptr 0 0] [tp xs 0] (by
  simp only [s13,Sh.r9.g];exact ⟨_,_,rfl,rfl,rfl⟩) (by
  simp only [s13,Sh.E7.g];exact ⟨_,_,rfl,⟨0,Nat.zero_le _,rfl⟩,rfl⟩)
 have:=p8.1 o1;subst this;simp only [Sh.E7.g] at o3;obtain ⟨_,_,rfl,⟨q,_,rfl⟩,rfl⟩:=o3;simp only [Sh.SV.g] at o2;obtain ⟨cs,rfl,h0,h⟩:=o2;obtain ⟨ds,rfl,_⟩:=PR h0;obtain ⟨c,hc,h1,h2⟩:=h 0 rfl;have e:(ds.map b6.d).map b6.F2=ds.map b6.d:=by simp [b6.F2]
 rw [e] at hc;rw [hc] at VQ;exact ⟨c,q,h1,h2,Yj,VQ⟩
theorem Uq (xs:List Int)(n:Int)(hx:xs.length<=100000):Pf A 18 [.d (ints xs),.d (num n)] (.d (.bool (hasB xs n))):=by
 refine Pf.run [.d (ints xs),.d (num n),.any,.any] rfl rfl rfl rfl ?_;refine gr ?_;refine Ex.I7 (fun k T H=>∃ (i:Nat) (v:b6),T=[.d (ints xs),.d (num n),v,.d (num i)]/\H=[]/\i+k=xs.length/\hasB xs n=(xs.drop i).any fun x=>o8 x n) (by rintro _ _ _ ⟨_,_,_,rfl,_⟩;rfl) ?_ (k:=xs.length) ⟨0,_,rfl,rfl,by simp,by simp [hasB]⟩;rintro k _ _ ⟨i,v,rfl,rfl,hk,hi⟩;refine Ex.nT ?_
 repeat' (first|refine gx ?_|refine Ex.J6 ?_|refine Ex.J8 ?_|refine Ex.cond rfl (fun ht=> ?_) (fun ht=> ?_)|refine Ex.test (Rn.text ?_)|refine Ex.test (Rn.draw ?_)|refine ⟨_,rfl,fun ht=> ?_,fun ht=> ?_⟩|refine ⟨_,rfl,?_⟩|fail)
 ·have h1:=z6 ‹C2 i _=true›
  rw [A4 (by omega)] at hi;simp [hi,ht,b9]
 ·have h1:=z6 ‹C2 i _=true›
  rw [A4 (by omega)] at hi;exact ⟨k - 1,by omega,i+1,_,rfl,rfl,by omega,by simp [hi,ht]⟩
 ·have h1:=z8 ht
  rw [m7 (by omega)] at hi;simp [hi,b9]
theorem AX {xs:List Int}{n:Int}(h:n ∈ xs):hasB xs n=true:=by
 simp only [hasB,List.any_eq_true];exact ⟨n,h,Me n⟩
theorem Dz {m8:List W6}{s:Int}:∀ k,s ∈ oA m8 k->0<=s/\s<k
 |0,h=>by simp [oA] at h
 |k+1,h=>by
  simp only [oA,List.mem_append] at h
  rcases h with h|h
  ·have:=Dz k h;omega
  ·split at h<;>simp at h;omega
theorem QF {t:er}{i:Nat}{o:Int}(hi:i<t.m8.length)(h:o ∈ (nth t.m8 i).A7):o ∈ S6 (T5 (vk t)):=by
 rw [pV,mV];refine List.mem_cons_of_mem _ ?_;unfold nj;rw [s6 (l5 _)];exact List.mem_flatMap.2 ⟨_,S1 hi,h⟩
theorem Lk {c:m9}(hv:M7 c=true)(hs:E8 c){i:Nat}(hi:i<m9.ns c):∃ (a:List C7) (b:List Int),Pf A 14 [cat c,.d (num i)] (.d (y7 encS a))/\Pf A 15 [cat c,.d (num i)] (.d (ints b))/\a.length=b.length/\1<=b.length/\b.length<=8/\∀ x,x ∈ b->x=1\/x=2:=by
 have h:=lu hv hi;have h1:=Yx c hs i h;have h2:=Yz c hs i h;rw [Int.toNat_natCast] at h1 h2;have h3:=rC hv _ i (Nat.lt_succ_self _) hi;exact ⟨_,_,h1,h2,CB (mh hv).2.2 _ i (Nat.lt_succ_self _) hi,h3⟩
theorem Lm {c:m9}(hv:M7 c=true)(hs:E8 c){i:Nat}(hi:i<c.j3.length):∃ (p f:List Int),Pf A 16 [cat c,.d (num i)] (.d (ints p))/\Pf A 17 [cat c,.d (num i)] (.d (ints f))/\p.length<=8/\f.length<=100000/\(nth c.j3 i).m8.length<=8/\(∀ x,x ∈ p->0<=x/\x<(nth c.j3 i).m8.length) /\
  (∀ j,j<(nth c.j3 i).m8.length->(nth (nth c.j3 i).m8 j).A7.length<=8/\∀ o,o ∈ (nth (nth c.j3 i).m8 j).A7->o ∈ f):=by
 have aN:m9.ns c=c.j3.length+c.views.length:=rfl;have h:=lu hv (show i<m9.ns c by omega);have ht:sV c i=true:=by unfold sV;rw [h];simp [o9];omega
 have hcl:=xb hv hi;have h5:=wk (nth c.j3 i).m8 (nth c.j3 i).m8.length;have h6:(fixC c i).length<=100000:=by
  have a1:=kP (T5 (vk (nth c.j3 i)));rw [jj] at a1;have a2:=qa hcl.2 (nth c.j3 i).m8.length (l5 _);unfold fixC;rw [Int.toNat_natCast];simp only [vk,y8] at a1 ⊢;omega
 refine ⟨_,_,YC c hs i ht,YG c hs i ht,?_,h6,hcl.1,?_,fun j hj=>⟨hcl.2 j hj,fun o ho=> ?_⟩⟩
 ·unfold Nb;rw [Int.toNat_natCast];omega
 ·intro x hx;unfold Nb at hx;rw [Int.toNat_natCast] at hx;exact Dz _ hx
 ·unfold fixC;rw [Int.toNat_natCast];exact QF hj ho
set_option maxHeartbeats 8000000 in
theorem pf4 {xs:List Int}(hx:xs.length<=17592186043904):Pf A 4 [.d (ints xs)] (.d (.bool true)):=by
 obtain ⟨c,q,hv,hs,Yj,VQ⟩:=built hx;have aN:m9.ns c=c.j3.length+c.views.length:=rfl;obtain ⟨f0,f1,_⟩:=id hs.sm.fI;refine Pf.run [.d (ints xs),.any,.any,.any,.any,.any,.any,.any,.any,.any,.any,.any,.any] rfl rfl rfl rfl ?_
 repeat' (first|refine cp Yj (Nat.zero_le _) ?_|refine c0 VQ rfl (h2:= ?_)|refine gx ?_|fail)
 refine Ex.I7 (fun k T H=>∃ (i:Nat) (w0 w1 w4 w5 w6 w7 w8 w9 gm ep xX:b6),T=[w0,w1,.ptr 1 0,.d (num i),w4,w5,w6,w7,w8,w9,gm,ep,xX]/\H=[tp xs q,.cells (c.enc.map .d)]/\i+k=m9.ns c) (by rintro _ _ _ ⟨_,_,_,_,_,_,_,_,_,_,_,_,rfl,rfl,_⟩;rfl) ?_ (k:=m9.ns c) ⟨0,_,_,_,_,_,_,_,_,_,_,_,rfl,rfl,by simp⟩;rintro k _ _ ⟨i,_,_,_,_,_,_,_,_,_,_,_,rfl,rfl,hk⟩;refine Ex.nT ?_;refine Ex.seq ?_;refine tb (C2 i ((c.j3.length:Int)+c.views.length)) (fun g1=> ?_) (fun g1=> ?_)
 ·have g2:=z6 g1
  obtain ⟨a,b,p14,p15,e1,e2,e3,e4⟩:=Lk hv hs (i:=i) (by omega)
  repeat' (first|refine cl (p14) ?_|refine cl (p15) ?_|refine gx ?_|fail)
  refine tB (false) ?_ (fun g3=> ?_) (fun g3=> ?_)
  ·repeat' (first|refine cl (j5,o9,e1) ?_|refine gx ?_|refine fk (h1:=fun hw=> ?_) (h2:=fun hw=> ?_)|refine M8 (h1:=fun hw=> ?_) (h2:=fun hw=> ?_)|refine ⟨rfl,rfl,_,rfl,?_⟩|refine ⟨rfl,rfl⟩|fail)
   all_goals exact cc
  ·cases g3
  refine gr ?_;refine Ex.I7 (fun k T H=>∃ (j:Nat) (w0 w1 w4 w7 w8 w9 gm ep xX:b6),T=[w0,w1,.ptr 1 0,.d (num i),w4,.d (ints b),.d (num j),w7,w8,w9,gm,ep,xX]/\H=[tp xs q,.cells (c.enc.map .d)]/\j+k=b.length) (by rintro _ _ _ ⟨_,_,_,_,_,_,_,_,_,_,rfl,rfl,_⟩;rfl) ?_ (k:=b.length) ⟨0,_,_,_,_,_,_,_,_,_,rfl,rfl,by simp⟩;rintro m _ _ ⟨j,_,_,_,_,_,_,_,_,_,rfl,rfl,hm⟩;refine Ex.nT ?_;refine Ex.seq ?_;refine tb (C2 j b.length) (fun g3=> ?_) (fun g3=> ?_)
  ·have g4:=z6 g3
   have e5:=e4 _ (S1 (l:=b) (i:=j) (by omega));refine gr ?_;refine tB (false) ?_ (fun g5=> ?_) (fun g5=> ?_)
   ·repeat' (first|refine cl (j5) ?_|refine gx ?_|refine fk (h1:=fun hw=> ?_) (h2:=fun hw=> ?_)|refine M8 (h1:=fun hw=> ?_) (h2:=fun hw=> ?_)|refine ⟨rfl,rfl,_,rfl,?_⟩|refine ⟨rfl,rfl⟩|fail)
    all_goals exact cc
   ·cases g5
   refine gr ?_;exact ⟨m - 1,by omega,j+1,_,_,_,_,_,_,_,_,_,rfl,rfl,by omega⟩
  ·refine gr ?_
   exact ⟨k - 1,by omega,i+1,_,_,_,_,_,_,_,_,_,_,_,rfl,rfl,by omega⟩
 ·refine gr ?_
  refine Ex.I7 (fun k T H=>∃ (i:Nat) (w0 w1 w3 w4 w5 w6 w8 w9 gm ep xX:b6),T=[w0,w1,.ptr 1 0,w3,w4,w5,w6,.d (num i),w8,w9,gm,ep,xX]/\H=[tp xs q,.cells (c.enc.map .d)]/\i+k=c.j3.length) (by rintro _ _ _ ⟨_,_,_,_,_,_,_,_,_,_,_,_,rfl,rfl,_⟩;rfl) ?_ (k:=c.j3.length) ⟨0,_,_,_,_,_,_,_,_,_,_,_,rfl,rfl,by simp⟩;rintro k _ _ ⟨i,_,_,_,_,_,_,_,_,_,_,_,rfl,rfl,hk⟩;refine Ex.nT ?_;refine Ex.seq ?_;refine tb (C2 i c.j3.length) (fun g2=> ?_) (fun g2=> ?_)
  ·have g3:=z6 g2
   obtain ⟨p,f,p16,p17,e1,e2,e3,e4,e5⟩:=Lm hv hs (i:=i) (by omega)
   repeat' (first|refine cl (p16) ?_|refine cl (p17) ?_|refine gx ?_|fail)
   refine Ex.I7 (fun k T H=>∃ (j:Nat) (w0 w1 w3 w4 w5 w6 ep xX:b6),T=[w0,w1,.ptr 1 0,w3,w4,w5,w6,.d (num i),.d (ints p),.d (ints f),.d (num j),ep,xX]/\H=[tp xs q,.cells (c.enc.map .d)]/\j+k=p.length) (by rintro _ _ _ ⟨_,_,_,_,_,_,_,_,_,rfl,rfl,_⟩;rfl) ?_ (k:=p.length) ⟨0,_,_,_,_,_,_,_,_,rfl,rfl,by simp⟩;rintro m _ _ ⟨j,_,_,_,_,_,_,_,_,rfl,rfl,hm⟩;refine Ex.nT ?_;refine Ex.seq ?_;refine tb (C2 j p.length) (fun g4=> ?_) (fun g4=> ?_)
   ·have g5:=z6 g4
    have h1:=e4 _ (S1 (l:=p) (i:=j) (by omega));have h2:=e5 (nth p j).toNat (by omega);refine gr ?_;refine tB (false) ?_ (fun g6=> ?_) (fun g6=> ?_)
    ·repeat' (first|refine cl (o9,o5) ?_|refine gx ?_|refine fk (h1:=fun hw=> ?_) (h2:=fun hw=> ?_)|refine M8 (h1:=fun hw=> ?_) (h2:=fun hw=> ?_)|refine ⟨rfl,rfl,_,rfl,?_⟩|refine ⟨rfl,rfl⟩|fail)
     all_goals exact cc
    ·cases g6
    refine gr ?_;obtain ⟨o,ho⟩:∃ o,(nth (nth c.j3 i).m8 (nth p j).toNat).A7=o:=⟨_,rfl⟩;rw [ho] at h2 ⊢;refine Ex.I7 (fun k T H=>∃ (l:Nat) (w0 w1 w3 w4 w5 w6:b6),T=[w0,w1,.ptr 1 0,w3,w4,w5,w6,.d (num i),.d (ints p),.d (ints f),.d (num j),.d (ints o),.d (num l)]/\H=[tp xs q,.cells (c.enc.map .d)]/\l+k=o.length) (by rintro _ _ _ ⟨_,_,_,_,_,_,_,rfl,rfl,_⟩;rfl) ?_ (k:=o.length) ⟨0,_,_,_,_,_,_,rfl,rfl,by simp⟩;rintro n _ _ ⟨l,_,_,_,_,_,_,rfl,rfl,hn⟩;refine Ex.nT ?_;refine Ex.seq ?_;refine tb (C2 l o.length) (fun g7=> ?_) (fun g7=> ?_)
    ·have g8:=z6 g7
     have Sk:=Uq f (nth o l) e2;rw [AX (h2.2 _ (S1 (by omega)))] at Sk;refine gr ?_;refine tB (false) ?_ (fun g9=> ?_) (fun g9=> ?_)
     ·repeat' (first|refine cl (Sk) ?_|refine gx ?_|refine fk (h1:=fun hw=> ?_) (h2:=fun hw=> ?_)|refine M8 (h1:=fun hw=> ?_) (h2:=fun hw=> ?_)|refine ⟨rfl,rfl,_,rfl,?_⟩|refine ⟨rfl,rfl⟩|fail)
      all_goals exact cc
     ·cases g9
     refine gr ?_;exact ⟨n - 1,by omega,l+1,_,_,_,_,_,_,rfl,rfl,by omega⟩
    ·refine gr ?_
     exact ⟨m - 1,by omega,j+1,_,_,_,_,_,_,_,_,rfl,rfl,by omega⟩
   ·refine gr ?_
    exact ⟨k - 1,by omega,i+1,_,_,_,_,_,_,_,_,_,_,_,rfl,rfl,by omega⟩
  ·repeat' (first|refine cl (Yq) ?_|refine gx ?_|fail)
   exact ⟨_,rfl,rfl⟩
theorem yK {c:m9}{st x:Int}{k:Nat}(h:x ∈ cJ c st k):∀ m,k<=m->x ∈ cJ c st m
 |0,hm=>by
  obtain rfl:k=0:=by omega
  exact h
 |m+1,hm=>by
  rcases p7 m k with h1|h1
  ·obtain rfl:k=m+1:=by omega
   exact h
  ·simp only [cJ]
   exact List.mem_append_left _ (yK h m h1)
theorem CD {c:m9}{s:Int}{v:Nat}(h:s ∈ jV c v){k:Nat}(hk:v<k):(v:Int) ∈ cJ c s k:=by
 refine yK (k:=v+1) ?_ k hk;simp only [cJ];refine List.mem_append_right _ ?_;rw [if_pos]
 ·simp
 ·exact List.any_eq_true.2 ⟨s,h,by simp [pg,j5]⟩
theorem yM {c:m9}(hv:M7 c=true){s:Int}{v:Nat}(h:s ∈ jV c v):∀ k,k<=m9.ns c->∀ d,d ∈ cJ c v k->d ∈ cJ c s k
 |0,_,d,hd=>by simp [cJ] at hd
 |k+1,hk,d,hd=>by
  have ih:=yM hv h k (by omega);simp only [cJ,List.mem_append] at hd ⊢
  rcases hd with hd|hd
  ·exact .inl (ih d hd)
  ·refine .inr ?_
   split at hd
   ·rename_i g
    obtain ⟨x,hx,hb⟩:=List.any_eq_true.1 g;rw [if_pos]
    ·exact hd
    ·refine List.any_eq_true.2 ⟨x,hx,?_⟩
     have h2:=(BM hv (k:=k) (by omega) x hx).2;simp only [pg,Bool.or_eq_true,j5,beq_iff_eq,List.any_eq_true] at hb ⊢
     rcases hb with hb|⟨y,hy,hb⟩
     ·subst hb
      exact .inr ⟨_,CD h (by omega),rfl⟩
     ·exact .inr ⟨y,ih y hy,hb⟩
   ·simp at hd
theorem NW {c:m9}{v:Nat}:jV c v=[]↔v<c.j3.length:=by
 unfold jV;constructor
 ·intro h
  split at h
  ·rename_i g;simpa [o9] using g
  ·exfalso
   have hm:∀ x,x ∉ lY (nth c.views ((v:Int) - c.j3.length).toNat) (sns c):=by rw [h];simp
   unfold lY at hm;simp only [pV,mV] at hm;split at hm<;>exact hm _ (List.mem_cons_self ..)
 ·intro h
  rw [if_pos (by simpa [o9] using h)]
theorem KM {c:m9}(hv:M7 c=true)(hs:E8 c){v:Nat}(h:v<m9.ns c):∃ (s d:List Int),Pf A 19 [cat c,.d (num v)] (.d (ints s))/\Pf A 20 [cat c,.d (num v)] (.d (ints d))/\o8 s.length 0=C2 v c.j3.length/\s.length<=2/\d.length<=2000 /\
  ∀ i,i<s.length->∃ (x:Nat) (e:List Int),nth s i=(x:Int)/\x<v/\Pf A 20 [cat c,.d (num x)] (.d (ints e))/\e.length<=2000/\hasB e v=true/\∀ y,y ∈ d->hasB e y=true:=by
 have hf:=GH hs;have hi:=lu hv h;have e1:=SC c hs v hi;have l1:=kQ c v (m9.ns c);refine ⟨_,_,YN c hs v hi,e1,?_,DZ c v,by omega,fun i hl=> ?_⟩
 ·have:= @NW c v
  rw [Bool.eq_iff_iff,j5,o9];simp only [beq_iff_eq,decide_eq_true_eq];rw [<- List.length_eq_zero_iff] at this;omega
 ·have hm:=S1 hl
  have h1:=BM hv h _ hm;obtain ⟨x,hx⟩:∃ x:Nat,nth (jV c v) i=x:=⟨(nth (jV c v) i).toNat,by omega⟩;rw [hx] at hm h1;have l2:=kQ c x (m9.ns c);exact ⟨x,_,hx,by omega,SC c hs x (lu hv (by omega)),by omega,AX (CD hm h),fun y hy=>AX (yM hv hm _ (l5 _) y hy)⟩
set_option maxHeartbeats 8000000 in
theorem pf5 {xs:List Int}(hx:xs.length<=17592186043904):Pf A 5 [.d (ints xs)] (.d (.bool true)):=by
 obtain ⟨c,q,hv,hs,Yj,VQ⟩:=built hx;have aN:m9.ns c=c.j3.length+c.views.length:=rfl;obtain ⟨f0,f1,_⟩:=id hs.sm.fI;refine Pf.run [.d (ints xs),.any,.any,.any,.any,.any,.any,.any,.any] rfl rfl rfl rfl ?_
 repeat' (first|refine cp Yj (Nat.zero_le _) ?_|refine c0 VQ rfl (h2:= ?_)|refine gx ?_|fail)
 refine Ex.I7 (fun k T H=>∃ (v:Nat) (w0 w1 w5 w6 w7 w8:b6),T=[w0,w1,.ptr 1 0,.d (num (c.j3.length+c.views.length)),.d (num v),w5,w6,w7,w8]/\H=[tp xs q,.cells (c.enc.map .d)]/\v+k=m9.ns c) (by rintro _ _ _ ⟨_,_,_,_,_,_,_,rfl,rfl,_⟩;rfl) ?_ (k:=m9.ns c) ⟨0,_,_,_,_,_,_,rfl,rfl,by simp⟩;rintro k _ _ ⟨v,_,_,_,_,_,_,rfl,rfl,hk⟩;refine Ex.nT ?_;refine Ex.seq ?_;refine tb (C2 v ((c.j3.length:Int)+c.views.length)) (fun g1=> ?_) (fun g1=> ?_)
 ·have g2:=z6 g1
  obtain ⟨s,d,p19,p20,e1,e2,e3,e4⟩:=KM hv hs (v:=v) (by omega)
  repeat' (first|refine cl (p19) ?_|refine gx ?_|fail)
  refine tB (false) ?_ (fun g3=> ?_) (fun g3=> ?_)
  ·repeat' (first|refine cl (e1) ?_|refine gx ?_|refine fk (h1:=fun hw=> ?_) (h2:=fun hw=> ?_)|refine M8 (h1:=fun hw=> ?_) (h2:=fun hw=> ?_)|refine ⟨rfl,rfl,_,rfl,?_⟩|refine ⟨rfl,rfl⟩|fail)
   all_goals exact cc
  ·cases g3
  refine gr ?_;refine Ex.I7 (fun k T H=>∃ (i:Nat) (w0 w1 w7 w8:b6),T=[w0,w1,.ptr 1 0,.d (num (c.j3.length+c.views.length)),.d (num v),.d (ints s),.d (num i),w7,w8]/\H=[tp xs q,.cells (c.enc.map .d)]/\i+k=s.length) (by rintro _ _ _ ⟨_,_,_,_,_,rfl,rfl,_⟩;rfl) ?_ (k:=s.length) ⟨0,_,_,_,_,rfl,rfl,by simp⟩;rintro m _ _ ⟨i,_,_,_,_,rfl,rfl,hm⟩;refine Ex.nT ?_;refine Ex.seq ?_;refine tb (C2 i s.length) (fun g3=> ?_) (fun g3=> ?_)
  ·have g4:=z6 g3
   obtain ⟨x,e,e5,e6,e7,e8,e9,e10⟩:=e4 i (by omega);have Sk:=Uq e v (by omega);rw [e9] at Sk;rw [<- e5] at e7;refine gr ?_;refine tB (false) ?_ (fun g5=> ?_) (fun g5=> ?_)
   ·repeat' (first|refine cl (e7) ?_|refine cl (Sk) ?_|refine gx ?_|refine fk (h1:=fun hw=> ?_) (h2:=fun hw=> ?_)|refine M8 (h1:=fun hw=> ?_) (h2:=fun hw=> ?_)|refine ⟨rfl,rfl,_,rfl,?_⟩|refine ⟨rfl,rfl⟩|fail)
    all_goals first|(simp [*,b9,e5,o9,o5];done)|(simp_all [b9,e5,o9,o5];done)|(simp_all [b9,e5,o9,o5,o9,o5,j5,A3];done)|(simp_all [b9,e5,o9,o5,o9,o5,j5,A3]<;>omega)
   ·cases g5
   repeat' (first|refine cl (p20) ?_|refine gx ?_|fail)
   refine Ex.I7 (fun k T H=>∃ (j:Nat) (w0 w1:b6),T=[w0,w1,.ptr 1 0,.d (num (c.j3.length+c.views.length)),.d (num v),.d (ints s),.d (num i),.d (ints d),.d (num j)]/\H=[tp xs q,.cells (c.enc.map .d)]/\j+k=d.length) (by rintro _ _ _ ⟨_,_,_,rfl,rfl,_⟩;rfl) ?_ (k:=d.length) ⟨0,_,_,rfl,rfl,by simp⟩;rintro n _ _ ⟨j,_,_,rfl,rfl,hn⟩;refine Ex.nT ?_;refine Ex.seq ?_;refine tb (C2 j d.length) (fun g5=> ?_) (fun g5=> ?_)
   ·have g6:=z6 g5
    have Sk:=Uq e (nth d j) (by omega);rw [e10 _ (S1 (by omega))] at Sk;refine gr ?_;refine tB (false) ?_ (fun g7=> ?_) (fun g7=> ?_)
    ·repeat' (first|refine cl (e7) ?_|refine cl (Sk) ?_|refine gx ?_|refine fk (h1:=fun hw=> ?_) (h2:=fun hw=> ?_)|refine M8 (h1:=fun hw=> ?_) (h2:=fun hw=> ?_)|refine ⟨rfl,rfl,_,rfl,?_⟩|refine ⟨rfl,rfl⟩|fail)
     all_goals first|(simp [*,b9,e5];done)|(simp_all [b9,e5];done)|(simp_all [b9,e5,o9,o5,j5,A3];done)|(simp_all [b9,e5,o9,o5,j5,A3]<;>omega)
    ·cases g7
    refine gr ?_;exact ⟨n - 1,by omega,j+1,_,_,rfl,rfl,by omega⟩
   ·refine gr ?_
    exact ⟨m - 1,by omega,i+1,_,_,_,_,rfl,rfl,by omega⟩
  ·refine gr ?_
   exact ⟨k - 1,by omega,v+1,_,_,_,_,_,_,rfl,rfl,by omega⟩
 ·repeat' (first|refine cl (Yq) ?_|refine gx ?_|fail)
  exact ⟨_,rfl,rfl⟩
end Go.Proofs.YtkmclibmmlgogaaGreat


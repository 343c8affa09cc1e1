import Derived.Test.YtibjocmpkoepoaaGreatU1
import Derived.Test.YtibjocmpkoepoaaGreatU2
import Derived.Test.YtibjocmpkoepoaaGreatU3
import Derived.Test.YtibjocmpkoepoaaGreatU4
import Derived.Test.YtibjocmpkoepoaaGreatN4
import Derived.Test.YtibjocmpkoepoaaGreatN3
set_option linter.all false
open List renaming mem_singleton→q8,length→O
open Nat renaming le_refl→l6,zero_le→O0
open Option renaming some→J,none→K
open Bool renaming true→W,false→F
namespace Go.Proofs.YtibjocmpkoepoaaGreat
open Go.A1 Go.A1.S Go.A1.Sh
attribute [local irreducible] Rx Ry Rn Ex Pf
def NC {C:Ctx}{vs:List Nat}{lo hi:Nat}{row:List SD}{d:A1.Data}(h:(SD.slice K lo hi row).g C vs d):∃n,lo<=n/\n<=hi/\(SD.slice K n n row).g C vs d:=by
 simp only [SD.g] at h ⊢;obtain ⟨rows,h1,h2,h3,h4,h5⟩:=h;exact ⟨_,h2,h3,rows,h1,l6 _,l6 _,h4,h5⟩
section
variable [Inhabited vK]
def o24 {xs:List Int}(hx:O xs<=35184372088832)(g:s5)(n m:Nat)(hn:n=1\/n=2\/n=3)(hm:m=0\/m=1\/m=2\/m=3\/m=4):(HF n m).ok (ct xs g) A:=by
 rcases hn with rfl|rfl|rfl<;>rcases hm with rfl|rfl|rfl|rfl|rfl
 .exact vE hx g aV5
 .exact vE hx g aV6
 .exact vE hx g aV7
 .exact vE hx g aV8
 .exact vE hx g aV9
 .exact vE hx g aW0
 .exact vE hx g aW1
 .exact vE hx g aW2
 .exact vE hx g aW3
 .exact vE hx g aW4
 .exact vE hx g aW5
 .exact vE hx g aW6
 .exact vE hx g aW7
 .exact vE hx g aW8
 .exact vE hx g aW9
def spoilt {xs:List Int}(hx:O xs<=17592186043904){c:s5}{q:Nat}(hq:q<=4 * O xs)(h:L0.g (ct xs mS) [] (rB 4) c.enc):∃(d:s5) (p:Nat),G4 d/\Pm A 15 [.ptr 0 0,cat c] [tp xs q] l1 (cat d) [tp xs p]:=by
 have h' :=h;unfold rB s5.enc at h';obtain ⟨_,_,e,g1,h'⟩:=sc h';cases e;obtain ⟨_,_,e,g2,g3⟩:=sc h';cases e;obtain ⟨n,n1,n2,g1⟩:=NC g1;obtain ⟨m,m1,m2,g2⟩:=NC g2;have hE:L0.g (ct xs mS) [] (rE n m) c.enc:=by
  unfold rE s5.enc;rw [L0.g];refine ⟨_,_,rfl,g1,?_⟩;rw [L0.g];exact ⟨_,_,rfl,g2,g3⟩
 obtain ⟨v,H1,⟨o,o1,o2,o3⟩,p24⟩:=(o24 (xs:=xs) V mS n m V V).2 [.ptr 0 0,cat c] [tp xs q] (by
  simp only [HF,Sh.z8.g];refine ⟨_,_,rfl,rfl,_,_,rfl,?_,rfl⟩;simp only [SV.g];exact ⟨_,rfl,z8.QV hE,λk hk=>by cases hk⟩) (by
  simp only [HF,Sh.L4.g];exact ⟨_,_,rfl,⟨q,hq,rfl⟩,rfl⟩)
 have:=q8.1 o1;subst this;simp only [Sh.L4.g] at o3;obtain ⟨_,_,rfl,⟨p,_,rfl⟩,rfl⟩:=o3;simp only [Sh.SV.g] at o2;obtain ⟨cs,rfl,h0,_⟩:=o2;obtain ⟨ds,rfl,h5⟩:=YR h0;obtain ⟨d,rfl,hd⟩:=bk9 ds h5;exact ⟨d,p,hd,p24⟩
end
section
variable [Inhabited vK]
set_option maxHeartbeats 16000000 in
def lf8 {xs:List Int}(hx:O xs<=17592186043904)(l:List C7):Pf A 8 [.d (ints xs),.d (J1 l)] (.d (.bool W)):=by
 have _:Inhabited vK:=inferInstance;obtain ⟨ca,c,q0,q,hB,p12,p14,p13,hq⟩:=aR8 hx (n:=4) (.inr rfl);have hs:=hB.sm;obtain ⟨t1,t3,_⟩:=hB.k9;obtain ⟨v4,_⟩:=hB.views;obtain ⟨v,H1,⟨i0,q1,rfl,hi0,hi1,_,hq1,rfl⟩,pN⟩:=Tt xs q 4 l1 V hq V rfl;have hi1:=hi1 V;refine Pf.go 5 ?_
 repeat' (first|refine cp p12 (O0 _) ?_|refine gx ?_|fail)
 refine tb (F6 6 (O l)) (λh1=>?_) (λh1=>?_)
 case' refine_1 =>
  refine gr ?_;obtain ⟨wl,m,Dv,hw,hm⟩:∃wl m,wl=c8.own 2 0 []/\IsP wl m/\O m<=6:=⟨_,[],rfl,.inr rfl,U⟩;rw [show [c8.d (ints xs),.own 2 0 [],.d (.bool F),.ptr 0 0,.any,.any,.any]=[c8.d (ints xs),wl,.d (.bool F),.ptr 0 0,.any,.any,.any] by rw [Dv]]
 case' refine_2 =>
  generalize Dv:c8.d (J1 l)=wl;obtain ⟨m,hw,hm⟩:∃m,IsP wl m/\O m<=6:=⟨l,.inl Dv.symm,by have:=B5 h1;omega⟩
 all_goals
  clear Dv h1;have oK:=hw.as
  repeat' (first|refine c0 p14 rfl (h2:=?_)|refine c0 p13 rfl (h2:=?_)|refine c0 pN rfl (HD:=[.cells (c.enc.map .d)]) (h2:=?_)|refine gx ?_|fail)
  refine Ex.T9 (λk T H=>∃(i:Int) (q:Nat) (a:List C7),T=[.any,wl,.any,.ptr 0 0,.ptr 1 0,D9 2 S7 a,.d (Z i)]/\H=[tp xs q,.cells (c.enc.map .d)]/\q<=4 * O xs/\ -1<=i/\i+1=(k:Int)/\O a+k<=4) ?_ (k:=(i0+1).toNat) ⟨i0,q1,[],rfl,rfl,hq1,V,V,D⟩;clear hq1 pN hi0 hi1 hq p13 p14;rintro k _ _ ⟨i,q,a,rfl,rfl,hq,hi,hik,hak⟩;refine Ex.seq ?_;refine tb (cg 0 i) (λh1=>?_) (λh1=>?_)
  .have h2:=qo h1
   obtain ⟨v,H1,⟨s,q2,rfl,hs0,_,_,hq2,rfl⟩,pN⟩:=Tt xs q (O c.k9+O c.views) l1 V hq V rfl;obtain ⟨v,H1,⟨j,q3,rfl,hj0,_,_,hq3,rfl⟩,pN2⟩:=Tt xs q2 4 l1 V hq2 V rfl
   repeat' (first|refine c0 pN rfl (HD:=[.cells (c.enc.map .d)]) (h2:=?_)|refine c0 pN2 rfl (HD:=[.cells (c.enc.map .d)]) (h2:=?_)|refine Bu (cs:=(S7 (s,j)).map .d) ?_|refine oN (enc:=S7) (s,j) ?_|refine XR (ys:=[(s,j)]) (h2:=?_)|refine gx ?_|fail)
   exact kk ⟨i - 1,q3,a++[(s,j)],rfl,rfl,hq3,V,V,D⟩
  .have h2:=Am h1
   obtain ⟨d,p,hd,p15⟩:=spoilt hx hq (hB.sh _ _);obtain ⟨z1,ha,pa⟩:=aY6 c hs a V;obtain ⟨z2,hb,pb⟩:=aY6 c hs m V;obtain ⟨z3,hd',pd⟩:=aY6 d hd a V;have s1:=aY4 c hs a V z1 ha pa;have s2:=aY4 c hs m V z2 hb pb;have s3:=aY4 d hd a V z3 hd' pd
   repeat' (first|refine cl s1 ?_|refine cl s2 ?_|refine cl s3 ?_|refine cl cd3 ?_|refine wS oK ?_|refine c0 p15 rfl (HD:=[.cells (c.enc.map .d)]) (h2:=?_)|refine gx ?_|fail)
   exact ⟨_,rfl,rfl⟩
end
end Go.Proofs.YtibjocmpkoepoaaGreat


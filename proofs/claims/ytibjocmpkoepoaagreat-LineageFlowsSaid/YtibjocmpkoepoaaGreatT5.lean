import Derived.Test.YtibjocmpkoepoaaGreatU1
import Derived.Test.YtibjocmpkoepoaaGreatU2
import Derived.Test.YtibjocmpkoepoaaGreatU3
import Derived.Test.YtibjocmpkoepoaaGreatU4
import Derived.Test.YtibjocmpkoepoaaGreatN2
import Derived.Test.YtibjocmpkoepoaaGreatN3
set_option linter.all false
open Int renaming toNat_natCast → P0
open List renaming length_append → k9, length_nil → y8, mem_singleton → s8
open Nat renaming le_refl → n5
namespace Go.Proofs.YtibjocmpkoepoaaGreat
open Go.A2 Go.A2.S Go.A2.Sh
attribute [local irreducible] Rx Ry Rn Ex Pf
def KR {C:Ctx}{vs:List Nat}{lo hi:Nat}{row:List SD}{d:A2.Data}(h:(SD.slice none lo hi row).g C vs d):∃ n,lo<=n/\n<=hi/\(SD.slice none n n row).g C vs d:=by
 simp only [SD.g] at h ⊢;obtain ⟨rows,h1,h2,h3,h4,h5⟩:=h;exact ⟨_,h2,h3,rows,h1,n5 _,n5 _,h4,h5⟩
section
variable [Inhabited tO]
def o24 {xs:List Int}(hx:xs.length<=35184372088832)(g:r9)(n m:Nat)(hn:n=1\/n=2\/n=3)(hm:m=0\/m=1\/m=2\/m=3\/m=4):(EP n m).ok (bE xs g) A:=by
 rcases hn with rfl|rfl|rfl<;>rcases hm with rfl|rfl|rfl|rfl|rfl
 .exact tK hx g az6
 .exact tK hx g az7
 .exact tK hx g az8
 .exact tK hx g az9
 .exact tK hx g aA0
 .exact tK hx g aA1
 .exact tK hx g aA2
 .exact tK hx g aA3
 .exact tK hx g aA4
 .exact tK hx g aA5
 .exact tK hx g aA6
 .exact tK hx g aA7
 .exact tK hx g aA8
 .exact tK hx g aA9
 .exact tK hx g aB0
def spoilt {xs:List Int}(hx:xs.length<=17592186043904){c:r9}{q:Nat}(hq:q<=4 * xs.length)(h:J1.g (bE xs lF) [] (rB 4) c.enc):∃ (d:r9) (p:Nat),J7 d/\Pm A 15 [.ptr 0 0,cat c] [tp xs q] l1 (cat d) [tp xs p]:=by
 have h' :=h;unfold rB r9.enc at h';obtain ⟨_,_,e,g1,h'⟩:=sc h';cases e;obtain ⟨_,_,e,g2,g3⟩:=sc h';cases e;obtain ⟨n,n1,n2,g1⟩:=KR g1;obtain ⟨m,m1,m2,g2⟩:=KR g2;have hE:J1.g (bE xs lF) [] (rE n m) c.enc:=by
  unfold rE r9.enc;rw [J1.g];refine ⟨_,_,rfl,g1,?_⟩;rw [J1.g];exact ⟨_,_,rfl,g2,g3⟩
 obtain ⟨v,H1,⟨o,o1,o2,o3⟩,p24⟩:=(o24 (xs:=xs) (by omega) lF n m (by omega) (by omega)).2 [.ptr 0 0,cat c] [tp xs q] (by
  simp only [EP,Sh.y7.g];refine ⟨_,_,rfl,rfl,_,_,rfl,?_,rfl⟩;simp only [SV.g];exact ⟨_,rfl,y7.NP hE,fun k hk=>by cases hk⟩) (by
  simp only [EP,Sh.J6.g];exact ⟨_,_,rfl,⟨q,hq,rfl⟩,rfl⟩)
 have:=s8.1 o1;subst this;simp only [Sh.J6.g] at o3;obtain ⟨_,_,rfl,⟨p,_,rfl⟩,rfl⟩:=o3;simp only [Sh.SV.g] at o2;obtain ⟨cs,rfl,h0,_⟩:=o2;obtain ⟨ds,rfl,h5⟩:=Vn h0;obtain ⟨d,rfl,hd⟩:=aO6 ds h5;exact ⟨d,p,hd,p24⟩
end
def Jq (c:r9):(Jp c).length<=9223372036854775807:=by
 unfold Jp;cases hv:L6 c with
 |false=>simp
 |true =>
  have h8:=xE hv;have hT:∀ k,k<=c.j9.length->(lP c k).length<=64 * k:=fun k=>by
   induction k with
   |zero=>intro _;simp [lP]
   |succ k ih =>
    intro hk;have:=ih (by omega);rw [lP,k9];have h2:=(Nh c hv (i:=k) (by omega)).1;have h3:=mQ (nth c.j9 k).q7 (nth c.j9 k).q7.length;have h4:(jW c k).length<=8:=by unfold jW;rw [P0];omega
    have h5:=qo k (nth c.j9 k).q7.length (jW c k);have h6:(jW c k).length * (nth c.j9 k).q7.length<=8 * 8:=Nat.mul_le_mul h4 h2;split
    .omega
    .simp;omega
  have hV:∀ k,k<=c.views.length->(uZ c k).length<=6000 * k:=fun k=>by
   induction k with
   |zero=>intro _;simp [uZ]
   |succ k ih =>
    intro hk;have:=ih (by omega);have h2:=Qs hv (i:=k) (by omega);rw [uZ,k9];omega
  have h1:=Y1 (ah3 c) [];rw [Jg (KE hv)] at h1;have h2:=hT _ (n5 _);have h3:=hV _ (n5 _);simp only [ah3,k9,y8] at h1;simp only [if_true];omega
section
variable [Inhabited tO]
set_option maxHeartbeats 16000000 in
def lf3 {xs:List Int}(hx:xs.length<=17592186043904):Pf A 3 [.d (ints xs)] (.d (.bool true)):=by
 have _:Inhabited tO:=inferInstance;obtain ⟨ca,c,q0,q,hB,p12,p14,p13,hq⟩:=av9 hx (n:=4) (.inr rfl);obtain ⟨d,p,hd,p15⟩:=spoilt hx hq (hB.sh _ _);have s1:=aT3 (Jp c) (Jq c);have s2:=aT3 (Jp d) (Jq d);obtain ⟨w1,i1,p1⟩:=aT5 c hB.sm;obtain ⟨w2,i2,p2⟩:=aT6 c hB.sm;obtain ⟨w3,i3,p3⟩:=aT5 d hd;obtain ⟨w4,i4,p4⟩:=aT6 d hd;refine Pf.run [.d (ints xs),.any,.any,.any,.any] rfl rfl rfl rfl ?_
 repeat' (first|refine cp p12 (Nat.zero_le _) ?_|refine c0 p14 rfl (h2:= ?_)|refine c0 p13 rfl (h2:= ?_)|refine c0 p15 rfl (HD:=[.cells (c.enc.map .d)]) (h2:= ?_)|refine gx ?_|fail)
 show Ry A an 0 true _ _ [.d (ints xs),.d (.bool false),.ptr 0 0,.ptr 1 0,.ptr 2 0] [tp xs p,.cells (c.enc.map .d),.cells (d.enc.map .d)] 1 [cat c] [] _
 rcases i1 with rfl|rfl<;>rcases i2 with rfl|rfl<;>rcases i3 with rfl|rfl<;>rcases i4 with rfl|rfl
 all_goals
  repeat' (first|refine IW p1 ?_|refine IW p3 ?_|refine cl p2 ?_|refine cl p4 ?_|refine cl s1 ?_|refine cl s2 ?_|refine cl bD1 ?_|refine gx ?_|fail)
  exact ⟨_,rfl,rfl⟩
end
end Go.Proofs.YtibjocmpkoepoaaGreat


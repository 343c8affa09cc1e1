/- The law CatalogueSpoilt. (made short by a program) -/
import Derived.Test.YtkmclibmmlgogaaGreatT3
import Derived.Test.YtkmclibmmlgogaaGreatU1
import Derived.Test.YtkmclibmmlgogaaGreatU2
import Derived.Test.YtkmclibmmlgogaaGreatU3
import Derived.Test.YtkmclibmmlgogaaGreatU4
set_option linter.unusedVariables false
set_option linter.unusedSimpArgs false
open List renaming mem_singleton → B0
open Nat renaming le_refl → n5
namespace Go.Proofs.YtkmclibmmlgogaaGreat
open Go.y3 Go.y3.S Go.y3.Sh
attribute [local irreducible] Rx Ry Rn Ex Pf
theorem FG {C:Ctx}{vs:List Nat}{lo hi:Nat}{row:List SD}{d:y3.Data}(h:(SD.slice none lo hi row).g C vs d):∃ n,lo<=n/\n<=hi/\(SD.slice none n n row).g C vs d:=by
 simp only [SD.g] at h ⊢;obtain ⟨rows,h1,h2,h3,h4,h5⟩:=h;exact ⟨_,h2,h3,rows,h1,n5 _,n5 _,h4,h5⟩
theorem o24 {xs:List Int}(hx:xs.length<=35184372088832)(g:m8)(n m:Nat)(hn:n=1\/n=2\/n=3)(hm:m=0\/m=1\/m=2\/m=3):(FB n m).ok (aD xs g) A:=by
 rcases hn with rfl|rfl|rfl<;>rcases hm with rfl|rfl|rfl|rfl
 ·exact vz hx g Xg
 ·exact vz hx g Xh
 ·exact vz hx g Xi
 ·exact vz hx g Xj
 ·exact vz hx g Xk
 ·exact vz hx g Xl
 ·exact vz hx g Xm
 ·exact vz hx g Xn
 ·exact vz hx g Xo
 ·exact vz hx g Xp
 ·exact vz hx g Xq
 ·exact vz hx g Xr
theorem spoilt {xs:List Int}(hx:xs.length<=17592186043904){c:m8}{q:Nat}(hq:q<=4 * xs.length)(h:F2.g (aD xs gh) [] rF c.enc):∃ (d:m8) (p:Nat),B6 d/\Pm A 24 [.ptr 0 0,cat c] [tp xs q] l1 (cat d) [tp xs p]:=by
 have h' :=h;unfold rF m8.enc at h';obtain ⟨_,_,e,g1,h'⟩:=sc h';cases e;obtain ⟨_,_,e,g2,g3⟩:=sc h';cases e;obtain ⟨n,n1,n2,g1⟩:=FG g1;obtain ⟨m,m1,m2,g2⟩:=FG g2;have hE:F2.g (aD xs gh) [] (rE n m) c.enc:=by
  unfold rE m8.enc;rw [F2.g];refine ⟨_,_,rfl,g1,?_⟩;rw [F2.g];exact ⟨_,_,rfl,g2,g3⟩
 obtain ⟨v,H1,⟨o,o1,o2,o3⟩,p24⟩:=(o24 (xs:=xs) (by omega) gh n m (by omega) (by omega)).2 [.ptr 0 0,cat c] [tp xs q] (by
  simp only [FB,Sh.q6.g];refine ⟨_,_,rfl,rfl,_,_,rfl,?_,rfl⟩;simp only [SV.g];exact ⟨_,rfl,q6.It hE,fun k hk=>by cases hk⟩) (by
  simp only [FB,Sh.H6.g];exact ⟨_,_,rfl,⟨q,hq,rfl⟩,rfl⟩)
 have:=B0.1 o1;subst this;simp only [Sh.H6.g] at o3;obtain ⟨_,_,rfl,⟨p,_,rfl⟩,rfl⟩:=o3;simp only [Sh.SV.g] at o2;obtain ⟨cs,rfl,h0,_⟩:=o2;obtain ⟨ds,rfl,h5⟩:=Oy h0;obtain ⟨d,rfl,hd⟩:=ad7 ds h5;exact ⟨d,p,hd,p24⟩
set_option maxHeartbeats 8000000 in
theorem pf8 {xs:List Int}(hx:xs.length<=17592186043904):Pf A 8 [.d (ints xs)] (.d (.bool true)):=by
 obtain ⟨c,q,hv,hs,p12,p13,hq,hsh⟩:=Oh hx;obtain ⟨d,p,hd,p24⟩:=spoilt hx hq hsh;have NW:=PX d hd;have l0:=am3 d hd 0 [116,48];have l1:=am3 d hd d.j3.length [118,48];refine Pf.run [.d (ints xs),.any,.any,.any] rfl rfl rfl rfl ?_
 repeat' (first|refine cp p12 (Nat.zero_le _) ?_|refine c0 p13 rfl (h2:= ?_)|refine c0 p24 rfl (h2:= ?_)|refine gx ?_|fail)
 refine tB (false) ?_ (fun g=> ?_) (fun g=> ?_)
 ·repeat' (first|refine cl (l0) ?_|refine cl (l1) ?_|refine gx ?_|refine fk (h1:=fun hw=> ?_) (h2:=fun hw=> ?_)|refine L7 (h1:=fun hw=> ?_) (h2:=fun hw=> ?_)|refine ⟨rfl,rfl,_,rfl,?_⟩|refine ⟨rfl,rfl⟩|fail)
  all_goals exact cc
 ·cases g
 cases e:J3 d with
 |true =>
  rw [e] at NW
  repeat' (first|refine cl (NW) ?_|refine cl (aj9) ?_|refine gx ?_|refine fk (h1:=fun hw=> ?_) (h2:=fun hw=> ?_)|refine L7 (h1:=fun hw=> ?_) (h2:=fun hw=> ?_)|refine Ex.H7 ?_|refine Ex.H8 ?_|refine Ex.cond rfl (fun ht=> ?_) (fun ht=> ?_)|refine Ex.test (Rn.text ?_)|refine Ex.test (Rn.draw ?_)|refine ⟨_,rfl,fun ht=> ?_,fun ht=> ?_⟩|refine ⟨_,rfl,?_⟩|fail)
  all_goals simp_all [b8]
 |false =>
  have hi:P9 d 0=false:=by unfold P9;rw [e];rfl
  have ht:bF d 0=false:=by unfold bF;rw [hi];rfl
  have p25:=TK d hd [116,48];have p14:=Vs d hd 0 hi;have p15:=Vz d hd 0 hi;have p17:=Qb d hd 0 ht;rw [show MJ d [116,48]= -1 by unfold MJ;rw [e];rfl] at p25;rw [e] at NW
  repeat' (first|refine cl (NW) ?_|refine cl (p25) ?_|refine cl (p14) ?_|refine cl (p15) ?_|refine cl (p17) ?_|refine cl (aj9) ?_|refine gx ?_|refine fk (h1:=fun hw=> ?_) (h2:=fun hw=> ?_)|refine L7 (h1:=fun hw=> ?_) (h2:=fun hw=> ?_)|refine Ex.H7 ?_|refine Ex.H8 ?_|refine Ex.cond rfl (fun ht=> ?_) (fun ht=> ?_)|refine Ex.test (Rn.text ?_)|refine Ex.test (Rn.draw ?_)|refine ⟨_,rfl,fun ht=> ?_,fun ht=> ?_⟩|refine ⟨_,rfl,?_⟩|fail)
  all_goals simp_all [b8]
  all_goals (first|exact absurd rfl (mz (by assumption:o9 (-1) (-1)=false))|exact absurd rfl (mz (by assumption:o9 0 0=false)))
end Go.Proofs.YtkmclibmmlgogaaGreat


import Derived.Test.YtibjocmpkoepoaaGreatT0
set_option linter.all false
open Bool renaming false_eq_true→j5,not_eq_false'→C5,or_eq_false_iff→D5,true→W,false→F
open List renaming flatMap_cons→O7,replicate→c8,replicate_succ→O8,take_of_length_le→A4,length→O
open Nat renaming le_refl→k9,zero_le→s9
open Option renaming some→J,none→K
namespace Go.Proofs.YtibjocmpkoepoaaGreat
open Go.A5 Go.A5.S
attribute [local irreducible] Rx Ry Rn Ex Pf Rl
def bq4 (t:fR)(r:W9)(hr:0<O t.o7)(hm:O t.o7<=1000):∃b,Pf A 273 [.agg (t.enc.map .d),.agg (r.enc.map .d)] (.d (.bool b)):=by
 refine Pe.bool (Pe.go 4 ?_);refine gr ?_;refine tc (!x5 (O r.row) (O t.o7)||(!x5 (O r.seq) (O t.o7)|| !(aH 0 r.day&&aH r.day 1048576))) Zw (λh=>?_) (λh=>?_)
 .refine gr ?_
  exact ⟨_,rfl,_,rfl⟩
 simp only [D5,C5] at h;have e1:=br h.1;have e2:=br h.2.1;refine gr ?_;refine Ex.M4 (λk T' H' =>∃i:Nat,i<=O r.row/\k=O r.row - i/\T' =[.any,.any,.ptr 0 0,.ptr 1 0,.any,.d (Z i)]/\H' =[.cells (t.enc.map .d),.cells (r.enc.map .d)]) ?_ (k:=O r.row) ⟨0,V,V,rfl,rfl⟩;rintro k T' H' ⟨i,hi,rfl,rfl,rfl⟩;refine Ex.seq ?_;refine tl (i:Int) (O r.row:Int) (λh1=>?_) (λh1=>?_)
 .have g1:i<O r.row:=V
  have g2:i<O t.o7:=V
  have g3:i<O r.seq:=V
  have g4:0<O r.seq:=V
  refine Ex.skip ?_;refine Ex.seq ?_;refine Ex.block ?_;refine te (And.intro BN (And.intro aq6 Zw)) ?_ ?_
  .refine gr ?_
   exact ⟨_,rfl,_,rfl⟩
  .refine gr ?_
   exact ⟨O r.row - (i+1),V,i+1,V,rfl,rfl,rfl⟩
 .have g1:0<O r.row:=V
  refine gr ?_;exact ⟨_,rfl,_,rfl⟩
def bq5 (c:p9)(hs:G8 c)(ts:List (List W9))(x:U4)(v:Vl)(hx:O4 x.refs []=F->0<=jt c x.refs/\jt c x.refs<O ts)(ht:∀i,i<O ts->O (Y ts i)<=64):∃b,Pf A 274 [cat c,.d (V6 ts),.agg (x.enc.map .d),.agg (v.enc.map .d)] (.d (.bool b)):=by
 have p1:=ar4 c hs x.refs;refine Pe.bool (Pe.go 4 ?_)
 by_cases h:O4 x.refs []=F
 .obtain ⟨k1,k2⟩:=hx h
  have p2:=aq7 (Y ts (jt c x.refs).toNat) v (by have:=ht (jt c x.refs).toNat V;omega)
  repeat' (first|refine cl (p1) ?_|refine cl (p2) ?_|refine gx ?_|refine fq (λhw=>?_) λhw=>?_|refine Ex.rL ?_|refine Ex.ud ?_|refine Ex.cond rfl (λht=>?_) (λht=>?_)|refine Ex.test (Rn.text ?_)|refine Ex.test (Rn.draw ?_)|refine ⟨_,rfl,λht=>?_,λht=>?_⟩|refine ⟨_,rfl,?_⟩|fail)
  all_goals first|exact ⟨_,rfl,_,rfl⟩|exact ⟨_,rfl⟩|rfl
 .have h:O4 x.refs []=W:=by simpa using h
  refine gr ?_;rw [h]
  repeat' (first|refine gx ?_|refine fq (λhw=>?_) λhw=>?_|refine Ex.rL ?_|refine Ex.ud ?_|refine Ex.cond rfl (λht=>?_) (λht=>?_)|refine Ex.test (Rn.text ?_)|refine Ex.test (Rn.draw ?_)|refine ⟨_,rfl,λht=>?_,λht=>?_⟩|refine ⟨_,rfl,?_⟩|fail)
  all_goals first|exact ⟨_,rfl,_,rfl⟩|exact ⟨_,rfl⟩|rfl
def Rv (c:p9)(x:iN):Prop:=OkC (O c.j7) (λi=>O (Y c.j7 i).o7) x
def bp5 (c:p9)(x:iN)(hx:Rv c x)(hn:O c.j7<=1000)(hm:∀i,i<O c.j7->O (Y c.j7 i).o7<=1000):∃b,Pf A 178 [cat c,.agg (x.enc.map .d)] (.d (.bool b)):=by
 have t0:=hx.t0;have t1:=hx.t1;have hm:=hm x.U1.toNat V;refine Pe.bool (Pe.go 6 ?_);refine gr ?_;refine te Zw ?_ ?_
 .refine gr ?_
  exact ⟨_,rfl,_,rfl⟩
 .refine gr ?_
  refine te trivial ?_ ?_
  .repeat' (first|refine cl (bq3 x.row) ?_|refine gy ?_|refine fq (λhw=>?_) λhw=>?_|refine ⟨_,rfl,?_⟩|fail)
   all_goals first|exact ⟨_,rfl,_,rfl⟩|exact ⟨_,rfl⟩|rfl
  .refine te trivial ?_ ?_
   .repeat' (first|refine cl (Zw _ _ _) ?_|refine cl (BN x.key) ?_|refine cl (BN x.val) ?_|refine gy ?_|refine fq (λhw=>?_) λhw=>?_|refine ⟨_,rfl,?_⟩|fail)
    all_goals first|exact ⟨_,rfl,_,rfl⟩|exact ⟨_,rfl⟩|rfl
   .repeat' (first|refine cl (BN x.key) ?_|refine gy ?_|refine fq (λhw=>?_) λhw=>?_|refine ⟨_,rfl,?_⟩|fail)
    all_goals first|exact ⟨_,rfl,_,rfl⟩|exact ⟨_,rfl⟩|rfl
end Go.Proofs.YtibjocmpkoepoaaGreat
namespace Go.A5.S
def fdR {A:Prog}{l:J2}{b:Nat}{dr:Bool}{j8 ops:List o3}{T:List c7}{H:j9}{n:Nat}{rl:List c7}{l6:List Touch}{Q:List c7->j9->List c7->Prop}{x:y4}{i:Nat}{vs:List c7}{v:c7}{u:List Nat}(h2:Ry A l b dr j8 ops T H (n+1) (v::rl) l6 Q)(hx:rq T n rl x= .agg vs:=by rfl)(hv:vs[i]? =J v:=by rfl) :
  Ry A l b dr j8 (⟨.Yv x i,K,K,u⟩::ops) T H n rl l6 Q:=Ry.pure (rs:=[]) rfl (by grind [k8]) h2
end Go.A5.S
namespace Go.Proofs.YtibjocmpkoepoaaGreat
open Go.A5 Go.A5.S
attribute [local irreducible] Rx Ry Rn Ex Pf Rl
theorem Jy {s:K0}:∀(l:List K0) (m i:Nat),0<=J5 s (l.take m) i->0<=J5 s l i/\J5 s l i<i+m
 |_,0,i,h=>by simp [J5] at h
 |[],m+1,i,h=>by simp [J5] at h
 |x::l,m+1,i,h=>by
  simp [List.take_succ_cons,J5] at h ⊢;split at h
  .grind
  .have:=Jy l m (i+1) h
   omega
def RH {c:p9}(hv:F1 c=W){n i:Nat}(hn:n<O c.j7)(hi:i<O (Y c.j7 n).o7):aK c n i=0:=by
 have hok:=(bW hv).1;have hnl:=V0 c;have ht:=Y0 (hok n (by grind [p9.ns])) hn
 grind [fA,eH,nE]
def Pr {c:p9}(hv:F1 c=W){n i:Nat}(hn:n<O c.j7)(hi:i<O (Y c.j7 n).o7)(hr:O4 (Y (Y c.j7 n).o7 i).refs []=F):0<=jt c (Y (Y c.j7 n).o7 i).refs/\jt c (Y (Y c.j7 n).o7 i).refs<O c.j7:=by
 have h:=RH hv hn hi;have ht:0<=gv c (Y (Y c.j7 n).o7 i).refs n:=by
  unfold aK at h;split at h
  .omega
  .split at h
   .omega
   .split at h
    all_goals simp_all [Bool.not_false,Bool.true_and,A1,decide_eq_true_eq]
 have hl:=Z6 c;have e:jt c (Y (Y c.j7 n).o7 i).refs=J5 (Y (Y c.j7 n).o7 i).refs (p9.sn c) 0:=by
  simp_all [jt,F8,if_pos,A4]
 have:=Jy _ _ 0 ht;omega
def UR {c:p9}(hv:F1 c=W){n:Nat}(hn:n<O c.j7):pV c n=W:=by
 grind [pV,bG,x8,A1,p9.ns]
def Yu {c:p9}(hv:F1 c=W){n:Nat}(hn:n<O c.j7):O (fixC c n)<=100:=by
 have h:=gV hv hn;have h1:=BL h.2 _ (k9 _);have h2:=Bh (tC (Y c.j7 n).o7 (O (Y c.j7 n).o7)) [0]
 grind [fix_eq,fixC,aL,bz,tC,Y,al0,Int.toNat_natCast]
def bp6 (c:p9)(hs:G8 c)(hv:F1 c=W)(i:Nat)(j:Int)(hi:i<O c.j7):∃b,Pf A 181 [cat c,.d (Z i),.d (Z j)] (.d (.bool b)):=by
 have p1:=aL5 c hs i (UR hv hi);have hl:=Yu hv hi;generalize fixC c i=l at p1 hl;refine Pe.bool (Pe.go 4 ?_);refine gc p1 ?_;refine Ex.M4 (λk T' H' =>∃i:Nat,i<=O l/\k=O l - i/\T' =[.any,.any,.d (Z j),.any,.any,.d (ints l),.d (Z i)]/\H' =[.cells (c.enc.map .d)]) ?_ (k:=O l) ⟨0,V,V,rfl,rfl⟩;rintro k T' H' ⟨i,hi,rfl,rfl,rfl⟩;refine Ex.seq ?_;have e:ints l=y6 (λn=>[Z n]) l:=by rfl
 refine tl (i:Int) (O l:Int) (λh1=>?_) (λh1=>?_)
 .refine Ex.skip ?_
  refine Ex.seq ?_;refine Ex.block ?_;refine te trivial ?_ ?_
  .refine gr ?_
   exact ⟨_,rfl,_,rfl⟩
  .refine gr ?_
   exact ⟨O l - (i+1),V,i+1,V,rfl,rfl,rfl⟩
 .refine gr ?_
  exact ⟨_,rfl,_,rfl⟩
def SD (c:p9)(hs:G8 c)(hv:F1 c=W)(x:iN)(hx:Rv c x):∃e,Pf A 122 [cat c,.agg (x.enc.map .d)] (.d (Z e)):=by
 have t0:=hx.t0;have t1:=hx.t1;have c0:=hx.c0;have c1:=hx.c1;have hw:=hx.row;have hm:=λi hi=>(gV (c:=c) hv (n:=i) hi).1
 obtain ⟨i,hi⟩:∃i:Nat,x.U1=i:=⟨x.U1.toNat,V⟩;have hit:x.U1.toNat=i:=V
 have hin:i<O c.j7:=V
 simp only [hit] at c1 hw;have hrl:O x.row<=O (Y c.j7 i).o7:=by rw [hw];split<;>omega
 have hcl:=hm i hin;have DC:=hs.sm.iC.1;obtain ⟨b1,p1⟩:=bp5 c x hx V λi hi=>by have:=hm i hi;omega
 have p2:=aq5 x λe=>by rw [hw,if_pos e];omega
 obtain ⟨b2,p3⟩:=bp6 c hs hv i x.col hin;rw [<- hi] at p3;refine Pe.num (Pe.go 5 ?_);refine gr ?_;refine te p1 ?_ ?_
 .refine gr ?_
  exact ⟨_,rfl,_,rfl⟩
 refine gr ?_;refine Ex.KI ?_ ?_ ?_
 .refine Rn.text ?_
  repeat' (first|refine cl p2 ?_|refine fdR ?_|refine gx ?_|exact ⟨rfl,rfl,_,rfl⟩|fail)
 .refine gr ?_
  exact ⟨_,rfl,_,rfl⟩
 obtain ⟨t,hT⟩:∃t,Y c.j7 x.U1.toNat=t:=⟨_,rfl⟩;rw [<- hit,hT] at c1 hw hrl hcl;refine gr ?_;rw [hT];refine Ex.M4 (λk T' H' =>∃i:Nat,i<=O x.row/\k=O x.row - i/\T' =[.any,.any,.ptr 0 0,.ptr 1 0,.any,.ptr 2 0,.d (Z i)]/\H' =[.cells (c.enc.map .d),.cells (x.enc.map .d),.cells (t.enc.map .d)]) ?_ (k:=O x.row) ⟨0,V,V,rfl,rfl⟩;rintro k T' H' ⟨j,hj,rfl,rfl,rfl⟩;refine Ex.seq ?_;refine tl (j:Int) (O x.row:Int) (λh1=>?_) (λh1=>?_)
 .have g1:j<O x.row:=V
  have g2:j<O t.o7:=V
  refine Ex.skip ?_;refine Ex.seq ?_;refine Ex.block ?_;refine te aq6 ?_ ?_
  .refine gr ?_
   exact ⟨_,rfl,_,rfl⟩
  .refine gr ?_
   exact ⟨O x.row - (j+1),V,j+1,V,rfl,rfl,rfl⟩
 .have g2:0<O t.o7:=V
  refine gr ?_;refine te (And.intro p2 aq6) ?_ ?_
  .refine gr ?_
   exact ⟨_,rfl,_,rfl⟩
  refine gr ?_;refine te p3 ?_ ?_
  .refine gr ?_
   exact ⟨_,rfl,_,rfl⟩
  .refine gr ?_
   exact ⟨_,rfl,_,rfl⟩
def bq2 (c:p9)(hs:G8 c)(hv:F1 c=W)(ts:List (List W9))(hn:O ts=O c.j7)(ht:∀i,i<O ts->O (Y ts i)<=64)(x:iN)(hx:Rv c x):∃e,Pf A 235 [cat c,.d (V6 ts),.agg (x.enc.map .d)] (.d (Z e)):=by
 have t0:=hx.t0;have t1:=hx.t1;have c0:=hx.c0;have c1:=hx.c1;have hw:=hx.row;obtain ⟨i,hi⟩:∃i:Nat,x.U1=i:=⟨x.U1.toNat,V⟩;have hit:x.U1.toNat=i:=V
 have hin:i<O c.j7:=V
 have hcl:=(gV hv hin).1;have p2:=aq5 x λe=>by rw [hw,if_pos e];omega
 have p3:=aq7 (Y ts x.U1.toNat) (zJ x) (by have:=ht x.U1.toNat V;omega);have hrl:O x.row<=O (Y c.j7 x.U1.toNat).o7:=by rw [hw];split<;>omega
 have p4:∀(k:Nat) (v:Vl),k<O (Y c.j7 x.U1.toNat).o7->∃b,Pf A 274 [cat c,.d (V6 ts),.agg ((Y (Y c.j7 x.U1.toNat).o7 k).enc.map .d),.agg (v.enc.map .d)] (.d (.bool b)):=λk v hk=>bq5 c hs ts _ v (λh=>by rw [hn];rw [hit] at hk h ⊢;exact Pr hv hin hk h) ht
 obtain ⟨t,hT⟩:∃t,Y c.j7 x.U1.toNat=t:=⟨_,rfl⟩;rw [hT] at c1 hw hrl p4;rw [<- hit,hT] at hcl;refine Pe.num (Pe.go 6 ?_);refine gc (And.intro p2 p3) ?_;refine te trivial ?_ ?_
 .refine gr ?_
  exact ⟨_,rfl,_,rfl⟩
 refine te trivial ?_ ?_
 .refine gr ?_
  exact ⟨_,rfl,_,rfl⟩
 refine gr ?_;rw [hT];refine Ex.M4 (λk T' H' =>∃i:Nat,i<=O x.row/\k=O x.row - i/\T' =[.any,.d (V6 ts),.any,.ptr 0 0,.ptr 1 0,.any,.any,.d (y6 U4.enc t.o7),.d (Z i)]/\H' =[.cells (c.enc.map .d),.cells (x.enc.map .d)]) ?_ (k:=O x.row) ⟨0,V,V,rfl,rfl⟩;rintro k T' H' ⟨j,hj,rfl,rfl,rfl⟩;refine Ex.seq ?_;refine tl (j:Int) (O x.row:Int) (λh1=>?_) (λh1=>?_)
 .have g1:j<O x.row:=V
  have g2:j<O t.o7:=V
  obtain ⟨b,p5⟩:=p4 j (Y x.row j) g2;refine Ex.skip ?_;refine Ex.seq ?_;refine Ex.block ?_;refine te p5 ?_ ?_
  .refine gr ?_
   exact ⟨_,rfl,_,rfl⟩
  .refine gr ?_
   exact ⟨O x.row - (j+1),V,j+1,V,rfl,rfl,rfl⟩
 .obtain ⟨b,p5⟩:=p4 x.col.toNat x.val V
  refine gr ?_;refine te p5 ?_ ?_
  .refine gr ?_
   exact ⟨_,rfl,_,rfl⟩
  refine gr ?_;refine te trivial ?_ ?_
  .refine gr ?_
   exact ⟨_,rfl,_,rfl⟩
  .refine gr ?_
   exact ⟨_,rfl,_,rfl⟩
structure oP (c:p9)(ts:List (List W9)):Prop where
 n:O ts=O c.j7
 t:OkT (λi=>O (Y c.j7 i).o7) ts
theorem oP.row {c:p9}(hv:F1 c=W){ts:List (List W9)}(h:oP c ts){i j:Nat}(hi:i<O ts)(hj:j<O (Y ts i)):O (Y ts i)<=64/\0<O (Y (Y ts i) j).row/\0<O (Y (Y ts i) j).seq/\O (Y (Y ts i) j).row<=8/\O (Y (Y ts i) j).seq<=8:=by
 have h1:=h.t i hi;have h2:=h1.2 _ (H6 hj);have h4:=iG (Y0 ((bW hv).1 i (by have:=V0 c;unfold p9.ns at this;have:=h.n;omega)) (by rw [<- h.n];exact hi));have:=h1.1
 grind
def bq1 (c:p9)(hs:G8 c)(hv:F1 c=W)(ts:List (List W9))(h:oP c ts):∃e,Pf A 234 [.d (V6 ts)] (.d (Z e)):=by
 have DC:=hs.sm.iC.1;have hn:=h.n;refine Pe.num (Pe.go 5 ?_);refine gr ?_;refine Ex.M4 (λk T' H' =>∃(i:Nat) (q:Int),i<=O ts/\k=O ts - i/\T' =[.d (V6 ts),.any,.d (Z q),.d (Z i),.any,.any]/\H' =[]) ?_ (k:=O ts) ⟨0,0,V,V,rfl,rfl⟩;rintro k T' H' ⟨i,q,hi,rfl,rfl,rfl⟩;refine Ex.seq ?_;refine tl (i:Int) (O ts:Int) (λh1=>?_) (λh1=>?_)
 .have g1:i<O ts:=V
  refine Ex.skip ?_;refine gr ?_;refine Ex.M4 (λk T' H' =>∃(j:Nat) (q:Int),j<=O (Y ts i)/\k=O (Y ts i) - j/\T' =[.d (V6 ts),.any,.d (Z q),.d (Z i),.d (Z j),.any]/\H' =[]) ?_ (k:=O (Y ts i)) ⟨0,q,V,V,rfl,rfl⟩;rintro k T' H' ⟨j,q,hj,rfl,rfl,rfl⟩;refine Ex.seq ?_;refine tl (j:Int) (O (Y ts i):Int) (λh1=>?_) (λh1=>?_)
  .have g2:j<O (Y ts i):=V
   have hr:=h.row hv g1 g2;refine Ex.skip ?_;refine gr ?_;refine Ex.M4 (λk T' H' =>∃(m:Nat) (q:Int),m<=O (Y (Y ts i) j).seq/\k=O (Y (Y ts i) j).seq - m/\T' =[.d (V6 ts),.any,.d (Z q),.d (Z i),.d (Z j),.d (Z m)]/\H' =[]) ?_ (k:=O (Y (Y ts i) j).seq) ⟨0,q,V,V,rfl,rfl⟩;rintro k T' H' ⟨m,q,hm,rfl,rfl,rfl⟩;refine Ex.seq ?_;refine tl (m:Int) (O (Y (Y ts i) j).seq:Int) (λh1=>?_) (λh1=>?_)
   .refine gr ?_
    exact ⟨O (Y (Y ts i) j).seq - (m+1),V,m+1,_,V,rfl,rfl,rfl⟩
   .refine gr ?_
    exact ⟨O (Y ts i) - (j+1),V,j+1,_,V,rfl,rfl,rfl⟩
  .refine gr ?_
   exact ⟨O ts - (i+1),V,i+1,_,V,rfl,rfl,rfl⟩
 .refine gr ?_
  exact ⟨_,rfl,_,rfl⟩
def bq0 (c:p9)(hs:G8 c)(hv:F1 c=W)(ts:List (List W9))(h:oP c ts):∃b,Pf A 233 [cat c,.d (V6 ts)] (.d (.bool b)):=by
 have DC:=hs.sm.iC.1;have hn:=h.n;have p1:=Nv c hs;refine Pe.bool (Pe.go 5 ?_);refine gr ?_;refine te p1 ?_ ?_
 .refine gr ?_
  exact ⟨_,rfl,_,rfl⟩
 refine gr ?_;refine Ex.M4 (λk T' H' =>∃(i:Nat),i<=O ts/\k=O ts - i/\T' =[.any,.d (V6 ts),.ptr 0 0,.any,.d (Z i),.any,.any]/\H' =[.cells (c.enc.map .d)]) ?_ (k:=O ts) ⟨0,V,V,rfl,rfl⟩;rintro k T' H' ⟨i,hi,rfl,rfl,rfl⟩;refine Ex.seq ?_;refine tl (i:Int) (O ts:Int) (λh1=>?_) (λh1=>?_)
 .have g1:i<O ts:=V
  have g0:i<O c.j7:=V
  have hl:=(h.t i g1).1;have hcl:=(gV hv g0).1;have hcg:=(iG (Y0 ((bW hv).1 i (by have:=V0 c;unfold p9.ns at this;omega)) g0)).1;refine Ex.skip ?_;refine Ex.seq ?_;refine gr ?_;refine te trivial ?_ ?_
  .refine gr ?_
   exact ⟨_,rfl,_,rfl⟩
  refine gr ?_;refine Ex.M4 (λk T' H' =>∃(j:Nat),j<=O (Y ts i)/\k=O (Y ts i) - j/\T' =[.any,.d (V6 ts),.ptr 0 0,.any,.d (Z i),.d (Z j),.any]/\H' =[.cells (c.enc.map .d)]) ?_ (k:=O (Y ts i)) ⟨0,V,V,rfl,rfl⟩;rintro k T' H' ⟨j,hj,rfl,rfl,rfl⟩;refine Ex.seq ?_;refine tl (j:Int) (O (Y ts i):Int) (λh1=>?_) (λh1=>?_)
  .have g2:j<O (Y ts i):=V
   have hr:=h.row hv g1 g2;have hr0:=(h.row hv g1 (show ((j:Int) - 1).toNat<O (Y ts i) by omega)).2.1;obtain ⟨b,p2⟩:=bq4 (Y c.j7 i) (Y (Y ts i) j) V V;refine Ex.skip ?_;refine Ex.seq ?_;refine Ex.block ?_;refine Ex.seq ?_;refine te (And.intro p2 aq8) ?_ ?_
   .refine gr ?_
    exact ⟨_,rfl,_,rfl⟩
   refine gr ?_;refine Ex.M4 (λk T' H' =>∃(m:Nat),m<=j/\k=j - m/\T' =[.any,.d (V6 ts),.ptr 0 0,.any,.d (Z i),.d (Z j),.d (Z m)]/\H' =[.cells (c.enc.map .d)]) ?_ (k:=j) ⟨0,V,V,rfl,rfl⟩;rintro k T' H' ⟨m,hm,rfl,rfl,rfl⟩;refine Ex.seq ?_;refine tl (m:Int) (j:Int) (λh1=>?_) (λh1=>?_)
   .have g3:m<O (Y ts i):=V
    have Sh:=(h.row hv g1 g3).2.2.1;refine Ex.skip ?_;refine Ex.seq ?_;refine Ex.block ?_;refine te trivial ?_ ?_
    .refine gr ?_
     exact ⟨_,rfl,_,rfl⟩
    .refine gr ?_
     exact ⟨j - (m+1),V,m+1,V,rfl,rfl,rfl⟩
   .refine gr ?_
    exact ⟨O (Y ts i) - (j+1),V,j+1,V,rfl,rfl,rfl⟩
  .refine gr ?_
   exact ⟨O ts - (i+1),V,i+1,V,rfl,rfl,rfl⟩
 .refine gr ?_
  exact ⟨_,rfl,_,rfl⟩
end Go.Proofs.YtibjocmpkoepoaaGreat
namespace Go.A5
theorem OI (H:j9)(n z:Nat):∀(m f:Nat),m<f->cH H n f (c8 m (.own z 0 []))=J (c8 m (.own z 0 []))
 |0,f+1,_=>rfl
 |m+1,f+1,h=>by
  have:=OI H n z m f V;simp_all [O8,cH]
theorem Em (z:Nat):∀m:Nat,L1 (c8 m (.own z 0 []))=J (c8 m (.slice 0 []))
 |0=>rfl
 |m+1=>by simp [O8,L1,c7.data?,Em z m]
def Th (m:Nat):V6 (c8 m [])= .slice m (c8 m (.slice 0 [])):=by
 have:∀m:Nat,(c8 m ([]:List W9)).flatMap (λl=>[zQ l])=c8 m (.slice 0 []):=λm=>by
  induction m with
  |zero=>rfl
  |succ m ih=>rw [O8,O7,ih];rfl
 simp_all [V6,y6]
namespace S
def nsE {α:Type}{enc:α->List Data}{xs:List α}{A:Prog}{l:J2}{b:Nat}{dr:Bool}{j8 ops:List o3}{T:List c7}{H:j9}{n:Nat}{rl:List c7}{l6:List Touch}{Q:List c7->j9->List c7->Prop}{x:y4}{neg:Bool}{u:List Nat}(h0:0<O xs)(h2:Ry A l b dr j8 ops T H (n+1) (.d (.bool neg)::rl) l6 Q)(hx:rq T n rl x= .d (y6 enc xs):=by rfl) :
  Ry A l b dr j8 (⟨.BH neg x,K,K,u⟩::ops) T H n rl l6 Q:=Ry.pure (rs:=[]) rfl (by grind [k8,y6]) h2
end S
end Go.A5
namespace Go.Proofs.YtibjocmpkoepoaaGreat
open Go.A5 Go.A5.S
attribute [local irreducible] Rx Ry Rn Ex Pf Rl
def aH0 (c:p9)(hs:G8 c)(hv:F1 c=W):Pf A 119 [cat c] (.d (V6 (c8 (O c.j7) []))):=by
 have DC:=hs.sm.iC.1;have p1:=Nv c hs;refine Pf.go 2 ?_;refine gc p1 ?_;refine tc F p1 (λh=>?_) (λh=>?_)
 .cases h
 refine gr ?_;refine mks (id:=1) (len:=O c.j7) (H2:=[.cells (c.enc.map .d),.cells (c8 (O c.j7) (.own 3 0 []))]) ?_ ?_ rfl ?_
 .grind [uB,rq,Ms,lk,c7.K9]
 .simp
 refine gr ?_;refine ⟨_,?_,rfl⟩;show finish F 0 [.s6 1 1 0 (O c.j7)] [.cells (c.enc.map .d),.cells (c8 (O c.j7) (.own 3 0 []))]=_
 have:=Uu (H:=[.cells (c.enc.map .d),.cells (c8 (O c.j7) (.own 3 0 []))]) (n:=0) (f:=999999) (id:=1) (sz:=1) (len:=O c.j7) (vs:=[]) (s9 _) rfl rfl U (OI _ 0 3 (O c.j7) 999999 V) (Em 3 (O c.j7));simp_all [finish,j5,if_false,j4,Th,c7.J4]
def Vg (c:p9):oP c (c8 (O c.j7) []):=by
 refine ⟨U,λi hi=>?_⟩;have:Y (c8 (O c.j7) ([]:List W9)) i=[]:=by
  rw [F9 hi,List.getElem_replicate]
 rw [this];exact ⟨U,λr hr=>by cases hr⟩
def bp4 (c:p9)(hs:G8 c)(hv:F1 c=W)(ts:List (List W9))(h:oP c ts)(x:iN)(hx:Rv c x):∃e,Pf A 177 [cat c,.d (V6 ts),.agg (x.enc.map .d)] (.d (Z e)):=by
 obtain ⟨b,p1⟩:=bq0 c hs hv ts h;obtain ⟨e1,p2⟩:=SD c hs hv x hx;obtain ⟨e2,p3⟩:=bq1 c hs hv ts h;obtain ⟨e3,p4⟩:=bq2 c hs hv ts h.n (λi hi=>(h.t i hi).1) x hx;refine Pe.num (Pe.go 4 ?_);refine gr ?_;refine te p1 ?_ ?_
 .refine gr ?_
  exact ⟨_,rfl,_,rfl⟩
 refine gc p2 ?_;refine te trivial ?_ ?_
 .refine gr ?_
  exact ⟨_,rfl,_,rfl⟩
 refine gr ?_;refine te p3 ?_ ?_
 .refine gr ?_
  exact ⟨_,rfl,_,rfl⟩
 .refine gc p4 ?_
  exact ⟨_,rfl,_,rfl⟩
def ae4 {c:p9}(hv:F1 c=W):∀i,i<O c.j7->1<=O (Y c.j7 i).o7/\O (Y c.j7 i).o7<=100:=λi hi=>by
 have h4:=iG (Y0 ((bW hv).1 i (by have:=V0 c;grind [p9.ns])) hi);omega
def Vr (c:p9)(hs:G8 c)(hv:F1 c=W)(ts:List (List W9))(h:oP c ts)(x:iN)(hx:Rv c x):Pf A 123 [.d (V6 ts),.agg (x.enc.map .d)] (.d (V6 (au ts x)))/\oP c (au ts x):=by
 have DC:=hs.sm.iC.1;have hp:=pY h.t h.n hx;exact ⟨bo9 _ (O c.j7) ts x h.n DC h.t hx (ae4 hv),hp.2,hp.1⟩
def Nt (c:p9)(hs:G8 c)(hv:F1 c=W)(ts:List (List W9))(h:oP c ts)(x:iN)(hx:Rv c x):∃v e,Pf A 121 [cat c,.d (V6 ts),.agg (x.enc.map .d)] (.tuple [.d v,.d (Z e)])/\(e=0->v=V6 (au ts x)):=by
 obtain ⟨e,p1⟩:=bp4 c hs hv ts h x hx;have p2:=(Vr c hs hv ts h x hx).1
 rcases Decidable.em (e=0) with he|he
 .refine ⟨_,0,?_,λ_=>rfl⟩
  refine Pf.go 5 ?_;refine gc p1 ?_;refine tc F trivial (λh=>by cases h) (λh=>?_);refine gc p2 ?_;exact ⟨_,rfl,rfl⟩
 .refine ⟨.slice 0 [],e,?_,λh=>absurd h he⟩
  refine Pf.go 5 ?_;refine gc p1 ?_;refine tc W trivial (λh=>?_) (λh=>by cases h);refine gr ?_;exact ⟨_,rfl,rfl⟩
def p67 (c:p9)(hs:G8 c)(hv:F1 c=W)(h0:0<O c.j7)(l:List iN)(hl:O l<=1000)(hx:∀x∈l,Rv c x):∃ts,oP c ts/\Pf A 67 [cat c,.d (y6 iN.enc l)] (.d (V6 ts)):=by
 have DC:=hs.sm.iC.1;have p1:=aH0 c hs hv;have h1:=Pe.go (A:=A) (f:=67) (args:=[cat c,.d (y6 iN.enc l)]) (P:=λv=>∃ts,oP c ts/\v= .d (V6 ts)) 4 ?_
 .obtain ⟨_,⟨ts,h,rfl⟩,hp⟩:=h1
  exact ⟨ts,h,hp⟩
 have ln:O (c8 (O c.j7) ([]:List W9))=O c.j7:=List.length_replicate ..;refine gc p1 ?_;refine tc F trivial (λh=>?_) (λh=>?_) (h:=?_)
 .cases h
 .refine gr ?_
  refine Ex.M4 (λk T' H' =>∃(i:Nat) (ts:List (List W9)),i<=O l/\k=O l - i/\T' =[.any,.d (y6 iN.enc l),.ptr 0 0,.any,.d (V6 ts),.d (Z i)]/\H' =[.cells (c.enc.map .d)]/\oP c ts) ?_ (k:=O l) ⟨0,_,V,V,rfl,rfl,Vg c⟩;rintro k T' H' ⟨i,ts,hi,rfl,rfl,rfl,ht⟩;refine Ex.seq ?_;refine tl (i:Int) (O l:Int) (λh1=>?_) (λh1=>?_)
  .have g1:i<O l:=V
   have hxi:=hx _ (H6 g1);obtain ⟨e,p2⟩:=SD c hs hv (Y l i) hxi;obtain ⟨p3,h3⟩:=Vr c hs hv ts ht (Y l i) hxi;refine Ex.skip ?_;refine Ex.seq ?_;refine Ex.block ?_;refine te p2 ?_ ?_
   .refine gc p3 ?_
    exact ⟨O l - (i+1),V,i+1,_,V,rfl,rfl,rfl,h3⟩
   .refine gr ?_
    exact ⟨O l - (i+1),V,i+1,_,V,rfl,rfl,rfl,ht⟩
  .refine gr ?_
   exact ⟨_,rfl,_,ht,rfl⟩
 .intro _
  refine Rn.text ?_;refine gx ?_;refine nsE (enc:=λl=>[zQ l]) (xs:=c8 (O c.j7) []) V ?_;refine gx ?_;exact ⟨rfl,rfl,_,rfl,rfl⟩
end Go.Proofs.YtibjocmpkoepoaaGreat


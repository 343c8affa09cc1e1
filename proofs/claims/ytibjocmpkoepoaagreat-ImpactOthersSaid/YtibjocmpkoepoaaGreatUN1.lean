import Derived.Test.YtibjocmpkoepoaaGreatUT0
set_option linter.all false
open Bool renaming false_eq_true→j6,not_eq_false'→B5,or_eq_false_iff→C7,true→W,false→F
open List renaming replicate→c8,replicate_succ→L3,take_of_length_le→s4,length→O
open Nat renaming le_refl→j9,zero_le→x3
open Option renaming some→J,none→K
namespace Go.Proofs.YtibjocmpkoepoaaGreat
open Go.y9 Go.y9.S
attribute [local irreducible] Rx Ry Rn Ex Pf Rl
def ao7 (t:cw)(r:R7)(hr:0<O t.o7)(hm:O t.o7<=1000):∃b,Pf A 273 [.agg (t.enc.map .d),.agg (r.enc.map .d)] (.d (.bool b)):=by
 refine Pe.bool (Pe.go 4 ?_);refine gr ?_;refine tc (!x4 (O r.row) (O t.o7)||(!x4 (O r.seq) (O t.o7)|| !(T5 0 r.day&&T5 r.day 1048576))) OS (λh=>?_) (λh=>?_)
 .refine gr ?_
  exact ⟨_,rfl,_,rfl⟩
 simp only [C7,B5] at h;have e1:=W6 h.1;have e2:=W6 h.2.1;refine gr ?_;refine Ex.J4 (λk T' H' =>∃i:Nat,i<=O r.row/\k=O r.row - i/\T' =[.any,.any,.ptr 0 0,.ptr 1 0,.any,.d (Z i)]/\H' =[.cells (t.enc.map .d),.cells (r.enc.map .d)]) ?_ (k:=O r.row) ⟨0,V,V,rfl,rfl⟩;rintro k T' H' ⟨i,hi,rfl,rfl,rfl⟩;refine Ex.seq ?_;refine tl (i:Int) (O r.row:Int) (λh1=>?_) (λh1=>?_)
 .have g1:i<O r.row:=V
  have g2:i<O t.o7:=V
  have g3:i<O r.seq:=V
  have g4:0<O r.seq:=V
  refine Ex.skip ?_;refine Ex.seq ?_;refine Ex.block ?_;refine te (And.intro vW (And.intro SS OS)) ?_ ?_
  .refine gr ?_
   exact ⟨_,rfl,_,rfl⟩
  .refine gr ?_
   exact ⟨O r.row - (i+1),V,i+1,V,rfl,rfl,rfl⟩
 .have g1:0<O r.row:=V
  refine gr ?_;exact ⟨_,rfl,_,rfl⟩
def ao8 (c:o9)(hs:E7 c)(ts:List (List R7))(x:P4)(v:Vl)(hx:K3 x.refs []=F->0<=eV c x.refs/\eV c x.refs<O ts)(ht:∀i,i<O ts->O (Y ts i)<=64):∃b,Pf A 274 [cat c,.d (Q5 ts),.agg (x.enc.map .d),.agg (v.enc.map .d)] (.d (.bool b)):=by
 have p1:=Td c hs x.refs;refine Pe.bool (Pe.go 4 ?_)
 by_cases h:K3 x.refs []=F
 .obtain ⟨k1,k2⟩:=hx h
  have p2:=SU (Y ts (eV c x.refs).toNat) v (by have:=ht (eV c x.refs).toNat V;omega)
  repeat' (first|refine cl (p1) ?_|refine cl (p2) ?_|refine gx ?_|refine fq (λhw=>?_) λhw=>?_|refine Ex.mE ?_|refine Ex.ou ?_|refine Ex.cond rfl (λht=>?_) (λht=>?_)|refine Ex.test (Rn.text ?_)|refine Ex.test (Rn.draw ?_)|refine ⟨_,rfl,λht=>?_,λht=>?_⟩|refine ⟨_,rfl,?_⟩|fail)
  all_goals first|exact ⟨_,rfl,_,rfl⟩|exact ⟨_,rfl⟩|rfl
 .have h:K3 x.refs []=W:=by simpa using h
  refine gr ?_;rw [h]
  repeat' (first|refine gx ?_|refine fq (λhw=>?_) λhw=>?_|refine Ex.mE ?_|refine Ex.ou ?_|refine Ex.cond rfl (λht=>?_) (λht=>?_)|refine Ex.test (Rn.text ?_)|refine Ex.test (Rn.draw ?_)|refine ⟨_,rfl,λht=>?_,λht=>?_⟩|refine ⟨_,rfl,?_⟩|fail)
  all_goals first|exact ⟨_,rfl,_,rfl⟩|exact ⟨_,rfl⟩|rfl
def FX (c:o9)(x:cR):Prop:=XQ (O c.j7) (λi=>O (Y c.j7 i).o7) x
def an8 (c:o9)(x:cR)(hx:FX c x)(hn:O c.j7<=1000)(hm:∀i,i<O c.j7->O (Y c.j7 i).o7<=1000):∃b,Pf A 178 [cat c,.agg (x.enc.map .d)] (.d (.bool b)):=by
 have t0:=hx.t0;have t1:=hx.t1;have hm:=hm x.M6.toNat V;refine Pe.bool (Pe.go 6 ?_);refine gr ?_;refine te OS ?_ ?_
 .refine gr ?_
  exact ⟨_,rfl,_,rfl⟩
 .refine gr ?_
  refine te trivial ?_ ?_
  .repeat' (first|refine cl (ao6 x.row) ?_|refine gy ?_|refine fq (λhw=>?_) λhw=>?_|refine ⟨_,rfl,?_⟩|fail)
   all_goals first|exact ⟨_,rfl,_,rfl⟩|exact ⟨_,rfl⟩|rfl
  .refine te trivial ?_ ?_
   .repeat' (first|refine cl (OS _ _ _) ?_|refine cl (vW x.key) ?_|refine cl (vW x.val) ?_|refine gy ?_|refine fq (λhw=>?_) λhw=>?_|refine ⟨_,rfl,?_⟩|fail)
    all_goals first|exact ⟨_,rfl,_,rfl⟩|exact ⟨_,rfl⟩|rfl
   .repeat' (first|refine cl (vW x.key) ?_|refine gy ?_|refine fq (λhw=>?_) λhw=>?_|refine ⟨_,rfl,?_⟩|fail)
    all_goals first|exact ⟨_,rfl,_,rfl⟩|exact ⟨_,rfl⟩|rfl
end Go.Proofs.YtibjocmpkoepoaaGreat
namespace Go.y9.S
def fdR {A:Prog}{l:F9}{b:Nat}{dr:Bool}{j8 ops:List x9}{T:List c7}{H:k9}{n:Nat}{rl:List c7}{l6:List Touch}{Q:List c7->k9->List c7->Prop}{x:A3}{i:Nat}{vs:List c7}{v:c7}{u:List Nat}(h2:Ry A l b dr j8 ops T H (n+1) (v::rl) l6 Q)(hx:rq T n rl x= .agg vs:=by rfl)(hv:vs[i]? =J v:=by rfl) :
  Ry A l b dr j8 (⟨.NR x i,K,K,u⟩::ops) T H n rl l6 Q:=Ry.pure (rs:=[]) rfl (by grind [l5]) h2
end Go.y9.S
namespace Go.Proofs.YtibjocmpkoepoaaGreat
open Go.y9 Go.y9.S
attribute [local irreducible] Rx Ry Rn Ex Pf Rl
theorem CA {s:G4}:∀(l:List G4) (m i:Nat),0<=F7 s (l.take m) i->0<=F7 s l i/\F7 s l i<i+m
 |_,0,i,h=>by simp [F7] at h
 |[],m+1,i,h=>by simp [F7] at h
 |x::l,m+1,i,h=>by
  simp [List.take_succ_cons,F7] at h ⊢;split at h
  .grind
  .have:=CA l m (i+1) h
   omega
def HS {c:o9}(hv:D0 c=W){n i:Nat}(hn:n<O c.j7)(hi:i<O (Y c.j7 n).o7):U6 c n i=0:=by
 have hok:=(Z1 hv).1;have hnl:=Q1 c;have ht:=S1 (hok n (by grind [o9.ns])) hn
 grind [cg,bF,iY]
def Hp {c:o9}(hv:D0 c=W){n i:Nat}(hn:n<O c.j7)(hi:i<O (Y c.j7 n).o7)(hr:K3 (Y (Y c.j7 n).o7 i).refs []=F):0<=eV c (Y (Y c.j7 n).o7 i).refs/\eV c (Y (Y c.j7 n).o7 i).refs<O c.j7:=by
 have h:=HS hv hn hi;have ht:0<=cL c (Y (Y c.j7 n).o7 i).refs n:=by
  unfold U6 at h;split at h
  .omega
  .split at h
   .omega
   .split at h
    all_goals simp_all [Bool.not_false,Bool.true_and,y4,decide_eq_true_eq]
 have hl:=S7 c;have e:eV c (Y (Y c.j7 n).o7 i).refs=F7 (Y (Y c.j7 n).o7 i).refs (o9.sn c) 0:=by
  simp_all [eV,E5,if_pos,s4]
 have:=CA _ _ 0 ht;omega
def Ll {c:o9}(hv:D0 c=W){n:Nat}(hn:n<O c.j7):kH c n=W:=by
 grind [kH,X9,x6,y4,o9.ns]
def NQ {c:o9}(hv:D0 c=W){n:Nat}(hn:n<O c.j7):O (fixC c n)<=100:=by
 have h:=au hv hn;have h1:=vU h.2 _ (j9 _);have h2:=vg (nI (Y c.j7 n).o7 (O (Y c.j7 n).o7)) [0]
 grind [fix_eq,fixC,U7,W9,nI,Y,RK,Int.toNat_natCast]
def an9 (c:o9)(hs:E7 c)(hv:D0 c=W)(i:Nat)(j:Int)(hi:i<O c.j7):∃b,Pf A 181 [cat c,.d (Z i),.d (Z j)] (.d (.bool b)):=by
 have p1:=WX c hs i (Ll hv hi);have hl:=NQ hv hi;generalize fixC c i=l at p1 hl;refine Pe.bool (Pe.go 4 ?_);refine gc p1 ?_;refine Ex.J4 (λk T' H' =>∃i:Nat,i<=O l/\k=O l - i/\T' =[.any,.any,.d (Z j),.any,.any,.d (ints l),.d (Z i)]/\H' =[.cells (c.enc.map .d)]) ?_ (k:=O l) ⟨0,V,V,rfl,rfl⟩;rintro k T' H' ⟨i,hi,rfl,rfl,rfl⟩;refine Ex.seq ?_;have e:ints l=s7 (λn=>[Z n]) l:=by rfl
 refine tl (i:Int) (O l:Int) (λh1=>?_) (λh1=>?_)
 .refine Ex.skip ?_
  refine Ex.seq ?_;refine Ex.block ?_;refine te trivial ?_ ?_
  .refine gr ?_
   exact ⟨_,rfl,_,rfl⟩
  .refine gr ?_
   exact ⟨O l - (i+1),V,i+1,V,rfl,rfl,rfl⟩
 .refine gr ?_
  exact ⟨_,rfl,_,rfl⟩
def IT (c:o9)(hs:E7 c)(hv:D0 c=W)(x:cR)(hx:FX c x):∃e,Pf A 122 [cat c,.agg (x.enc.map .d)] (.d (Z e)):=by
 have t0:=hx.t0;have t1:=hx.t1;have c0:=hx.c0;have c1:=hx.c1;have hw:=hx.row;have hm:=λi hi=>(au (c:=c) hv (n:=i) hi).1
 obtain ⟨i,hi⟩:∃i:Nat,x.M6=i:=⟨x.M6.toNat,V⟩;have hit:x.M6.toNat=i:=V
 have hin:i<O c.j7:=V
 simp only [hit] at c1 hw;have hrl:O x.row<=O (Y c.j7 i).o7:=by rw [hw];split<;>omega
 have hcl:=hm i hin;have vj:=hs.sm.eD.1;obtain ⟨b1,p1⟩:=an8 c x hx V λi hi=>by have:=hm i hi;omega
 have p2:=SR x λe=>by rw [hw,if_pos e];omega
 obtain ⟨b2,p3⟩:=an9 c hs hv i x.col hin;rw [<- hi] at p3;refine Pe.num (Pe.go 5 ?_);refine gr ?_;refine te p1 ?_ ?_
 .refine gr ?_
  exact ⟨_,rfl,_,rfl⟩
 refine gr ?_;refine Ex.DP ?_ ?_ ?_
 .refine Rn.text ?_
  repeat' (first|refine cl p2 ?_|refine fdR ?_|refine gx ?_|exact ⟨rfl,rfl,_,rfl⟩|fail)
 .refine gr ?_
  exact ⟨_,rfl,_,rfl⟩
 obtain ⟨t,hT⟩:∃t,Y c.j7 x.M6.toNat=t:=⟨_,rfl⟩;rw [<- hit,hT] at c1 hw hrl hcl;refine gr ?_;rw [hT];refine Ex.J4 (λk T' H' =>∃i:Nat,i<=O x.row/\k=O x.row - i/\T' =[.any,.any,.ptr 0 0,.ptr 1 0,.any,.ptr 2 0,.d (Z i)]/\H' =[.cells (c.enc.map .d),.cells (x.enc.map .d),.cells (t.enc.map .d)]) ?_ (k:=O x.row) ⟨0,V,V,rfl,rfl⟩;rintro k T' H' ⟨j,hj,rfl,rfl,rfl⟩;refine Ex.seq ?_;refine tl (j:Int) (O x.row:Int) (λh1=>?_) (λh1=>?_)
 .have g1:j<O x.row:=V
  have g2:j<O t.o7:=V
  refine Ex.skip ?_;refine Ex.seq ?_;refine Ex.block ?_;refine te SS ?_ ?_
  .refine gr ?_
   exact ⟨_,rfl,_,rfl⟩
  .refine gr ?_
   exact ⟨O x.row - (j+1),V,j+1,V,rfl,rfl,rfl⟩
 .have g2:0<O t.o7:=V
  refine gr ?_;refine te (And.intro p2 SS) ?_ ?_
  .refine gr ?_
   exact ⟨_,rfl,_,rfl⟩
  refine gr ?_;refine te p3 ?_ ?_
  .refine gr ?_
   exact ⟨_,rfl,_,rfl⟩
  .refine gr ?_
   exact ⟨_,rfl,_,rfl⟩
def ao5 (c:o9)(hs:E7 c)(hv:D0 c=W)(ts:List (List R7))(hn:O ts=O c.j7)(ht:∀i,i<O ts->O (Y ts i)<=64)(x:cR)(hx:FX c x):∃e,Pf A 235 [cat c,.d (Q5 ts),.agg (x.enc.map .d)] (.d (Z e)):=by
 have t0:=hx.t0;have t1:=hx.t1;have c0:=hx.c0;have c1:=hx.c1;have hw:=hx.row;obtain ⟨i,hi⟩:∃i:Nat,x.M6=i:=⟨x.M6.toNat,V⟩;have hit:x.M6.toNat=i:=V
 have hin:i<O c.j7:=V
 have hcl:=(au hv hin).1;have p2:=SR x λe=>by rw [hw,if_pos e];omega
 have p3:=SU (Y ts x.M6.toNat) (tC x) (by have:=ht x.M6.toNat V;omega);have hrl:O x.row<=O (Y c.j7 x.M6.toNat).o7:=by rw [hw];split<;>omega
 have p4:∀(k:Nat) (v:Vl),k<O (Y c.j7 x.M6.toNat).o7->∃b,Pf A 274 [cat c,.d (Q5 ts),.agg ((Y (Y c.j7 x.M6.toNat).o7 k).enc.map .d),.agg (v.enc.map .d)] (.d (.bool b)):=λk v hk=>ao8 c hs ts _ v (λh=>by rw [hn];rw [hit] at hk h ⊢;exact Hp hv hin hk h) ht
 obtain ⟨t,hT⟩:∃t,Y c.j7 x.M6.toNat=t:=⟨_,rfl⟩;rw [hT] at c1 hw hrl p4;rw [<- hit,hT] at hcl;refine Pe.num (Pe.go 6 ?_);refine gc (And.intro p2 p3) ?_;refine te trivial ?_ ?_
 .refine gr ?_
  exact ⟨_,rfl,_,rfl⟩
 refine te trivial ?_ ?_
 .refine gr ?_
  exact ⟨_,rfl,_,rfl⟩
 refine gr ?_;rw [hT];refine Ex.J4 (λk T' H' =>∃i:Nat,i<=O x.row/\k=O x.row - i/\T' =[.any,.d (Q5 ts),.any,.ptr 0 0,.ptr 1 0,.any,.any,.d (s7 P4.enc t.o7),.d (Z i)]/\H' =[.cells (c.enc.map .d),.cells (x.enc.map .d)]) ?_ (k:=O x.row) ⟨0,V,V,rfl,rfl⟩;rintro k T' H' ⟨j,hj,rfl,rfl,rfl⟩;refine Ex.seq ?_;refine tl (j:Int) (O x.row:Int) (λh1=>?_) (λh1=>?_)
 .have g1:j<O x.row:=V
  have g2:j<O t.o7:=V
  obtain ⟨b,p5⟩:=p4 j (Y x.row j) g2;refine Ex.skip ?_;refine Ex.seq ?_;refine Ex.block ?_;refine te p5 ?_ ?_
  .refine gr ?_
   exact ⟨_,rfl,_,rfl⟩
  .refine gr ?_
   exact ⟨O x.row - (j+1),V,j+1,V,rfl,rfl,rfl⟩
 .obtain ⟨b,p5⟩:=p4 x.col.toNat x.val V
  refine gr ?_;refine te p5 ?_ ?_
  .refine gr ?_
   exact ⟨_,rfl,_,rfl⟩
  refine gr ?_;refine te trivial ?_ ?_
  .refine gr ?_
   exact ⟨_,rfl,_,rfl⟩
  .refine gr ?_
   exact ⟨_,rfl,_,rfl⟩
structure jT (c:o9)(ts:List (List R7)):Prop where
 n:O ts=O c.j7
 t:PR (λi=>O (Y c.j7 i).o7) ts
theorem jT.row {c:o9}(hv:D0 c=W){ts:List (List R7)}(h:jT c ts){i j:Nat}(hi:i<O ts)(hj:j<O (Y ts i)):O (Y ts i)<=64/\0<O (Y (Y ts i) j).row/\0<O (Y (Y ts i) j).seq/\O (Y (Y ts i) j).row<=8/\O (Y (Y ts i) j).seq<=8:=by
 have h1:=h.t i hi;have h2:=h1.2 _ (C5 hj);have h4:=ep (S1 ((Z1 hv).1 i (by have:=Q1 c;unfold o9.ns at this;have:=h.n;omega)) (by rw [<- h.n];exact hi));have:=h1.1
 grind
def ao4 (c:o9)(hs:E7 c)(hv:D0 c=W)(ts:List (List R7))(h:jT c ts):∃e,Pf A 234 [.d (Q5 ts)] (.d (Z e)):=by
 have vj:=hs.sm.eD.1;have hn:=h.n;refine Pe.num (Pe.go 5 ?_);refine gr ?_;refine Ex.J4 (λk T' H' =>∃(i:Nat) (q:Int),i<=O ts/\k=O ts - i/\T' =[.d (Q5 ts),.any,.d (Z q),.d (Z i),.any,.any]/\H' =[]) ?_ (k:=O ts) ⟨0,0,V,V,rfl,rfl⟩;rintro k T' H' ⟨i,q,hi,rfl,rfl,rfl⟩;refine Ex.seq ?_;refine tl (i:Int) (O ts:Int) (λh1=>?_) (λh1=>?_)
 .have g1:i<O ts:=V
  refine Ex.skip ?_;refine gr ?_;refine Ex.J4 (λk T' H' =>∃(j:Nat) (q:Int),j<=O (Y ts i)/\k=O (Y ts i) - j/\T' =[.d (Q5 ts),.any,.d (Z q),.d (Z i),.d (Z j),.any]/\H' =[]) ?_ (k:=O (Y ts i)) ⟨0,q,V,V,rfl,rfl⟩;rintro k T' H' ⟨j,q,hj,rfl,rfl,rfl⟩;refine Ex.seq ?_;refine tl (j:Int) (O (Y ts i):Int) (λh1=>?_) (λh1=>?_)
  .have g2:j<O (Y ts i):=V
   have hr:=h.row hv g1 g2;refine Ex.skip ?_;refine gr ?_;refine Ex.J4 (λk T' H' =>∃(m:Nat) (q:Int),m<=O (Y (Y ts i) j).seq/\k=O (Y (Y ts i) j).seq - m/\T' =[.d (Q5 ts),.any,.d (Z q),.d (Z i),.d (Z j),.d (Z m)]/\H' =[]) ?_ (k:=O (Y (Y ts i) j).seq) ⟨0,q,V,V,rfl,rfl⟩;rintro k T' H' ⟨m,q,hm,rfl,rfl,rfl⟩;refine Ex.seq ?_;refine tl (m:Int) (O (Y (Y ts i) j).seq:Int) (λh1=>?_) (λh1=>?_)
   .refine gr ?_
    exact ⟨O (Y (Y ts i) j).seq - (m+1),V,m+1,_,V,rfl,rfl,rfl⟩
   .refine gr ?_
    exact ⟨O (Y ts i) - (j+1),V,j+1,_,V,rfl,rfl,rfl⟩
  .refine gr ?_
   exact ⟨O ts - (i+1),V,i+1,_,V,rfl,rfl,rfl⟩
 .refine gr ?_
  exact ⟨_,rfl,_,rfl⟩
def ao3 (c:o9)(hs:E7 c)(hv:D0 c=W)(ts:List (List R7))(h:jT c ts):∃b,Pf A 233 [cat c,.d (Q5 ts)] (.d (.bool b)):=by
 have vj:=hs.sm.eD.1;have hn:=h.n;have p1:=Fu c hs;refine Pe.bool (Pe.go 5 ?_);refine gr ?_;refine te p1 ?_ ?_
 .refine gr ?_
  exact ⟨_,rfl,_,rfl⟩
 refine gr ?_;refine Ex.J4 (λk T' H' =>∃(i:Nat),i<=O ts/\k=O ts - i/\T' =[.any,.d (Q5 ts),.ptr 0 0,.any,.d (Z i),.any,.any]/\H' =[.cells (c.enc.map .d)]) ?_ (k:=O ts) ⟨0,V,V,rfl,rfl⟩;rintro k T' H' ⟨i,hi,rfl,rfl,rfl⟩;refine Ex.seq ?_;refine tl (i:Int) (O ts:Int) (λh1=>?_) (λh1=>?_)
 .have g1:i<O ts:=V
  have g0:i<O c.j7:=V
  have hl:=(h.t i g1).1;have hcl:=(au hv g0).1;have hcg:=(ep (S1 ((Z1 hv).1 i (by have:=Q1 c;unfold o9.ns at this;omega)) g0)).1;refine Ex.skip ?_;refine Ex.seq ?_;refine gr ?_;refine te trivial ?_ ?_
  .refine gr ?_
   exact ⟨_,rfl,_,rfl⟩
  refine gr ?_;refine Ex.J4 (λk T' H' =>∃(j:Nat),j<=O (Y ts i)/\k=O (Y ts i) - j/\T' =[.any,.d (Q5 ts),.ptr 0 0,.any,.d (Z i),.d (Z j),.any]/\H' =[.cells (c.enc.map .d)]) ?_ (k:=O (Y ts i)) ⟨0,V,V,rfl,rfl⟩;rintro k T' H' ⟨j,hj,rfl,rfl,rfl⟩;refine Ex.seq ?_;refine tl (j:Int) (O (Y ts i):Int) (λh1=>?_) (λh1=>?_)
  .have g2:j<O (Y ts i):=V
   have hr:=h.row hv g1 g2;have Yh:=(h.row hv g1 (show ((j:Int) - 1).toNat<O (Y ts i) by omega)).2.1;obtain ⟨b,p2⟩:=ao7 (Y c.j7 i) (Y (Y ts i) j) V V;refine Ex.skip ?_;refine Ex.seq ?_;refine Ex.block ?_;refine Ex.seq ?_;refine te (And.intro p2 SV) ?_ ?_
   .refine gr ?_
    exact ⟨_,rfl,_,rfl⟩
   refine gr ?_;refine Ex.J4 (λk T' H' =>∃(m:Nat),m<=j/\k=j - m/\T' =[.any,.d (Q5 ts),.ptr 0 0,.any,.d (Z i),.d (Z j),.d (Z m)]/\H' =[.cells (c.enc.map .d)]) ?_ (k:=j) ⟨0,V,V,rfl,rfl⟩;rintro k T' H' ⟨m,hm,rfl,rfl,rfl⟩;refine Ex.seq ?_;refine tl (m:Int) (j:Int) (λh1=>?_) (λh1=>?_)
   .have g3:m<O (Y ts i):=V
    have Fb:=(h.row hv g1 g3).2.2.1;refine Ex.skip ?_;refine Ex.seq ?_;refine Ex.block ?_;refine te trivial ?_ ?_
    .refine gr ?_
     exact ⟨_,rfl,_,rfl⟩
    .refine gr ?_
     exact ⟨j - (m+1),V,m+1,V,rfl,rfl,rfl⟩
   .refine gr ?_
    exact ⟨O (Y ts i) - (j+1),V,j+1,V,rfl,rfl,rfl⟩
  .refine gr ?_
   exact ⟨O ts - (i+1),V,i+1,V,rfl,rfl,rfl⟩
 .refine gr ?_
  exact ⟨_,rfl,_,rfl⟩
end Go.Proofs.YtibjocmpkoepoaaGreat
namespace Go.y9
theorem GB (H:k9)(n z:Nat):∀(m f:Nat),m<f->X6 H n f (c8 m (.own z 0 []))=J (c8 m (.own z 0 []))
 |0,f+1,_=>rfl
 |m+1,f+1,h=>by
  have:=GB H n z m f V;simp_all [L3,X6]
theorem yq (z:Nat):∀m:Nat,H7 (c8 m (.own z 0 []))=J (c8 m (.slice 0 []))
 |0=>rfl
 |m+1=>by simp [L3,H7,c7.data?,yq z m]
def Jt (m:Nat):Q5 (c8 m [])= .slice m (c8 m (.slice 0 [])):=by
 have:∀m:Nat,(c8 m ([]:List R7)).flatMap (λl=>[tL l])=c8 m (.slice 0 []):=λm=>by
  induction m with
  |zero=>rfl
  |succ m ih=>rw [L3,List.flatMap_cons,ih];rfl
 simp_all [Q5,s7]
namespace S
def nsE {α:Type}{enc:α->List Data}{xs:List α}{A:Prog}{l:F9}{b:Nat}{dr:Bool}{j8 ops:List x9}{T:List c7}{H:k9}{n:Nat}{rl:List c7}{l6:List Touch}{Q:List c7->k9->List c7->Prop}{x:A3}{neg:Bool}{u:List Nat}(h0:0<O xs)(h2:Ry A l b dr j8 ops T H (n+1) (.d (.bool neg)::rl) l6 Q)(hx:rq T n rl x= .d (s7 enc xs):=by rfl) :
  Ry A l b dr j8 (⟨.xJ neg x,K,K,u⟩::ops) T H n rl l6 Q:=Ry.pure (rs:=[]) rfl (by grind [l5,s7]) h2
end S
end Go.y9
namespace Go.Proofs.YtibjocmpkoepoaaGreat
open Go.y9 Go.y9.S
attribute [local irreducible] Rx Ry Rn Ex Pf Rl
def Wd (c:o9)(hs:E7 c)(hv:D0 c=W):Pf A 119 [cat c] (.d (Q5 (c8 (O c.j7) []))):=by
 have vj:=hs.sm.eD.1;have p1:=Fu c hs;refine Pf.go 2 ?_;refine gc p1 ?_;refine tc F p1 (λh=>?_) (λh=>?_)
 .cases h
 refine gr ?_;refine mks (id:=1) (len:=O c.j7) (H2:=[.cells (c.enc.map .d),.cells (c8 (O c.j7) (.own 3 0 []))]) ?_ ?_ rfl ?_
 .grind [oL,rq,Ek,lk,c7.I7]
 .simp
 refine gr ?_;refine ⟨_,?_,rfl⟩;show finish F 0 [.r7 1 1 0 (O c.j7)] [.cells (c.enc.map .d),.cells (c8 (O c.j7) (.own 3 0 []))]=_
 have:=KN (H:=[.cells (c.enc.map .d),.cells (c8 (O c.j7) (.own 3 0 []))]) (n:=0) (f:=999999) (id:=1) (sz:=1) (len:=O c.j7) (vs:=[]) (x3 _) rfl rfl U (GB _ 0 3 (O c.j7) 999999 V) (yq 3 (O c.j7));simp_all [finish,j6,if_false,j5,Jt,c7.F4]
def LG (c:o9):jT c (c8 (O c.j7) []):=by
 refine ⟨U,λi hi=>?_⟩;have:Y (c8 (O c.j7) ([]:List R7)) i=[]:=by
  rw [D6 hi,List.getElem_replicate]
 rw [this];exact ⟨U,λr hr=>by cases hr⟩
def an7 (c:o9)(hs:E7 c)(hv:D0 c=W)(ts:List (List R7))(h:jT c ts)(x:cR)(hx:FX c x):∃e,Pf A 177 [cat c,.d (Q5 ts),.agg (x.enc.map .d)] (.d (Z e)):=by
 obtain ⟨b,p1⟩:=ao3 c hs hv ts h;obtain ⟨e1,p2⟩:=IT c hs hv x hx;obtain ⟨e2,p3⟩:=ao4 c hs hv ts h;obtain ⟨e3,p4⟩:=ao5 c hs hv ts h.n (λi hi=>(h.t i hi).1) x hx;refine Pe.num (Pe.go 4 ?_);refine gr ?_;refine te p1 ?_ ?_
 .refine gr ?_
  exact ⟨_,rfl,_,rfl⟩
 refine gc p2 ?_;refine te trivial ?_ ?_
 .refine gr ?_
  exact ⟨_,rfl,_,rfl⟩
 refine gr ?_;refine te p3 ?_ ?_
 .refine gr ?_
  exact ⟨_,rfl,_,rfl⟩
 .refine gc p4 ?_
  exact ⟨_,rfl,_,rfl⟩
def QF {c:o9}(hv:D0 c=W):∀i,i<O c.j7->1<=O (Y c.j7 i).o7/\O (Y c.j7 i).o7<=100:=λi hi=>by
 have h4:=ep (S1 ((Z1 hv).1 i (by have:=Q1 c;grind [o9.ns])) hi);omega
def LQ (c:o9)(hs:E7 c)(hv:D0 c=W)(ts:List (List R7))(h:jT c ts)(x:cR)(hx:FX c x):Pf A 123 [.d (Q5 ts),.agg (x.enc.map .d)] (.d (Q5 (U0 ts x)))/\jT c (U0 ts x):=by
 have vj:=hs.sm.eD.1;have hp:=kK h.t h.n hx;exact ⟨an2 _ (O c.j7) ts x h.n vj h.t hx (QF hv),hp.2,hp.1⟩
def Fs (c:o9)(hs:E7 c)(hv:D0 c=W)(ts:List (List R7))(h:jT c ts)(x:cR)(hx:FX c x):∃v e,Pf A 121 [cat c,.d (Q5 ts),.agg (x.enc.map .d)] (.tuple [.d v,.d (Z e)])/\(e=0->v=Q5 (U0 ts x)):=by
 obtain ⟨e,p1⟩:=an7 c hs hv ts h x hx;have p2:=(LQ c hs hv ts h x hx).1
 rcases Decidable.em (e=0) with he|he
 .refine ⟨_,0,?_,λ_=>rfl⟩
  refine Pf.go 5 ?_;refine gc p1 ?_;refine tc F trivial (λh=>by cases h) (λh=>?_);refine gc p2 ?_;exact ⟨_,rfl,rfl⟩
 .refine ⟨.slice 0 [],e,?_,λh=>absurd h he⟩
  refine Pf.go 5 ?_;refine gc p1 ?_;refine tc W trivial (λh=>?_) (λh=>by cases h);refine gr ?_;exact ⟨_,rfl,rfl⟩
def p67 (c:o9)(hs:E7 c)(hv:D0 c=W)(h0:0<O c.j7)(l:List cR)(hl:O l<=1000)(hx:∀x∈l,FX c x):∃ts,jT c ts/\Pf A 67 [cat c,.d (s7 cR.enc l)] (.d (Q5 ts)):=by
 have vj:=hs.sm.eD.1;have p1:=Wd c hs hv;have h1:=Pe.go (A:=A) (f:=67) (args:=[cat c,.d (s7 cR.enc l)]) (P:=λv=>∃ts,jT c ts/\v= .d (Q5 ts)) 4 ?_
 .obtain ⟨_,⟨ts,h,rfl⟩,hp⟩:=h1
  exact ⟨ts,h,hp⟩
 have ln:O (c8 (O c.j7) ([]:List R7))=O c.j7:=List.length_replicate ..;refine gc p1 ?_;refine tc F trivial (λh=>?_) (λh=>?_) (h:=?_)
 .cases h
 .refine gr ?_
  refine Ex.J4 (λk T' H' =>∃(i:Nat) (ts:List (List R7)),i<=O l/\k=O l - i/\T' =[.any,.d (s7 cR.enc l),.ptr 0 0,.any,.d (Q5 ts),.d (Z i)]/\H' =[.cells (c.enc.map .d)]/\jT c ts) ?_ (k:=O l) ⟨0,_,V,V,rfl,rfl,LG c⟩;rintro k T' H' ⟨i,ts,hi,rfl,rfl,rfl,ht⟩;refine Ex.seq ?_;refine tl (i:Int) (O l:Int) (λh1=>?_) (λh1=>?_)
  .have g1:i<O l:=V
   have hxi:=hx _ (C5 g1);obtain ⟨e,p2⟩:=IT c hs hv (Y l i) hxi;obtain ⟨p3,h3⟩:=LQ c hs hv ts ht (Y l i) hxi;refine Ex.skip ?_;refine Ex.seq ?_;refine Ex.block ?_;refine te p2 ?_ ?_
   .refine gc p3 ?_
    exact ⟨O l - (i+1),V,i+1,_,V,rfl,rfl,rfl,h3⟩
   .refine gr ?_
    exact ⟨O l - (i+1),V,i+1,_,V,rfl,rfl,rfl,ht⟩
  .refine gr ?_
   exact ⟨_,rfl,_,ht,rfl⟩
 .intro _
  refine Rn.text ?_;refine gx ?_;refine nsE (enc:=λl=>[tL l]) (xs:=c8 (O c.j7) []) V ?_;refine gx ?_;exact ⟨rfl,rfl,_,rfl,rfl⟩
end Go.Proofs.YtibjocmpkoepoaaGreat


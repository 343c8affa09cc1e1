import Derived.Test.YtibjocmpkoepoaaGreatT0
set_option linter.all false
open Bool renaming false_eq_true→j6,not_eq_false'→B7,or_eq_false_iff→B2,true→W,false→F
open Int renaming toNat_natCast→G6
open List renaming replicate→c8,replicate_succ→M0,take_of_length_le→s9,length→O
open Nat renaming le_refl→k9,zero_le→s8
open Option renaming some→J,none→K
namespace Go.Proofs.YtibjocmpkoepoaaGreat
open Go.z6 Go.z6.S
attribute [local irreducible] Rx Ry Rn Ex Pf Rl
def aw5 (t:cI)(r:S5)(hr:0<O t.o4)(hm:O t.o4<=1000):∃b,Pf A 273 [.agg (t.enc.map .d),.agg (r.enc.map .d)] (.d (.bool b)):=by
 refine Pe.bool (Pe.go 4 ?_);refine gr ?_;refine tc (!s7 (O r.row) (O t.o4)||(!s7 (O r.seq) (O t.o4)|| !(U4 0 r.day&&U4 r.day 1048576))) QC (λh=>?_) (λh=>?_)
 .refine gr ?_
  exact ⟨_,rfl,_,rfl⟩
 simp only [B2,B7] at h;have e1:=W9 h.1;have e2:=W9 h.2.1;refine gr ?_;refine Ex.J1 (λk T' H' =>∃i:Nat,i<=O r.row/\k=O r.row - i/\T' =[.any,.any,.ptr 0 0,.ptr 1 0,.any,.d (Z i)]/\H' =[.cells (t.enc.map .d),.cells (r.enc.map .d)]) ?_ (k:=O r.row) ⟨0,V,V,rfl,rfl⟩;rintro k T' H' ⟨i,hi,rfl,rfl,rfl⟩;refine Ex.seq ?_;refine tl (i:Int) (O r.row:Int) (λh1=>?_) (λh1=>?_)
 .have g1:i<O r.row:=V
  have g2:i<O t.o4:=V
  have g3:i<O r.seq:=V
  have g4:0<O r.seq:=V
  refine Ex.skip ?_;refine Ex.seq ?_;refine Ex.block ?_;refine te (And.intro wY (And.intro Un QC)) ?_ ?_
  .refine gr ?_
   exact ⟨_,rfl,_,rfl⟩
  .refine gr ?_
   exact ⟨O r.row - (i+1),V,i+1,V,rfl,rfl,rfl⟩
 .have g1:0<O r.row:=V
  refine gr ?_;exact ⟨_,rfl,_,rfl⟩
def aw6 (c:p7)(hs:D9 c)(ts:List (List S5))(x:Q1)(v:Vl)(hx:K7 x.refs []=F->0<=eH c x.refs/\eH c x.refs<O ts)(ht:∀i,i<O ts->O (Y ts i)<=64):∃b,Pf A 274 [cat c,.d (R6 ts),.agg (x.enc.map .d),.agg (v.enc.map .d)] (.d (.bool b)):=by
 have p1:=JS c hs x.refs;refine Pe.bool (Pe.go 4 ?_)
 by_cases h:K7 x.refs []=F
 .obtain ⟨k1,k2⟩:=hx h
  have p2:=Uo (Y ts (eH c x.refs).toNat) v (by have:=ht (eH c x.refs).toNat V;omega)
  repeat' (first|refine cl (p1) ?_|refine cl (p2) ?_|refine gx ?_|refine fq (λhw=>?_) λhw=>?_|refine Ex.nG ?_|refine Ex.pQ ?_|refine Ex.cond rfl (λht=>?_) (λht=>?_)|refine Ex.test (Rn.text ?_)|refine Ex.test (Rn.draw ?_)|refine ⟨_,rfl,λht=>?_,λht=>?_⟩|refine ⟨_,rfl,?_⟩|fail)
  all_goals first|exact ⟨_,rfl,_,rfl⟩|exact ⟨_,rfl⟩|rfl
 .have h:K7 x.refs []=W:=by simpa using h
  refine gr ?_;rw [h]
  repeat' (first|refine gx ?_|refine fq (λhw=>?_) λhw=>?_|refine Ex.nG ?_|refine Ex.pQ ?_|refine Ex.cond rfl (λht=>?_) (λht=>?_)|refine Ex.test (Rn.text ?_)|refine Ex.test (Rn.draw ?_)|refine ⟨_,rfl,λht=>?_,λht=>?_⟩|refine ⟨_,rfl,?_⟩|fail)
  all_goals first|exact ⟨_,rfl,_,rfl⟩|exact ⟨_,rfl⟩|rfl
def IL (c:p7)(x:eY):Prop:=Zw (O c.j7) (λi=>O (Y c.j7 i).o4) x
def av6 (c:p7)(x:eY)(hx:IL c x)(hn:O c.j7<=1000)(hm:∀i,i<O c.j7->O (Y c.j7 i).o4<=1000):∃b,Pf A 178 [cat c,.agg (x.enc.map .d)] (.d (.bool b)):=by
 have t0:=hx.t0;have t1:=hx.t1;have hm:=hm x.Q0.toNat V;refine Pe.bool (Pe.go 6 ?_);refine gr ?_;refine te QC ?_ ?_
 .refine gr ?_
  exact ⟨_,rfl,_,rfl⟩
 .refine gr ?_
  refine te trivial ?_ ?_
  .repeat' (first|refine cl (aw4 x.row) ?_|refine gy ?_|refine fq (λhw=>?_) λhw=>?_|refine ⟨_,rfl,?_⟩|fail)
   all_goals first|exact ⟨_,rfl,_,rfl⟩|exact ⟨_,rfl⟩|rfl
  .refine te trivial ?_ ?_
   .repeat' (first|refine cl (QC _ _ _) ?_|refine cl (wY x.key) ?_|refine cl (wY x.val) ?_|refine gy ?_|refine fq (λhw=>?_) λhw=>?_|refine ⟨_,rfl,?_⟩|fail)
    all_goals first|exact ⟨_,rfl,_,rfl⟩|exact ⟨_,rfl⟩|rfl
   .repeat' (first|refine cl (wY x.key) ?_|refine gy ?_|refine fq (λhw=>?_) λhw=>?_|refine ⟨_,rfl,?_⟩|fail)
    all_goals first|exact ⟨_,rfl,_,rfl⟩|exact ⟨_,rfl⟩|rfl
end Go.Proofs.YtibjocmpkoepoaaGreat
namespace Go.z6.S
def fdR {A:Prog}{l:G9}{b:Nat}{dr:Bool}{j8 ops:List x9}{T:List c7}{H:k8}{n:Nat}{rl:List c7}{l6:List Touch}{Q:List c7->k8->List c7->Prop}{x:A4}{i:Nat}{vs:List c7}{v:c7}{u:List Nat}(h2:Ry A l b dr j8 ops T H (n+1) (v::rl) l6 Q)(hx:rq T n rl x= .agg vs:=by rfl)(hv:vs[i]? =J v:=by rfl) :
  Ry A l b dr j8 (⟨.Pw x i,K,K,u⟩::ops) T H n rl l6 Q:=Ry.pure (rs:=[]) rfl (by grind [l5]) h2
end Go.z6.S
namespace Go.Proofs.YtibjocmpkoepoaaGreat
open Go.z6 Go.z6.S
attribute [local irreducible] Rx Ry Rn Ex Pf Rl
theorem Dw {s:I4}:∀(l:List I4) (m i:Nat),0<=I5 s (l.take m) i->0<=I5 s l i/\I5 s l i<i+m
 |_,0,i,h=>by simp [I5] at h
 |[],m+1,i,h=>by simp [I5] at h
 |x::l,m+1,i,h=>by
  simp [List.take_succ_cons,I5] at h ⊢;split at h
  .grind
  .have:=Dw l m (i+1) h
   omega
def IX {c:p7}(hv:C4 c=W){n i:Nat}(hn:n<O c.j7)(hi:i<O (Y c.j7 n).o4):V7 c n i=0:=by
 have hok:=(W6 hv).1;have hnl:=P6 c;have ht:=S8 (hok n (by grind [p7.ns])) hn
 grind [cB,bQ,jD]
def Iw {c:p7}(hv:C4 c=W){n i:Nat}(hn:n<O c.j7)(hi:i<O (Y c.j7 n).o4)(hr:K7 (Y (Y c.j7 n).o4 i).refs []=F):0<=eH c (Y (Y c.j7 n).o4 i).refs/\eH c (Y (Y c.j7 n).o4 i).refs<O c.j7:=by
 have h:=IX hv hn hi;have ht:0<=dm c (Y (Y c.j7 n).o4 i).refs n:=by
  unfold V7 at h;split at h
  .omega
  .split at h
   .omega
   .split at h
    all_goals simp_all [Bool.not_false,Bool.true_and,s4,decide_eq_true_eq]
 have hl:=S3 c;have e:eH c (Y (Y c.j7 n).o4 i).refs=I5 (Y (Y c.j7 n).o4 i).refs (p7.sn c) 0:=by
  simp_all [eH,F0,if_pos,s9]
 have:=Dw _ _ 0 ht;omega
def MF {c:p7}(hv:C4 c=W){n:Nat}(hn:n<O c.j7):je c n=W:=by
 grind [je,R5,r7,s4,p7.ns]
def Pv {c:p7}(hv:C4 c=W){n:Nat}(hn:n<O c.j7):O (fixC c n)<=100:=by
 have h:=ec hv hn;have h1:=wW h.2 _ (k9 _);have h2:=wg (oM (Y c.j7 n).o4 (O (Y c.j7 n).o4)) [0]
 grind [fix_eq,fixC,V8,Y5,oM,Y,Ti,G6]
def av7 (c:p7)(hs:D9 c)(hv:C4 c=W)(i:Nat)(j:Int)(hi:i<O c.j7):∃b,Pf A 181 [cat c,.d (Z i),.d (Z j)] (.d (.bool b)):=by
 have p1:=YE c hs i (MF hv hi);have hl:=Pv hv hi;generalize fixC c i=l at p1 hl;refine Pe.bool (Pe.go 4 ?_);refine gc p1 ?_;refine Ex.J1 (λk T' H' =>∃i:Nat,i<=O l/\k=O l - i/\T' =[.any,.any,.d (Z j),.any,.any,.d (ints l),.d (Z i)]/\H' =[.cells (c.enc.map .d)]) ?_ (k:=O l) ⟨0,V,V,rfl,rfl⟩;rintro k T' H' ⟨i,hi,rfl,rfl,rfl⟩;refine Ex.seq ?_;have e:ints l=x3 (λn=>[Z n]) l:=by rfl
 refine tl (i:Int) (O l:Int) (λh1=>?_) (λh1=>?_)
 .refine Ex.skip ?_
  refine Ex.seq ?_;refine Ex.block ?_;refine te trivial ?_ ?_
  .refine gr ?_
   exact ⟨_,rfl,_,rfl⟩
  .refine gr ?_
   exact ⟨O l - (i+1),V,i+1,V,rfl,rfl,rfl⟩
 .refine gr ?_
  exact ⟨_,rfl,_,rfl⟩
def JP (c:p7)(hs:D9 c)(hv:C4 c=W)(x:eY)(hx:IL c x):∃e,Pf A 122 [cat c,.agg (x.enc.map .d)] (.d (Z e)):=by
 have t0:=hx.t0;have t1:=hx.t1;have c0:=hx.c0;have c1:=hx.c1;have hw:=hx.row;have hm:=λi hi=>(ec (c:=c) hv (n:=i) hi).1
 obtain ⟨i,hi⟩:∃i:Nat,x.Q0=i:=⟨x.Q0.toNat,V⟩;have hit:x.Q0.toNat=i:=V
 have hin:i<O c.j7:=V
 simp only [hit] at c1 hw;have hrl:O x.row<=O (Y c.j7 i).o4:=by rw [hw];split<;>omega
 have hcl:=hm i hin;have yI:=hs.sm.dP.1;obtain ⟨b1,p1⟩:=av6 c x hx V λi hi=>by have:=hm i hi;omega
 have p2:=Um x λe=>by rw [hw,if_pos e];omega
 obtain ⟨b2,p3⟩:=av7 c hs hv i x.col hin;rw [<- hi] at p3;refine Pe.num (Pe.go 5 ?_);refine gr ?_;refine te p1 ?_ ?_
 .refine gr ?_
  exact ⟨_,rfl,_,rfl⟩
 refine gr ?_;refine Ex.EL ?_ ?_ ?_
 .refine Rn.text ?_
  repeat' (first|refine cl p2 ?_|refine fdR ?_|refine gx ?_|exact ⟨rfl,rfl,_,rfl⟩|fail)
 .refine gr ?_
  exact ⟨_,rfl,_,rfl⟩
 obtain ⟨t,hT⟩:∃t,Y c.j7 x.Q0.toNat=t:=⟨_,rfl⟩;rw [<- hit,hT] at c1 hw hrl hcl;refine gr ?_;rw [hT];refine Ex.J1 (λk T' H' =>∃i:Nat,i<=O x.row/\k=O x.row - i/\T' =[.any,.any,.ptr 0 0,.ptr 1 0,.any,.ptr 2 0,.d (Z i)]/\H' =[.cells (c.enc.map .d),.cells (x.enc.map .d),.cells (t.enc.map .d)]) ?_ (k:=O x.row) ⟨0,V,V,rfl,rfl⟩;rintro k T' H' ⟨j,hj,rfl,rfl,rfl⟩;refine Ex.seq ?_;refine tl (j:Int) (O x.row:Int) (λh1=>?_) (λh1=>?_)
 .have g1:j<O x.row:=V
  have g2:j<O t.o4:=V
  refine Ex.skip ?_;refine Ex.seq ?_;refine Ex.block ?_;refine te Un ?_ ?_
  .refine gr ?_
   exact ⟨_,rfl,_,rfl⟩
  .refine gr ?_
   exact ⟨O x.row - (j+1),V,j+1,V,rfl,rfl,rfl⟩
 .have g2:0<O t.o4:=V
  refine gr ?_;refine te (And.intro p2 Un) ?_ ?_
  .refine gr ?_
   exact ⟨_,rfl,_,rfl⟩
  refine gr ?_;refine te p3 ?_ ?_
  .refine gr ?_
   exact ⟨_,rfl,_,rfl⟩
  .refine gr ?_
   exact ⟨_,rfl,_,rfl⟩
def aw3 (c:p7)(hs:D9 c)(hv:C4 c=W)(ts:List (List S5))(hn:O ts=O c.j7)(ht:∀i,i<O ts->O (Y ts i)<=64)(x:eY)(hx:IL c x):∃e,Pf A 235 [cat c,.d (R6 ts),.agg (x.enc.map .d)] (.d (Z e)):=by
 have t0:=hx.t0;have t1:=hx.t1;have c0:=hx.c0;have c1:=hx.c1;have hw:=hx.row;obtain ⟨i,hi⟩:∃i:Nat,x.Q0=i:=⟨x.Q0.toNat,V⟩;have hit:x.Q0.toNat=i:=V
 have hin:i<O c.j7:=V
 have hcl:=(ec hv hin).1;have p2:=Um x λe=>by rw [hw,if_pos e];omega
 have p3:=Uo (Y ts x.Q0.toNat) (uq x) (by have:=ht x.Q0.toNat V;omega);have hrl:O x.row<=O (Y c.j7 x.Q0.toNat).o4:=by rw [hw];split<;>omega
 have p4:∀(k:Nat) (v:Vl),k<O (Y c.j7 x.Q0.toNat).o4->∃b,Pf A 274 [cat c,.d (R6 ts),.agg ((Y (Y c.j7 x.Q0.toNat).o4 k).enc.map .d),.agg (v.enc.map .d)] (.d (.bool b)):=λk v hk=>aw6 c hs ts _ v (λh=>by rw [hn];rw [hit] at hk h ⊢;exact Iw hv hin hk h) ht
 obtain ⟨t,hT⟩:∃t,Y c.j7 x.Q0.toNat=t:=⟨_,rfl⟩;rw [hT] at c1 hw hrl p4;rw [<- hit,hT] at hcl;refine Pe.num (Pe.go 6 ?_);refine gc (And.intro p2 p3) ?_;refine te trivial ?_ ?_
 .refine gr ?_
  exact ⟨_,rfl,_,rfl⟩
 refine te trivial ?_ ?_
 .refine gr ?_
  exact ⟨_,rfl,_,rfl⟩
 refine gr ?_;rw [hT];refine Ex.J1 (λk T' H' =>∃i:Nat,i<=O x.row/\k=O x.row - i/\T' =[.any,.d (R6 ts),.any,.ptr 0 0,.ptr 1 0,.any,.any,.d (x3 Q1.enc t.o4),.d (Z i)]/\H' =[.cells (c.enc.map .d),.cells (x.enc.map .d)]) ?_ (k:=O x.row) ⟨0,V,V,rfl,rfl⟩;rintro k T' H' ⟨j,hj,rfl,rfl,rfl⟩;refine Ex.seq ?_;refine tl (j:Int) (O x.row:Int) (λh1=>?_) (λh1=>?_)
 .have g1:j<O x.row:=V
  have g2:j<O t.o4:=V
  obtain ⟨b,p5⟩:=p4 j (Y x.row j) g2;refine Ex.skip ?_;refine Ex.seq ?_;refine Ex.block ?_;refine te p5 ?_ ?_
  .refine gr ?_
   exact ⟨_,rfl,_,rfl⟩
  .refine gr ?_
   exact ⟨O x.row - (j+1),V,j+1,V,rfl,rfl,rfl⟩
 .obtain ⟨b,p5⟩:=p4 x.col.toNat x.val V
  refine gr ?_;refine te p5 ?_ ?_
  .refine gr ?_
   exact ⟨_,rfl,_,rfl⟩
  refine gr ?_;refine te trivial ?_ ?_
  .refine gr ?_
   exact ⟨_,rfl,_,rfl⟩
  .refine gr ?_
   exact ⟨_,rfl,_,rfl⟩
structure kQ (c:p7)(ts:List (List S5)):Prop where
 n:O ts=O c.j7
 t:Rt (λi=>O (Y c.j7 i).o4) ts
theorem kQ.row {c:p7}(hv:C4 c=W){ts:List (List S5)}(h:kQ c ts){i j:Nat}(hi:i<O ts)(hj:j<O (Y ts i)):O (Y ts i)<=64/\0<O (Y (Y ts i) j).row/\0<O (Y (Y ts i) j).seq/\O (Y (Y ts i) j).row<=8/\O (Y (Y ts i) j).seq<=8:=by
 have h1:=h.t i hi;have h2:=h1.2 _ (E7 hj);have h4:=eS (S8 ((W6 hv).1 i (by have:=P6 c;unfold p7.ns at this;have:=h.n;omega)) (by rw [<- h.n];exact hi));have:=h1.1
 grind
def aw2 (c:p7)(hs:D9 c)(hv:C4 c=W)(ts:List (List S5))(h:kQ c ts):∃e,Pf A 234 [.d (R6 ts)] (.d (Z e)):=by
 have yI:=hs.sm.dP.1;have hn:=h.n;refine Pe.num (Pe.go 5 ?_);refine gr ?_;refine Ex.J1 (λk T' H' =>∃(i:Nat) (q:Int),i<=O ts/\k=O ts - i/\T' =[.d (R6 ts),.any,.d (Z q),.d (Z i),.any,.any]/\H' =[]) ?_ (k:=O ts) ⟨0,0,V,V,rfl,rfl⟩;rintro k T' H' ⟨i,q,hi,rfl,rfl,rfl⟩;refine Ex.seq ?_;refine tl (i:Int) (O ts:Int) (λh1=>?_) (λh1=>?_)
 .have g1:i<O ts:=V
  refine Ex.skip ?_;refine gr ?_;refine Ex.J1 (λk T' H' =>∃(j:Nat) (q:Int),j<=O (Y ts i)/\k=O (Y ts i) - j/\T' =[.d (R6 ts),.any,.d (Z q),.d (Z i),.d (Z j),.any]/\H' =[]) ?_ (k:=O (Y ts i)) ⟨0,q,V,V,rfl,rfl⟩;rintro k T' H' ⟨j,q,hj,rfl,rfl,rfl⟩;refine Ex.seq ?_;refine tl (j:Int) (O (Y ts i):Int) (λh1=>?_) (λh1=>?_)
  .have g2:j<O (Y ts i):=V
   have hr:=h.row hv g1 g2;refine Ex.skip ?_;refine gr ?_;refine Ex.J1 (λk T' H' =>∃(m:Nat) (q:Int),m<=O (Y (Y ts i) j).seq/\k=O (Y (Y ts i) j).seq - m/\T' =[.d (R6 ts),.any,.d (Z q),.d (Z i),.d (Z j),.d (Z m)]/\H' =[]) ?_ (k:=O (Y (Y ts i) j).seq) ⟨0,q,V,V,rfl,rfl⟩;rintro k T' H' ⟨m,q,hm,rfl,rfl,rfl⟩;refine Ex.seq ?_;refine tl (m:Int) (O (Y (Y ts i) j).seq:Int) (λh1=>?_) (λh1=>?_)
   .refine gr ?_
    exact ⟨O (Y (Y ts i) j).seq - (m+1),V,m+1,_,V,rfl,rfl,rfl⟩
   .refine gr ?_
    exact ⟨O (Y ts i) - (j+1),V,j+1,_,V,rfl,rfl,rfl⟩
  .refine gr ?_
   exact ⟨O ts - (i+1),V,i+1,_,V,rfl,rfl,rfl⟩
 .refine gr ?_
  exact ⟨_,rfl,_,rfl⟩
def aw1 (c:p7)(hs:D9 c)(hv:C4 c=W)(ts:List (List S5))(h:kQ c ts):∃b,Pf A 233 [cat c,.d (R6 ts)] (.d (.bool b)):=by
 have yI:=hs.sm.dP.1;have hn:=h.n;have p1:=yR c hs;refine Pe.bool (Pe.go 5 ?_);refine gr ?_;refine te p1 ?_ ?_
 .refine gr ?_
  exact ⟨_,rfl,_,rfl⟩
 refine gr ?_;refine Ex.J1 (λk T' H' =>∃(i:Nat),i<=O ts/\k=O ts - i/\T' =[.any,.d (R6 ts),.ptr 0 0,.any,.d (Z i),.any,.any]/\H' =[.cells (c.enc.map .d)]) ?_ (k:=O ts) ⟨0,V,V,rfl,rfl⟩;rintro k T' H' ⟨i,hi,rfl,rfl,rfl⟩;refine Ex.seq ?_;refine tl (i:Int) (O ts:Int) (λh1=>?_) (λh1=>?_)
 .have g1:i<O ts:=V
  have g0:i<O c.j7:=V
  have hl:=(h.t i g1).1;have hcl:=(ec hv g0).1;have hcg:=(eS (S8 ((W6 hv).1 i (by have:=P6 c;unfold p7.ns at this;omega)) g0)).1;refine Ex.skip ?_;refine Ex.seq ?_;refine gr ?_;refine te trivial ?_ ?_
  .refine gr ?_
   exact ⟨_,rfl,_,rfl⟩
  refine gr ?_;refine Ex.J1 (λk T' H' =>∃(j:Nat),j<=O (Y ts i)/\k=O (Y ts i) - j/\T' =[.any,.d (R6 ts),.ptr 0 0,.any,.d (Z i),.d (Z j),.any]/\H' =[.cells (c.enc.map .d)]) ?_ (k:=O (Y ts i)) ⟨0,V,V,rfl,rfl⟩;rintro k T' H' ⟨j,hj,rfl,rfl,rfl⟩;refine Ex.seq ?_;refine tl (j:Int) (O (Y ts i):Int) (λh1=>?_) (λh1=>?_)
  .have g2:j<O (Y ts i):=V
   have hr:=h.row hv g1 g2;have RX:=(h.row hv g1 (show ((j:Int) - 1).toNat<O (Y ts i) by omega)).2.1;obtain ⟨b,p2⟩:=aw5 (Y c.j7 i) (Y (Y ts i) j) V V;refine Ex.skip ?_;refine Ex.seq ?_;refine Ex.block ?_;refine Ex.seq ?_;refine te (And.intro p2 Up) ?_ ?_
   .refine gr ?_
    exact ⟨_,rfl,_,rfl⟩
   refine gr ?_;refine Ex.J1 (λk T' H' =>∃(m:Nat),m<=j/\k=j - m/\T' =[.any,.d (R6 ts),.ptr 0 0,.any,.d (Z i),.d (Z j),.d (Z m)]/\H' =[.cells (c.enc.map .d)]) ?_ (k:=j) ⟨0,V,V,rfl,rfl⟩;rintro k T' H' ⟨m,hm,rfl,rfl,rfl⟩;refine Ex.seq ?_;refine tl (m:Int) (j:Int) (λh1=>?_) (λh1=>?_)
   .have g3:m<O (Y ts i):=V
    have Jx:=(h.row hv g1 g3).2.2.1;refine Ex.skip ?_;refine Ex.seq ?_;refine Ex.block ?_;refine te trivial ?_ ?_
    .refine gr ?_
     exact ⟨_,rfl,_,rfl⟩
    .refine gr ?_
     exact ⟨j - (m+1),V,m+1,V,rfl,rfl,rfl⟩
   .refine gr ?_
    exact ⟨O (Y ts i) - (j+1),V,j+1,V,rfl,rfl,rfl⟩
  .refine gr ?_
   exact ⟨O ts - (i+1),V,i+1,V,rfl,rfl,rfl⟩
 .refine gr ?_
  exact ⟨_,rfl,_,rfl⟩
end Go.Proofs.YtibjocmpkoepoaaGreat
namespace Go.z6
theorem HJ (H:k8)(n z:Nat):∀(m f:Nat),m<f->aD H n f (c8 m (.own z 0 []))=J (c8 m (.own z 0 []))
 |0,f+1,_=>rfl
 |m+1,f+1,h=>by
  have:=HJ H n z m f V;simp_all [M0,aD]
theorem zu (z:Nat):∀m:Nat,J3 (c8 m (.own z 0 []))=J (c8 m (.slice 0 []))
 |0=>rfl
 |m+1=>by simp [M0,J3,c7.data?,zu z m]
def Kw (m:Nat):R6 (c8 m [])= .slice m (c8 m (.slice 0 [])):=by
 have:∀m:Nat,(c8 m ([]:List S5)).flatMap (λl=>[ux l])=c8 m (.slice 0 []):=λm=>by
  induction m with
  |zero=>rfl
  |succ m ih=>rw [M0,List.flatMap_cons,ih];rfl
 simp_all [R6,x3]
namespace S
def nsE {α:Type}{enc:α->List Data}{xs:List α}{A:Prog}{l:G9}{b:Nat}{dr:Bool}{j8 ops:List x9}{T:List c7}{H:k8}{n:Nat}{rl:List c7}{l6:List Touch}{Q:List c7->k8->List c7->Prop}{x:A4}{neg:Bool}{u:List Nat}(h0:0<O xs)(h2:Ry A l b dr j8 ops T H (n+1) (.d (.bool neg)::rl) l6 Q)(hx:rq T n rl x= .d (x3 enc xs):=by rfl) :
  Ry A l b dr j8 (⟨.yO neg x,K,K,u⟩::ops) T H n rl l6 Q:=Ry.pure (rs:=[]) rfl (by grind [l5,x3]) h2
end S
end Go.z6
namespace Go.Proofs.YtibjocmpkoepoaaGreat
open Go.z6 Go.z6.S
attribute [local irreducible] Rx Ry Rn Ex Pf Rl
def XG (c:p7)(hs:D9 c)(hv:C4 c=W):Pf A 119 [cat c] (.d (R6 (c8 (O c.j7) []))):=by
 have yI:=hs.sm.dP.1;have p1:=yR c hs;refine Pf.go 2 ?_;refine gc p1 ?_;refine tc F p1 (λh=>?_) (λh=>?_)
 .cases h
 refine gr ?_;refine mks (id:=1) (len:=O c.j7) (H2:=[.cells (c.enc.map .d),.cells (c8 (O c.j7) (.own 3 0 []))]) ?_ ?_ rfl ?_
 .grind [qq,rq,Fi,lk,c7.I7]
 .simp
 refine gr ?_;refine ⟨_,?_,rfl⟩;show finish F 0 [.s5 1 1 0 (O c.j7)] [.cells (c.enc.map .d),.cells (c8 (O c.j7) (.own 3 0 []))]=_
 have:=Ma (H:=[.cells (c.enc.map .d),.cells (c8 (O c.j7) (.own 3 0 []))]) (n:=0) (f:=999999) (id:=1) (sz:=1) (len:=O c.j7) (vs:=[]) (s8 _) rfl rfl U (HJ _ 0 3 (O c.j7) 999999 V) (zu 3 (O c.j7));simp_all [finish,j6,if_false,j4,Kw,c7.H7]
def MV (c:p7):kQ c (c8 (O c.j7) []):=by
 refine ⟨U,λi hi=>?_⟩;have:Y (c8 (O c.j7) ([]:List S5)) i=[]:=by
  rw [A7 hi,List.getElem_replicate]
 rw [this];exact ⟨U,λr hr=>by cases hr⟩
def av5 (c:p7)(hs:D9 c)(hv:C4 c=W)(ts:List (List S5))(h:kQ c ts)(x:eY)(hx:IL c x):∃e,Pf A 177 [cat c,.d (R6 ts),.agg (x.enc.map .d)] (.d (Z e)):=by
 obtain ⟨b,p1⟩:=aw1 c hs hv ts h;obtain ⟨e1,p2⟩:=JP c hs hv x hx;obtain ⟨e2,p3⟩:=aw2 c hs hv ts h;obtain ⟨e3,p4⟩:=aw3 c hs hv ts h.n (λi hi=>(h.t i hi).1) x hx;refine Pe.num (Pe.go 4 ?_);refine gr ?_;refine te p1 ?_ ?_
 .refine gr ?_
  exact ⟨_,rfl,_,rfl⟩
 refine gc p2 ?_;refine te trivial ?_ ?_
 .refine gr ?_
  exact ⟨_,rfl,_,rfl⟩
 refine gr ?_;refine te p3 ?_ ?_
 .refine gr ?_
  exact ⟨_,rfl,_,rfl⟩
 .refine gc p4 ?_
  exact ⟨_,rfl,_,rfl⟩
def Si {c:p7}(hv:C4 c=W):∀i,i<O c.j7->1<=O (Y c.j7 i).o4/\O (Y c.j7 i).o4<=100:=λi hi=>by
 have h4:=eS (S8 ((W6 hv).1 i (by have:=P6 c;grind [p7.ns])) hi);omega
def Nh (c:p7)(hs:D9 c)(hv:C4 c=W)(ts:List (List S5))(h:kQ c ts)(x:eY)(hx:IL c x):Pf A 123 [.d (R6 ts),.agg (x.enc.map .d)] (.d (R6 (U9 ts x)))/\kQ c (U9 ts x):=by
 have yI:=hs.sm.dP.1;have hp:=lV h.t h.n hx;exact ⟨au9 _ (O c.j7) ts x h.n yI h.t hx (Si hv),hp.2,hp.1⟩
def Gn (c:p7)(hs:D9 c)(hv:C4 c=W)(ts:List (List S5))(h:kQ c ts)(x:eY)(hx:IL c x):∃v e,Pf A 121 [cat c,.d (R6 ts),.agg (x.enc.map .d)] (.tuple [.d v,.d (Z e)])/\(e=0->v=R6 (U9 ts x)):=by
 obtain ⟨e,p1⟩:=av5 c hs hv ts h x hx;have p2:=(Nh c hs hv ts h x hx).1
 rcases Decidable.em (e=0) with he|he
 .refine ⟨_,0,?_,λ_=>rfl⟩
  refine Pf.go 5 ?_;refine gc p1 ?_;refine tc F trivial (λh=>by cases h) (λh=>?_);refine gc p2 ?_;exact ⟨_,rfl,rfl⟩
 .refine ⟨.slice 0 [],e,?_,λh=>absurd h he⟩
  refine Pf.go 5 ?_;refine gc p1 ?_;refine tc W trivial (λh=>?_) (λh=>by cases h);refine gr ?_;exact ⟨_,rfl,rfl⟩
def p67 (c:p7)(hs:D9 c)(hv:C4 c=W)(h0:0<O c.j7)(l:List eY)(hl:O l<=1000)(hx:∀x∈l,IL c x):∃ts,kQ c ts/\Pf A 67 [cat c,.d (x3 eY.enc l)] (.d (R6 ts)):=by
 have yI:=hs.sm.dP.1;have p1:=XG c hs hv;have h1:=Pe.go (A:=A) (f:=67) (args:=[cat c,.d (x3 eY.enc l)]) (P:=λv=>∃ts,kQ c ts/\v= .d (R6 ts)) 4 ?_
 .obtain ⟨_,⟨ts,h,rfl⟩,hp⟩:=h1
  exact ⟨ts,h,hp⟩
 have ln:O (c8 (O c.j7) ([]:List S5))=O c.j7:=List.length_replicate ..;refine gc p1 ?_;refine tc F trivial (λh=>?_) (λh=>?_) (h:=?_)
 .cases h
 .refine gr ?_
  refine Ex.J1 (λk T' H' =>∃(i:Nat) (ts:List (List S5)),i<=O l/\k=O l - i/\T' =[.any,.d (x3 eY.enc l),.ptr 0 0,.any,.d (R6 ts),.d (Z i)]/\H' =[.cells (c.enc.map .d)]/\kQ c ts) ?_ (k:=O l) ⟨0,_,V,V,rfl,rfl,MV c⟩;rintro k T' H' ⟨i,ts,hi,rfl,rfl,rfl,ht⟩;refine Ex.seq ?_;refine tl (i:Int) (O l:Int) (λh1=>?_) (λh1=>?_)
  .have g1:i<O l:=V
   have hxi:=hx _ (E7 g1);obtain ⟨e,p2⟩:=JP c hs hv (Y l i) hxi;obtain ⟨p3,h3⟩:=Nh c hs hv ts ht (Y l i) hxi;refine Ex.skip ?_;refine Ex.seq ?_;refine Ex.block ?_;refine te p2 ?_ ?_
   .refine gc p3 ?_
    exact ⟨O l - (i+1),V,i+1,_,V,rfl,rfl,rfl,h3⟩
   .refine gr ?_
    exact ⟨O l - (i+1),V,i+1,_,V,rfl,rfl,rfl,ht⟩
  .refine gr ?_
   exact ⟨_,rfl,_,ht,rfl⟩
 .intro _
  refine Rn.text ?_;refine gx ?_;refine nsE (enc:=λl=>[ux l]) (xs:=c8 (O c.j7) []) V ?_;refine gx ?_;exact ⟨rfl,rfl,_,rfl,rfl⟩
end Go.Proofs.YtibjocmpkoepoaaGreat


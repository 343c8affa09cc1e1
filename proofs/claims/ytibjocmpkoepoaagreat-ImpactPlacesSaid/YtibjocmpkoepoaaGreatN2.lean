import Derived.Test.YtibjocmpkoepoaaGreatT4
import Derived.Test.YtibjocmpkoepoaaGreatT2
set_option linter.all false
open Bool renaming false_eq_true→e8,not_eq_false'→D5,or_eq_false_iff→E5,true→W,false→F
open List renaming replicate→c9,take_of_length_le→y6,length→O
open Nat renaming le_refl→o6,zero_le→A4
open Option renaming some→J,none→K
namespace Go.Proofs.YtibjocmpkoepoaaGreat
open Go.B3 Go.B3.S
attribute [local irreducible] Rx Ry Rn Ex Pf Rl
def bM6 (t:jt)(r:X9)(hr:0<O t.p9)(hm:O t.p9<=1000):∃b,Pf A 273 [.agg (t.enc.map .d),.agg (r.enc.map .d)] (.d (.bool b)):=by
 refine Pe.bool (Pe.go 4 ?_);refine gr ?_;refine tc (!A1 (O r.row) (O t.p9)||(!A1 (O r.seq) (O t.p9)|| !(bC 0 r.day&&bC r.day 1048576))) ar3 (λh=>?_) (λh=>?_)
 .refine gr ?_
  exact ⟨_,rfl,_,rfl⟩
 simp only [E5,D5] at h;have e1:=aT h.1;have e2:=aT h.2.1;refine gr ?_;refine Ex.R8 (λk T' H' =>∃i:Nat,i<=O r.row/\k=O r.row - i/\T' =[.any,.any,.ptr 0 0,.ptr 1 0,.any,.d (Z i)]/\H' =[.cells (t.enc.map .d),.cells (r.enc.map .d)]) ?_ (k:=O r.row) ⟨0,V,V,rfl,rfl⟩;rintro k T' H' ⟨i,hi,rfl,rfl,rfl⟩;refine Ex.seq ?_;refine tl (i:Int) (O r.row:Int) (λh1=>?_) (λh1=>?_)
 .have g1:i<O r.row:=V
  have g2:i<O t.p9:=V
  have g3:i<O r.seq:=V
  have g4:0<O r.seq:=V
  refine Ex.skip ?_;refine Ex.seq ?_;refine Ex.block ?_;refine te (And.intro Dd (And.intro aN0 ar3)) ?_ ?_
  .refine gr ?_
   exact ⟨_,rfl,_,rfl⟩
  .refine gr ?_
   exact ⟨O r.row - (i+1),V,i+1,V,rfl,rfl,rfl⟩
 .have g1:0<O r.row:=V
  refine gr ?_;exact ⟨_,rfl,_,rfl⟩
def bM7 (c:s6)(hs:J8 c)(ts:List (List X9))(x:dY)(v:Vl)(hx:Q2 x.refs []=F->0<=oE c x.refs/\oE c x.refs<O ts)(ht:∀i,i<O ts->O (Y ts i)<=64):∃b,Pf A 274 [cat c,.d (V9 ts),.agg (x.enc.map .d),.agg (v.enc.map .d)] (.d (.bool b)):=by
 have p1:=aN5 c hs x.refs;refine Pe.bool (Pe.go 4 ?_)
 by_cases h:Q2 x.refs []=F
 .obtain ⟨k1,k2⟩:=hx h
  have p2:=aN1 (Y ts (oE c x.refs).toNat) v (by have:=ht (oE c x.refs).toNat V;omega)
  repeat' (first|refine cl (p1) ?_|refine cl (p2) ?_|refine gx ?_|refine fq (λhw=>?_) λhw=>?_|refine Ex.tq ?_|refine Ex.vj ?_|refine Ex.cond rfl (λht=>?_) (λht=>?_)|refine Ex.test (Rn.text ?_)|refine Ex.test (Rn.draw ?_)|refine ⟨_,rfl,λht=>?_,λht=>?_⟩|refine ⟨_,rfl,?_⟩|fail)
  all_goals first|exact ⟨_,rfl,_,rfl⟩|exact ⟨_,rfl⟩|rfl
 .have h:Q2 x.refs []=W:=by simpa using h
  refine gr ?_;rw [h]
  repeat' (first|refine gx ?_|refine fq (λhw=>?_) λhw=>?_|refine Ex.tq ?_|refine Ex.vj ?_|refine Ex.cond rfl (λht=>?_) (λht=>?_)|refine Ex.test (Rn.text ?_)|refine Ex.test (Rn.draw ?_)|refine ⟨_,rfl,λht=>?_,λht=>?_⟩|refine ⟨_,rfl,?_⟩|fail)
  all_goals first|exact ⟨_,rfl,_,rfl⟩|exact ⟨_,rfl⟩|rfl
def Up (c:s6)(x:jw):Prop:=OkC (O c.k9) (λi=>O (Y c.k9 i).p9) x
def bM0 (c:s6)(x:jw)(hx:Up c x)(hn:O c.k9<=1000)(hm:∀i,i<O c.k9->O (Y c.k9 i).p9<=1000):∃b,Pf A 178 [cat c,.agg (x.enc.map .d)] (.d (.bool b)):=by
 have t0:=hx.t0;have t1:=hx.t1;have hm:=hm x.W5.toNat V;refine Pe.bool (Pe.go 6 ?_);refine gr ?_;refine te ar3 ?_ ?_
 .refine gr ?_
  exact ⟨_,rfl,_,rfl⟩
 .refine gr ?_
  refine te trivial ?_ ?_
  .repeat' (first|refine cl (bM5 x.row) ?_|refine gy ?_|refine fq (λhw=>?_) λhw=>?_|refine ⟨_,rfl,?_⟩|fail)
   all_goals first|exact ⟨_,rfl,_,rfl⟩|exact ⟨_,rfl⟩|rfl
  .refine te trivial ?_ ?_
   .repeat' (first|refine cl (ar3 _ _ _) ?_|refine cl (Dd x.key) ?_|refine cl (Dd x.val) ?_|refine gy ?_|refine fq (λhw=>?_) λhw=>?_|refine ⟨_,rfl,?_⟩|fail)
    all_goals first|exact ⟨_,rfl,_,rfl⟩|exact ⟨_,rfl⟩|rfl
   .repeat' (first|refine cl (Dd x.key) ?_|refine gy ?_|refine fq (λhw=>?_) λhw=>?_|refine ⟨_,rfl,?_⟩|fail)
    all_goals first|exact ⟨_,rfl,_,rfl⟩|exact ⟨_,rfl⟩|rfl
end Go.Proofs.YtibjocmpkoepoaaGreat
namespace Go.B3.S
def fdR {A:Prog}{l:H8}{b:Nat}{dr:Bool}{j9 ops:List o4}{T:List c7}{H:n9}{n:Nat}{rl:List c7}{o5:List Touch}{Q:List c7->n9->List c7->Prop}{x:z6}{i:Nat}{vs:List c7}{v:c7}{u:List Nat}(h2:Ry A l b dr j9 ops T H (n+1) (v::rl) o5 Q)(hx:rq T n rl x= .agg vs:=by rfl)(hv:vs[i]? =J v:=by rfl) :
  Ry A l b dr j9 (⟨.fld x i,K,K,u⟩::ops) T H n rl o5 Q:=Ry.pure (rs:=[]) rfl (by simp [l8,hx,hv]) h2
end Go.B3.S
namespace Go.Proofs.YtibjocmpkoepoaaGreat
open Go.B3 Go.B3.S
attribute [local irreducible] Rx Ry Rn Ex Pf Rl
theorem Ln {s:M6}:∀(l:List M6) (m i:Nat),0<=K6 s (l.take m) i->0<=K6 s l i/\K6 s l i<i+m
 |_,0,i,h=>by simp [K6] at h
 |[],m+1,i,h=>by simp [K6] at h
 |x::l,m+1,i,h=>by
  simp only [List.take_succ_cons,K6] at h ⊢;split at h
  next e=>
   rw [if_pos e];omega
  next e=>
   rw [if_neg e];have:=Ln l m (i+1) h;omega
def Uz {c:s6}(hv:M1 c=W){n i:Nat}(hn:n<O c.k9)(hi:i<O (Y c.k9 n).p9):aO c n i=0:=by
 have hok:=(eG hv).1;have hnl:=Y3 c;have ht:=Z9 (hok n (by unfold s6.ns at hnl;omega)) hn;have h8:=(fN ht).2;unfold fh at ht;split at ht
 .omega
 .exact ov c n _ 0 ht i V V
def RS {c:s6}(hv:M1 c=W){n i:Nat}(hn:n<O c.k9)(hi:i<O (Y c.k9 n).p9)(hr:Q2 (Y (Y c.k9 n).p9 i).refs []=F):0<=oE c (Y (Y c.k9 n).p9 i).refs/\oE c (Y (Y c.k9 n).p9 i).refs<O c.k9:=by
 have h:=Uz hv hn hi;have ht:0<=gb c (Y (Y c.k9 n).p9 i).refs n:=by
  unfold aO at h;split at h
  .omega
  .split at h
   .omega
   .split at h
    .omega
    next h1=>
     rw [hr] at h1;simp only [Bool.not_false,Bool.true_and,A5,decide_eq_true_eq] at h1;omega
 unfold gb K7 at ht;have hl:=aQ c;have e:oE c (Y (Y c.k9 n).p9 i).refs=K6 (Y (Y c.k9 n).p9 i).refs (s6.sn c) 0:=by
  unfold oE K7;rw [hv,if_pos rfl,y6 V]
 rw [e];have:=Ln _ _ 0 ht;omega
def Yc {c:s6}(hv:M1 c=W){n:Nat}(hn:n<O c.k9):CB c n=W:=by
 unfold CB;rw [show kQ c n=W by unfold kQ;rw [hv];simp [A7,A5,s6.ns];omega];simp [A5];omega
def al3 {c:s6}(hv:M1 c=W){n:Nat}(hn:n<O c.k9):O (fixC c n)<=100:=by
 have h:=aA hv hn;have h1:=Db h.2 _ (o6 _);have h2:=Cs (uD (Y c.k9 n).p9 (O (Y c.k9 n).p9)) [0];rw [fix_eq] at h2;have e:fixC c n=eZ (kZ (0::uD (Y c.k9 n).p9 (O (Y c.k9 n).p9))):=by unfold fixC aH9;rw [Int.toNat_natCast]
 rw [e];simp at h2;omega
def bM1 (c:s6)(hs:J8 c)(hv:M1 c=W)(i:Nat)(j:Int)(hi:i<O c.k9):∃b,Pf A 181 [cat c,.d (Z i),.d (Z j)] (.d (.bool b)):=by
 have p1:=bh6 c hs i (Yc hv hi);have hl:=al3 hv hi;generalize fixC c i=l at p1 hl;refine Pe.bool (Pe.go 4 ?_);refine gc p1 ?_;refine Ex.R8 (λk T' H' =>∃i:Nat,i<=O l/\k=O l - i/\T' =[.any,.any,.d (Z j),.any,.any,.d (ints l),.d (Z i)]/\H' =[.cells (c.enc.map .d)]) ?_ (k:=O l) ⟨0,V,V,rfl,rfl⟩;rintro k T' H' ⟨i,hi,rfl,rfl,rfl⟩;refine Ex.seq ?_;have e:ints l=B8 (λn=>[Z n]) l:=by simp [ints,B8]
 rw [e];refine tl (i:Int) (O l:Int) (λh1=>?_) (λh1=>?_)
 .have g1:i<O l:=V
  refine Ex.skip ?_;refine Ex.seq ?_;refine Ex.block ?_;refine te trivial ?_ ?_
  .refine gr ?_
   exact ⟨_,rfl,_,rfl⟩
  .refine gr ?_
   exact ⟨O l - (i+1),V,i+1,V,rfl,rfl,rfl⟩
 .refine gr ?_
  exact ⟨_,rfl,_,rfl⟩
def Vu (c:s6)(hs:J8 c)(hv:M1 c=W)(x:jw)(hx:Up c x):∃e,Pf A 122 [cat c,.agg (x.enc.map .d)] (.d (Z e)):=by
 have t0:=hx.t0;have t1:=hx.t1;have c0:=hx.c0;have c1:=hx.c1;have hw:=hx.row;have hm:=λi hi=>(aA (c:=c) hv (n:=i) hi).1
 obtain ⟨i,hi⟩:∃i:Nat,x.W5=i:=⟨x.W5.toNat,V⟩;have hit:x.W5.toNat=i:=V
 have hin:i<O c.k9:=V
 simp only [hit] at c1 hw;have hrl:O x.row<=O (Y c.k9 i).p9:=by rw [hw];split<;>omega
 have hcl:=hm i hin;have EX:=hs.sm.lH.1;obtain ⟨b1,p1⟩:=bM0 c x hx V λi hi=>by have:=hm i hi;omega
 have p2:=aM9 x λe=>by rw [hw,if_pos e];omega
 obtain ⟨b2,p3⟩:=bM1 c hs hv i x.col hin;rw [<- hi] at p3;refine Pe.num (Pe.go 5 ?_);refine gr ?_;refine te p1 ?_ ?_
 .refine gr ?_
  exact ⟨_,rfl,_,rfl⟩
 refine gr ?_;refine Ex.aC8 ?_ ?_ ?_
 .refine Rn.text ?_
  repeat' (first|refine cl p2 ?_|refine fdR ?_|refine gx ?_|exact ⟨rfl,rfl,_,rfl⟩|fail)
 .refine gr ?_
  exact ⟨_,rfl,_,rfl⟩
 obtain ⟨t,hT⟩:∃t,Y c.k9 x.W5.toNat=t:=⟨_,rfl⟩;rw [<- hit,hT] at c1 hw hrl hcl;refine gr ?_;rw [hT];refine Ex.R8 (λk T' H' =>∃i:Nat,i<=O x.row/\k=O x.row - i/\T' =[.any,.any,.ptr 0 0,.ptr 1 0,.any,.ptr 2 0,.d (Z i)]/\H' =[.cells (c.enc.map .d),.cells (x.enc.map .d),.cells (t.enc.map .d)]) ?_ (k:=O x.row) ⟨0,V,V,rfl,rfl⟩;rintro k T' H' ⟨j,hj,rfl,rfl,rfl⟩;refine Ex.seq ?_;refine tl (j:Int) (O x.row:Int) (λh1=>?_) (λh1=>?_)
 .have g1:j<O x.row:=V
  have g2:j<O t.p9:=V
  refine Ex.skip ?_;refine Ex.seq ?_;refine Ex.block ?_;refine te aN0 ?_ ?_
  .refine gr ?_
   exact ⟨_,rfl,_,rfl⟩
  .refine gr ?_
   exact ⟨O x.row - (j+1),V,j+1,V,rfl,rfl,rfl⟩
 .have g2:0<O t.p9:=V
  refine gr ?_;refine te (And.intro p2 aN0) ?_ ?_
  .refine gr ?_
   exact ⟨_,rfl,_,rfl⟩
  refine gr ?_;refine te p3 ?_ ?_
  .refine gr ?_
   exact ⟨_,rfl,_,rfl⟩
  .refine gr ?_
   exact ⟨_,rfl,_,rfl⟩
def bM4 (c:s6)(hs:J8 c)(hv:M1 c=W)(ts:List (List X9))(hn:O ts=O c.k9)(ht:∀i,i<O ts->O (Y ts i)<=64)(x:jw)(hx:Up c x):∃e,Pf A 235 [cat c,.d (V9 ts),.agg (x.enc.map .d)] (.d (Z e)):=by
 have t0:=hx.t0;have t1:=hx.t1;have c0:=hx.c0;have c1:=hx.c1;have hw:=hx.row;obtain ⟨i,hi⟩:∃i:Nat,x.W5=i:=⟨x.W5.toNat,V⟩;have hit:x.W5.toNat=i:=V
 have hin:i<O c.k9:=V
 have hcl:=(aA hv hin).1;have p2:=aM9 x λe=>by rw [hw,if_pos e];omega
 have p3:=aN1 (Y ts x.W5.toNat) (AG x) (by have:=ht x.W5.toNat V;omega);have hrl:O x.row<=O (Y c.k9 x.W5.toNat).p9:=by rw [hw];split<;>omega
 have p4:∀(k:Nat) (v:Vl),k<O (Y c.k9 x.W5.toNat).p9->∃b,Pf A 274 [cat c,.d (V9 ts),.agg ((Y (Y c.k9 x.W5.toNat).p9 k).enc.map .d),.agg (v.enc.map .d)] (.d (.bool b)):=λk v hk=>bM7 c hs ts _ v (λh=>by rw [hn];rw [hit] at hk h ⊢;exact RS hv hin hk h) ht
 obtain ⟨t,hT⟩:∃t,Y c.k9 x.W5.toNat=t:=⟨_,rfl⟩;rw [hT] at c1 hw hrl p4;rw [<- hit,hT] at hcl;refine Pe.num (Pe.go 6 ?_);refine gc (And.intro p2 p3) ?_;refine te trivial ?_ ?_
 .refine gr ?_
  exact ⟨_,rfl,_,rfl⟩
 refine te trivial ?_ ?_
 .refine gr ?_
  exact ⟨_,rfl,_,rfl⟩
 refine gr ?_;rw [hT];refine Ex.R8 (λk T' H' =>∃i:Nat,i<=O x.row/\k=O x.row - i/\T' =[.any,.d (V9 ts),.any,.ptr 0 0,.ptr 1 0,.any,.any,.d (B8 dY.enc t.p9),.d (Z i)]/\H' =[.cells (c.enc.map .d),.cells (x.enc.map .d)]) ?_ (k:=O x.row) ⟨0,V,V,rfl,rfl⟩;rintro k T' H' ⟨j,hj,rfl,rfl,rfl⟩;refine Ex.seq ?_;refine tl (j:Int) (O x.row:Int) (λh1=>?_) (λh1=>?_)
 .have g1:j<O x.row:=V
  have g2:j<O t.p9:=V
  obtain ⟨b,p5⟩:=p4 j (Y x.row j) g2;refine Ex.skip ?_;refine Ex.seq ?_;refine Ex.block ?_;refine te p5 ?_ ?_
  .refine gr ?_
   exact ⟨_,rfl,_,rfl⟩
  .refine gr ?_
   exact ⟨O x.row - (j+1),V,j+1,V,rfl,rfl,rfl⟩
 .obtain ⟨b,p5⟩:=p4 x.col.toNat x.val V
  refine gr ?_;refine te p5 ?_ ?_
  .refine gr ?_
   exact ⟨_,rfl,_,rfl⟩
  refine gr ?_;refine te trivial ?_ ?_
  .refine gr ?_
   exact ⟨_,rfl,_,rfl⟩
  .refine gr ?_
   exact ⟨_,rfl,_,rfl⟩
structure qf (c:s6)(ts:List (List X9)):Prop where
 n:O ts=O c.k9
 t:OkT (λi=>O (Y c.k9 i).p9) ts
theorem qf.row {c:s6}(hv:M1 c=W){ts:List (List X9)}(h:qf c ts){i j:Nat}(hi:i<O ts)(hj:j<O (Y ts i)):O (Y ts i)<=64/\0<O (Y (Y ts i) j).row/\0<O (Y (Y ts i) j).seq/\O (Y (Y ts i) j).row<=8/\O (Y (Y ts i) j).seq<=8:=by
 have h1:=h.t i hi;have h2:=h1.2 _ (P6 hj);have h3:=aA hv (by rw [<- h.n];exact hi);have h4:=lz (Z9 ((eG hv).1 i (by have:=Y3 c;unfold s6.ns at this;have:=h.n;omega)) (by rw [<- h.n];exact hi));have:=h1.1;simp only at h2;omega
def bM3 (c:s6)(hs:J8 c)(hv:M1 c=W)(ts:List (List X9))(h:qf c ts):∃e,Pf A 234 [.d (V9 ts)] (.d (Z e)):=by
 have EX:=hs.sm.lH.1;have hn:=h.n;refine Pe.num (Pe.go 5 ?_);refine gr ?_;refine Ex.R8 (λk T' H' =>∃(i:Nat) (q:Int),i<=O ts/\k=O ts - i/\T' =[.d (V9 ts),.any,.d (Z q),.d (Z i),.any,.any]/\H' =[]) ?_ (k:=O ts) ⟨0,0,V,V,rfl,rfl⟩;rintro k T' H' ⟨i,q,hi,rfl,rfl,rfl⟩;refine Ex.seq ?_;refine tl (i:Int) (O ts:Int) (λh1=>?_) (λh1=>?_)
 .have g1:i<O ts:=V
  have hl:=(h.t i g1).1;refine Ex.skip ?_;refine Ex.seq ?_;refine gr ?_;refine Ex.R8 (λk T' H' =>∃(j:Nat) (q:Int),j<=O (Y ts i)/\k=O (Y ts i) - j/\T' =[.d (V9 ts),.any,.d (Z q),.d (Z i),.d (Z j),.any]/\H' =[]) ?_ (k:=O (Y ts i)) ⟨0,q,V,V,rfl,rfl⟩;rintro k T' H' ⟨j,q,hj,rfl,rfl,rfl⟩;refine Ex.seq ?_;refine tl (j:Int) (O (Y ts i):Int) (λh1=>?_) (λh1=>?_)
  .have g2:j<O (Y ts i):=V
   have hr:=h.row hv g1 g2;refine Ex.skip ?_;refine Ex.seq ?_;refine gr ?_;refine Ex.R8 (λk T' H' =>∃(m:Nat) (q:Int),m<=O (Y (Y ts i) j).seq/\k=O (Y (Y ts i) j).seq - m/\T' =[.d (V9 ts),.any,.d (Z q),.d (Z i),.d (Z j),.d (Z m)]/\H' =[]) ?_ (k:=O (Y (Y ts i) j).seq) ⟨0,q,V,V,rfl,rfl⟩;rintro k T' H' ⟨m,q,hm,rfl,rfl,rfl⟩;refine Ex.seq ?_;refine tl (m:Int) (O (Y (Y ts i) j).seq:Int) (λh1=>?_) (λh1=>?_)
   .have g3:m<O (Y (Y ts i) j).seq:=V
    refine gr ?_;exact ⟨O (Y (Y ts i) j).seq - (m+1),V,m+1,_,V,rfl,rfl,rfl⟩
   .refine gr ?_
    exact ⟨O (Y ts i) - (j+1),V,j+1,_,V,rfl,rfl,rfl⟩
  .refine gr ?_
   exact ⟨O ts - (i+1),V,i+1,_,V,rfl,rfl,rfl⟩
 .refine gr ?_
  exact ⟨_,rfl,_,rfl⟩
def bM2 (c:s6)(hs:J8 c)(hv:M1 c=W)(ts:List (List X9))(h:qf c ts):∃b,Pf A 233 [cat c,.d (V9 ts)] (.d (.bool b)):=by
 have EX:=hs.sm.lH.1;have hn:=h.n;have p1:=Vx c hs;refine Pe.bool (Pe.go 5 ?_);refine gr ?_;refine te p1 ?_ ?_
 .refine gr ?_
  exact ⟨_,rfl,_,rfl⟩
 refine gr ?_;refine Ex.R8 (λk T' H' =>∃(i:Nat),i<=O ts/\k=O ts - i/\T' =[.any,.d (V9 ts),.ptr 0 0,.any,.d (Z i),.any,.any]/\H' =[.cells (c.enc.map .d)]) ?_ (k:=O ts) ⟨0,V,V,rfl,rfl⟩;rintro k T' H' ⟨i,hi,rfl,rfl,rfl⟩;refine Ex.seq ?_;refine tl (i:Int) (O ts:Int) (λh1=>?_) (λh1=>?_)
 .have g1:i<O ts:=V
  have g0:i<O c.k9:=V
  have hl:=(h.t i g1).1;have hcl:=(aA hv g0).1;have hcg:=(lz (Z9 ((eG hv).1 i (by have:=Y3 c;unfold s6.ns at this;omega)) g0)).1;refine Ex.skip ?_;refine Ex.seq ?_;refine gr ?_;refine te trivial ?_ ?_
  .refine gr ?_
   exact ⟨_,rfl,_,rfl⟩
  refine gr ?_;refine Ex.R8 (λk T' H' =>∃(j:Nat),j<=O (Y ts i)/\k=O (Y ts i) - j/\T' =[.any,.d (V9 ts),.ptr 0 0,.any,.d (Z i),.d (Z j),.any]/\H' =[.cells (c.enc.map .d)]) ?_ (k:=O (Y ts i)) ⟨0,V,V,rfl,rfl⟩;rintro k T' H' ⟨j,hj,rfl,rfl,rfl⟩;refine Ex.seq ?_;refine tl (j:Int) (O (Y ts i):Int) (λh1=>?_) (λh1=>?_)
  .have g2:j<O (Y ts i):=V
   have hr:=h.row hv g1 g2;have hr0:=(h.row hv g1 (show ((j:Int) - 1).toNat<O (Y ts i) by omega)).2.1;obtain ⟨b,p2⟩:=bM6 (Y c.k9 i) (Y (Y ts i) j) V V;refine Ex.skip ?_;refine Ex.seq ?_;refine Ex.block ?_;refine Ex.seq ?_;refine te (And.intro p2 aN2) ?_ ?_
   .refine gr ?_
    exact ⟨_,rfl,_,rfl⟩
   refine gr ?_;refine Ex.R8 (λk T' H' =>∃(m:Nat),m<=j/\k=j - m/\T' =[.any,.d (V9 ts),.ptr 0 0,.any,.d (Z i),.d (Z j),.d (Z m)]/\H' =[.cells (c.enc.map .d)]) ?_ (k:=j) ⟨0,V,V,rfl,rfl⟩;rintro k T' H' ⟨m,hm,rfl,rfl,rfl⟩;refine Ex.seq ?_;refine tl (m:Int) (j:Int) (λh1=>?_) (λh1=>?_)
   .have g3:m<O (Y ts i):=V
    have Va:=(h.row hv g1 g3).2.2.1;refine Ex.skip ?_;refine Ex.seq ?_;refine Ex.block ?_;refine te trivial ?_ ?_
    .refine gr ?_
     exact ⟨_,rfl,_,rfl⟩
    .refine gr ?_
     exact ⟨j - (m+1),V,m+1,V,rfl,rfl,rfl⟩
   .refine gr ?_
    exact ⟨O (Y ts i) - (j+1),V,j+1,V,rfl,rfl,rfl⟩
  .refine gr ?_
   exact ⟨O ts - (i+1),V,i+1,V,rfl,rfl,rfl⟩
 .refine gr ?_
  exact ⟨_,rfl,_,rfl⟩
end Go.Proofs.YtibjocmpkoepoaaGreat
namespace Go.B3
theorem Re (H:n9)(n z:Nat):∀(m f:Nat),m<f->X4 H n f (c9 m (.own z 0 []))=J (c9 m (.own z 0 []))
 |0,f+1,_=>rfl
 |m+1,f+1,h=>by
  have:=Re H n z m f V;simp only [List.replicate_succ,X4,this]
theorem FB (z:Nat):∀m:Nat,L5 (c9 m (.own z 0 []))=J (c9 m (.slice 0 []))
 |0=>rfl
 |m+1=>by simp [List.replicate_succ,L5,c7.data?,FB z m]
def We (m:Nat):V9 (c9 m [])= .slice m (c9 m (.slice 0 [])):=by
 have:∀m:Nat,(c9 m ([]:List X9)).flatMap (λl=>[AN l])=c9 m (.slice 0 []):=λm=>by
  induction m with
  |zero=>rfl
  |succ m ih=>rw [List.replicate_succ,List.flatMap_cons,ih];rfl
 rw [V9,B8,this,List.length_replicate]
namespace S
def nsE {α:Type}{enc:α->List Data}{xs:List α}{A:Prog}{l:H8}{b:Nat}{dr:Bool}{j9 ops:List o4}{T:List c7}{H:n9}{n:Nat}{rl:List c7}{o5:List Touch}{Q:List c7->n9->List c7->Prop}{x:z6}{neg:Bool}{u:List Nat}(h0:0<O xs)(h2:Ry A l b dr j9 ops T H (n+1) (.d (.bool neg)::rl) o5 Q)(hx:rq T n rl x= .d (B8 enc xs):=by rfl) :
  Ry A l b dr j9 (⟨.AJ neg x,K,K,u⟩::ops) T H n rl o5 Q:=Ry.pure (rs:=[]) rfl (by simp [l8,hx,B8,h0]) h2
end S
end Go.B3
namespace Go.Proofs.YtibjocmpkoepoaaGreat
open Go.B3 Go.B3.S
attribute [local irreducible] Rx Ry Rn Ex Pf Rl
def bd6 (c:s6)(hs:J8 c)(hv:M1 c=W):Pf A 119 [cat c] (.d (V9 (c9 (O c.k9) []))):=by
 have EX:=hs.sm.lH.1;have p1:=Vx c hs;rw [hv] at p1;refine Pf.go 2 ?_;refine gc p1 ?_;refine tc F p1 (λh=>?_) (λh=>?_)
 .cases h
 refine gr ?_;refine mks (id:=1) (len:=O c.k9) (H2:=[.cells (c.enc.map .d),.cells (c9 (O c.k9) (.own 3 0 []))]) ?_ ?_ rfl ?_
 .have:(O c.k9:Int)<=1000000:=V
  simp [CI,rq,LR,lk,c7.F4,this]
 .simp
 refine gr ?_;refine ⟨_,?_,rfl⟩;show finish F 0 [.s5 1 1 0 (O c.k9)] [.cells (c.enc.map .d),.cells (c9 (O c.k9) (.own 3 0 []))]=_
 have:=XD (H:=[.cells (c.enc.map .d),.cells (c9 (O c.k9) (.own 3 0 []))]) (n:=0) (f:=999999) (id:=1) (sz:=1) (len:=O c.k9) (vs:=[]) (A4 _) rfl rfl U (Re _ 0 3 (O c.k9) 999999 V) (FB 3 (O c.k9));simp only [finish,e8,if_false,j5,show (1000000:Nat)=999999+1 from rfl,this,We];simp [c7.K9]
def Yv (c:s6):qf c (c9 (O c.k9) []):=by
 refine ⟨U,λi hi=>?_⟩;have:Y (c9 (O c.k9) ([]:List X9)) i=[]:=by
  rw [H6 hi,List.getElem_replicate]
 rw [this];exact ⟨U,λr hr=>by cases hr⟩
def bL9 (c:s6)(hs:J8 c)(hv:M1 c=W)(ts:List (List X9))(h:qf c ts)(x:jw)(hx:Up c x):∃e,Pf A 177 [cat c,.d (V9 ts),.agg (x.enc.map .d)] (.d (Z e)):=by
 obtain ⟨b,p1⟩:=bM2 c hs hv ts h;obtain ⟨e1,p2⟩:=Vu c hs hv x hx;obtain ⟨e2,p3⟩:=bM3 c hs hv ts h;obtain ⟨e3,p4⟩:=bM4 c hs hv ts h.n (λi hi=>(h.t i hi).1) x hx;refine Pe.num (Pe.go 4 ?_);refine gr ?_;refine te p1 ?_ ?_
 .refine gr ?_
  exact ⟨_,rfl,_,rfl⟩
 refine gc p2 ?_;refine te trivial ?_ ?_
 .refine gr ?_
  exact ⟨_,rfl,_,rfl⟩
 refine gr ?_;refine te p3 ?_ ?_
 .refine gr ?_
  exact ⟨_,rfl,_,rfl⟩
 .refine gc p4 ?_
  exact ⟨_,rfl,_,rfl⟩
def aB0 {c:s6}(hv:M1 c=W):∀i,i<O c.k9->1<=O (Y c.k9 i).p9/\O (Y c.k9 i).p9<=100:=λi hi=>by
 have h3:=aA hv hi;have h4:=lz (Z9 ((eG hv).1 i (by have:=Y3 c;unfold s6.ns at this;omega)) hi);omega
def YL (c:s6)(hs:J8 c)(hv:M1 c=W)(ts:List (List X9))(h:qf c ts)(x:jw)(hx:Up c x):Pf A 123 [.d (V9 ts),.agg (x.enc.map .d)] (.d (V9 (au ts x)))/\qf c (au ts x):=by
 have EX:=hs.sm.lH.1;have hp:=qM h.t h.n hx;exact ⟨bL8 _ (O c.k9) ts x h.n EX h.t hx (aB0 hv),hp.2,hp.1⟩
def PG (c:s6)(hs:J8 c)(hv:M1 c=W)(ts:List (List X9))(h:qf c ts)(x:jw)(hx:Up c x):∃v e,Pf A 121 [cat c,.d (V9 ts),.agg (x.enc.map .d)] (.tuple [.d v,.d (Z e)])/\(e=0->v=V9 (au ts x)):=by
 obtain ⟨e,p1⟩:=bL9 c hs hv ts h x hx;have p2:=(YL c hs hv ts h x hx).1
 rcases Decidable.em (e=0) with he|he
 .refine ⟨_,0,?_,λ_=>rfl⟩
  subst he;refine Pf.go 5 ?_;refine gc p1 ?_;refine tc F trivial (λh=>by cases h) (λh=>?_);refine gc p2 ?_;exact ⟨_,rfl,rfl⟩
 .refine ⟨.slice 0 [],e,?_,λh=>absurd h he⟩
  refine Pf.go 5 ?_;refine gc p1 ?_;refine tc W trivial (λh=>?_) (λh=>by cases h);refine gr ?_;exact ⟨_,rfl,rfl⟩
def p67 (c:s6)(hs:J8 c)(hv:M1 c=W)(h0:0<O c.k9)(l:List jw)(hl:O l<=1000)(hx:∀x∈l,Up c x):∃ts,qf c ts/\Pf A 67 [cat c,.d (B8 jw.enc l)] (.d (V9 ts)):=by
 have EX:=hs.sm.lH.1;have p1:=bd6 c hs hv;have h1:=Pe.go (A:=A) (f:=67) (args:=[cat c,.d (B8 jw.enc l)]) (P:=λv=>∃ts,qf c ts/\v= .d (V9 ts)) 4 ?_
 .obtain ⟨_,⟨ts,h,rfl⟩,hp⟩:=h1
  exact ⟨ts,h,hp⟩
 have ln:O (c9 (O c.k9) ([]:List X9))=O c.k9:=List.length_replicate ..;refine gc p1 ?_;refine tc F trivial (λh=>?_) (λh=>?_) (h:=?_)
 .cases h
 .refine gr ?_
  refine Ex.R8 (λk T' H' =>∃(i:Nat) (ts:List (List X9)),i<=O l/\k=O l - i/\T' =[.any,.d (B8 jw.enc l),.ptr 0 0,.any,.d (V9 ts),.d (Z i)]/\H' =[.cells (c.enc.map .d)]/\qf c ts) ?_ (k:=O l) ⟨0,_,V,V,rfl,rfl,Yv c⟩;rintro k T' H' ⟨i,ts,hi,rfl,rfl,rfl,ht⟩;refine Ex.seq ?_;refine tl (i:Int) (O l:Int) (λh1=>?_) (λh1=>?_)
  .have g1:i<O l:=V
   have hxi:=hx _ (P6 g1);obtain ⟨e,p2⟩:=Vu c hs hv (Y l i) hxi;obtain ⟨p3,h3⟩:=YL c hs hv ts ht (Y l i) hxi;refine Ex.skip ?_;refine Ex.seq ?_;refine Ex.block ?_;refine te p2 ?_ ?_
   .refine gc p3 ?_
    exact ⟨O l - (i+1),V,i+1,_,V,rfl,rfl,rfl,h3⟩
   .refine gr ?_
    exact ⟨O l - (i+1),V,i+1,_,V,rfl,rfl,rfl,ht⟩
  .refine gr ?_
   exact ⟨_,rfl,_,ht,rfl⟩
 .intro _
  refine Rn.text ?_;refine gx ?_;refine nsE (enc:=λl=>[AN l]) (xs:=c9 (O c.k9) []) V ?_;refine gx ?_;exact ⟨rfl,rfl,_,rfl,rfl⟩
end Go.Proofs.YtibjocmpkoepoaaGreat


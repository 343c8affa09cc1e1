import Derived.Test.YtibjocmpkoepoaaGreatUN2
import Derived.Test.YtibjocmpkoepoaaGreatUN3
set_option linter.all false
open Bool renaming and_eq_true → c7
open List renaming append_assoc → E8, drop_of_length_le → l5, length_map → B0, map_cons → F4, mem_cons → B4, mem_map → F5, replicate → c9
open Nat renaming le_of_ble_eq_true → j5, le_trans → B6
namespace Go.Proofs.YtibjocmpkoepoaaGreat
open Go.x9 Go.x9.S
attribute [local irreducible] Rx Ry Rn Ex Pf
def aE7 (f:C5)(q:Nat):Pm A 60 [XS f] [] ⟨0,q,0,0⟩ (.d (.bool (!f.dat))) []:=by
 suffices h:Pq A 60 [XS f] [] ⟨0,q,0,0⟩ fun v H1=>v= .d (.bool (!f.dat))/\H1=[] by
  obtain ⟨v,H1,⟨rfl,rfl⟩,h⟩:=h;exact h
 refine Pq.run (b:=0) [XS f,.any,.any] rfl rfl rfl rfl rfl ?_;simp only [XS,C5.enc,F4,List.map_nil];refine gr ?_;exact ⟨_,_,rfl,rfl,rfl⟩
def QD:List C5->Nat->Int
 |[],_=> -1
 |y::r,i=>if !y.dat then i else QD r (i+1)
theorem zN:∀ (l:List C5) (i:Nat),(QD l i= -1/\l.filter (·.dat)=l)\/∃ j,QD l i=((i+j:Nat):Int)/\j<l.length/\(l.take (j+1)).filter (·.dat)=l.take j
 |[],_=> .inl ⟨rfl,rfl⟩
 |y::r,i=>by
  cases hd:y.dat with
  |false=>exact .inr ⟨0,by simp [QD,hd],by simp,by simp [hd]⟩
  |true =>
   rcases zN r (i+1) with ⟨h1,h2⟩|⟨j,h1,h2,h3⟩
   .exact .inl ⟨by simp [QD,hd,h1],by simp [hd,h2]⟩
   .exact .inr ⟨j+1,by simp [QD,hd,h1];omega,by simpa using h2,by simp [hd,h3]⟩
set_option maxHeartbeats 8000000 in
def aJ3 (o0 o1:u0)(h0:o0.K5<=3)(h1:o1.K5<=3)(st:Nat)(xs:List C5)(hn:xs.length<=1000000) :
  Pm A 116 [.A8 2 5 0 xs.length,.func 60 [] []] [o0,o1,.cells (J9 xs)] ⟨0,3,3,st⟩ (.d (num (QD xs 0))) [o0,o1,.cells (J9 xs)]:=by
 have Ll:L8 (([o0,o1,.cells (J9 xs)].take 3).drop st)<=3:=EO h0 h1 xs st
 suffices h:Pq A 116 [.A8 2 5 0 xs.length,.func 60 [] []] [o0,o1,.cells (J9 xs)] ⟨0,3,3,st⟩ fun v H1=>v= .d (num (QD xs 0))/\H1=[o0,o1,.cells (J9 xs)] by
  obtain ⟨v,H1,⟨rfl,rfl⟩,h⟩:=h;exact h
 refine Pq.run (b:=3) [.A8 2 5 0 xs.length,.func 60 [] [],.any,.any,.any,.any] rfl rfl rfl rfl rfl ?_
 repeat' (first|refine lrT (h2:= ?_)|refine gx ?_|fail)
 refine Ex.T7 (fun k T H=>∃ i:Nat,T=[.A8 2 5 0 xs.length,.func 60 [] [],.any,.any,.d (num xs.length),.d (num i)]/\H=[o0,o1,.cells (J9 xs)]/\i+k=xs.length/\QD xs 0=QD (xs.drop i) i) ?_ (k:=xs.length) ⟨0,rfl,rfl,by simp,by simp⟩;rintro k _ _ ⟨i,rfl,rfl,hk,hi⟩;refine Ex.seq ?_;refine tb (F0 i xs.length) (fun h2=> ?_) (fun h2=> ?_)
 .have h3:=A9 h2
  have r1:rd [o0,o1,.cells (J9 xs)] 2 (0+i * 5) 5=some ((nth xs i).enc.map .d):=AI (enc:=C5.enc) (fun _=>rfl) rfl (by omega);have wJ:i<xs.length:=by omega
  rw [B9 wJ] at hi;refine gr ?_;refine tB (!(nth xs i).dat) ?_ (fun h5=> ?_) (fun h5=> ?_)
  .repeat' (first|refine Sc r1 rfl ?_|refine ixs wJ ?_|refine gx ?_|refine fk (h1:=fun hw=> ?_) (h2:=fun hw=> ?_)|refine R8 (h1:=fun hw=> ?_) (h2:=fun hw=> ?_)|refine ⟨rfl,rfl,_,rfl,?_⟩|refine ⟨rfl,rfl⟩|fail)
   refine cv0 (m:=0) (H0:=[]) (H1:=[]) (aE7 (nth xs i) 3) rfl (pN:=by simp [L8]) (hcl:=by rfl) (gj:=rfl) (hm:=rfl) (h2:= ?_)
   repeat' (first|refine gx ?_|refine fk (h1:=fun hw=> ?_) (h2:=fun hw=> ?_)|refine R8 (h1:=fun hw=> ?_) (h2:=fun hw=> ?_)|refine ⟨rfl,rfl,_,rfl,?_⟩|refine ⟨rfl,rfl⟩|fail)
   exact rfl
  .refine gr ?_
   exact ⟨_,_,rfl,by rw [hi,QD,h5];rfl,rfl⟩
  .refine gr ?_
   exact ⟨k - 1,by omega,_,_,L5 (j5 rfl) Ll,i+1,rfl,rfl,by omega,by rw [hi,QD,h5];rfl⟩
 .have h3:=B8 h2
  rw [l5 (by omega)] at hi;refine gr ?_;exact ⟨_,_,rfl,by rw [hi];rfl,rfl⟩
end Go.Proofs.YtibjocmpkoepoaaGreat
namespace Go.x9.S
section
variable {A:Prog} {l:F2} {b:Nat} {dr:Bool} {j9 ops:List p6} {T:List c8} {H:o9} {n:Nat} {rl:List c8} {o7:List Touch} {Q:List c8->o9->List c8->Prop}
def bp3 {x y:y6}{u:List Nat}{id sz lo len:Nat}{k:IntKind}(h2:Ry A l b dr j9 ops T H (n+1) (.d (.slice 0 [])::rl) o7 Q)(hx:rq T n rl x= .A8 id sz lo len:=by rfl)(hy:rq T n rl y= .d (.int k ((0:Nat):Int)):=by rfl) :
  Ry A l b dr j9 (⟨.Y8 sz x none (some y),none,none,u⟩::ops) T H n rl o7 Q :=
 Ry.pure (rs:=[]) rfl (by simp [n9,hx,hy,W7]) h2
end
end Go.x9.S
namespace Go.Proofs.YtibjocmpkoepoaaGreat
open Go.x9 Go.x9.S
attribute [local irreducible] Rx Ry Rn Ex Pf
def sF (k:Nat):c8:=if k=0 then .d (.slice 0 []) else .A8 2 5 0 k
set_option maxHeartbeats 16000000 in
def bn3 (o0 o1:u0)(h0:o0.K5<=3)(h1:o1.K5<=3)(st:Nat)(xs:List C5)(hn:xs.length<=1000000)(hp:0<xs.length) :
  ∃ zs:List x9.Data,Pm A 58 [.A8 2 5 0 xs.length,.func 60 [] []] [o0,o1,.cells (J9 xs)] ⟨0,0,3,st⟩ (sF (xs.filter (·.dat)).length) [o0,o1,.cells (J9 (xs.filter (·.dat))++zs.map .d)]:=by
 have key:Pq A 58 [.A8 2 5 0 xs.length,.func 60 [] []] [o0,o1,.cells (J9 xs)] ⟨0,0,3,st⟩ fun r H1=>∃ zs:List x9.Data,r=sF (xs.filter (·.dat)).length/\H1=[o0,o1,.cells (J9 (xs.filter (·.dat))++zs.map .d)]:=by
  have Ll:∀ ys:List C5,L8 (([o0,o1,.cells (J9 ys)].take 3).drop st)<=3:=fun ys=>EO h0 h1 ys st
  have UC:=aJ3 o0 o1 h0 h1 (C9 [o0,o1,.cells (J9 xs)] st 3) xs hn;refine Pq.run (b:=3) [.A8 2 5 0 xs.length,.func 60 [] [],.any,.any,.any,.any] rfl rfl rfl rfl rfl ?_;refine gr ?_;refine c1 UC rfl ?_ (pN:=Ll xs) (hcl:=XG h0 h1 xs st);refine gr ?_;refine tb (s8 (QD xs 0) (-1)) (fun h=> ?_) (fun h=> ?_)
  .rcases zN xs 0 with ⟨g1,g2⟩|⟨j,g1,g2,g3⟩
   .refine gr ?_
    exact ⟨_,_,rfl,[],by rw [g2,sF,if_neg (by omega)],by rw [g2];simp⟩
   .rw [g1] at h
    have:=aQ h;omega
  rcases zN xs 0 with ⟨g1,g2⟩|⟨i0,g1,g2,g3⟩
  .rw [g1] at h
   exact absurd rfl (CQ h)
  rw [g1];refine gr ?_;have hti:(xs.take i0).length=i0:=by rw [List.length_take];omega
  refine Ex.T7 (fun k T H=>∃ (j:Nat) (acc:List C5),T=[.A8 2 5 0 xs.length,.func 60 [] [],.any,.d (num acc.length),.d (num j),.any]/\H=[o0,o1,.cells (J9 (acc++xs.drop acc.length))]/\j+k=xs.length/\acc.length<j/\acc=(xs.take j).filter (·.dat)) ?_ (k:=xs.length - i0 - 1) ⟨i0+1,xs.take i0,by rw [hti];simp;rfl,by rw [hti,List.take_append_drop],by omega,by omega,g3.symm⟩;rintro k _ _ ⟨j,acc,rfl,rfl,hk,aA4,hacc⟩;refine Ex.seq ?_;have aF:acc.length<xs.length:=by omega
  have hdr:=B9 aF;refine tB (F0 j xs.length) ?_ (fun h6=> ?_) (fun h6=> ?_)
  .repeat' (first|refine lnr ?_|refine gx ?_|refine fk (h1:=fun hw=> ?_) (h2:=fun hw=> ?_)|refine R8 (h1:=fun hw=> ?_) (h2:=fun hw=> ?_)|refine ⟨rfl,rfl,_,rfl,?_⟩|refine ⟨rfl,rfl⟩|fail)
   all_goals exact cc
  .have h7:=A9 h6
   have hjl:j<xs.length:=by omega
   have r3:rd [o0,o1,.cells (J9 (acc++xs.drop acc.length))] 2 (0+j * 5) 5=some ((nth xs j).enc.map .d):=by
    rw [<- IF (Nat.le_of_lt aA4) hjl];exact AI (enc:=C5.enc) (fun _=>rfl) rfl (by simp;omega)
   have e1:(xs.take (j+1)).filter (·.dat)=acc++(if (nth xs j).dat then [nth xs j] else []):=by
    rw [J3 hjl,List.filter_append,<- hacc]
    congr 1
    simp only [List.filter_cons,List.filter_nil]
   repeat' (first|refine Sc r3 rfl ?_|refine ixs hjl ?_|refine gx ?_|fail)
   refine tB (!(!(nth xs j).dat)) ?_ (fun h8=> ?_) (fun h8=> ?_)
   .repeat' (first|refine gx ?_|refine fk (h1:=fun hw=> ?_) (h2:=fun hw=> ?_)|refine R8 (h1:=fun hw=> ?_) (h2:=fun hw=> ?_)|refine ⟨rfl,rfl,_,rfl,?_⟩|refine ⟨rfl,rfl⟩|fail)
    refine cv0 (m:=0) (H0:=[]) (H1:=[]) (aE7 (nth xs j) 0) rfl (pN:=by simp [L8]) (hcl:=by rfl) (gj:=rfl) (hm:=rfl) (h2:= ?_)
    repeat' (first|refine gx ?_|refine fk (h1:=fun hw=> ?_) (h2:=fun hw=> ?_)|refine R8 (h1:=fun hw=> ?_) (h2:=fun hw=> ?_)|refine ⟨rfl,rfl,_,rfl,?_⟩|refine ⟨rfl,rfl⟩|fail)
    exact rfl
   .have w1:wr [o0,o1,.cells (J9 (acc++xs.drop acc.length)),.cells ((nth xs j).enc.map .d)] 2 (0+acc.length * 5) ((nth xs j).enc.map .d)=some [o0,o1,.cells (J9 (acc++nth xs j::xs.drop (acc.length+1))),.cells ((nth xs j).enc.map .d)]:=by
     rw [hdr];exact Wg (enc:=C5.enc) (fun _=>rfl) rfl _
    have hb0:A4 ((nth xs j).enc.map .d)<=2+1:=by rw [cV];omega
    repeat' (first|refine ixs aF ?_|refine kV rfl ⟨rfl,rfl⟩ rfl rfl rfl hb0 w1 ?_|refine gx ?_|fail)
    have NH:(acc++[nth xs j]).length=acc.length+1:=by simp
    exact ⟨k - 1,by omega,_,_,L5 (j5 rfl) (Ll _),j+1,acc++[nth xs j],by rw [NH];rfl,by rw [NH,E8];rfl,by omega,by omega,by rw [e1];simp at h8;rw [h8];simp⟩
   .refine gr ?_
    exact ⟨k - 1,by omega,_,_,L5 (j5 rfl) (Ll _),j+1,acc,rfl,rfl,by omega,by omega,by rw [e1];simp at h8;rw [h8];simp⟩
  .have h7:=B8 h6
   obtain rfl:j=xs.length:=by omega
   rw [List.take_length] at hacc;rw [<- hacc];have w2:=Wf o0 o1 acc (xs.drop acc.length);rw [List.length_drop] at w2;have hz:∀ n,(c9 n zF).flatten=(c9 n [num 0,num 0,num 0,num 0,x9.Data.bool false]).flatten.map .d:=fun n=>by simp [List.map_flatten,List.map_replicate,zF]
   repeat' (first|refine svr aF ?_|refine clS w2 ?_|refine gx ?_|fail)
   rcases Nat.eq_zero_or_pos acc.length with h0' |h0'
   .obtain rfl:acc=[]:=List.length_eq_zero_iff.1 h0'
    repeat' (first|refine bp3 ?_|refine gx ?_|fail)
    exact ⟨_,_,rfl,_,rfl,by rw [<- hz];rfl⟩
   .repeat' (first|refine svf (Nat.le_of_lt aF) h0' ?_|refine gx ?_|fail)
    exact ⟨_,_,rfl,_,by rw [sF,if_neg (by omega)],by rw [<- hz];rfl⟩
 obtain ⟨r,H1,⟨zs,rfl,rfl⟩,h⟩:=key;exact ⟨zs,h⟩
def bj9 (a b:List c8)(h0:Mv a=true)(h1:Mv b=true)(xs:List C5)(hn:xs.length<=1000000)(hp:0<xs.length):Pm A 59 [.d (z8 C5.enc xs)] [.cells a,.cells b] S8 (.A8 2 5 0 xs.length) [.cells a,.cells b,.cells (J9 xs)]:=by
 have hl:(xs.flatMap C5.enc).length=xs.length * 5:=au (sz:=5) (fun _=>rfl) xs;unfold z8 J9;obtain ⟨n,e⟩:∃ n,xs.length=n+1:=⟨xs.length - 1,by omega⟩;rw [e] at hn hl ⊢;exact Pm.cw rfl (if_pos ⟨hl,by omega,h0,h1⟩)
def aE6 (H:o9)(l:F2):Pm A 59 [.d (.slice 0 [])] H l (.d (.slice 0 [])) H:=Pm.cw rfl rfl
def gV (fs:List C5):List C5:=(fs.map C5.rev).reverse
def gp (nt:Nat)(p:G8)(S:List G8)(l:List G8):List C5:=(l.filter fun q=>F0 q.1 nt).map fun q=>⟨q,p,decide (q ∈ S)⟩
def bb2 (fs:List C5):List C5:=fs.filter (·.dat)
def vK (fs:List C5)(nt:Nat)(p:G8):List C5:=gp nt p (ov (gV (bb2 fs)) [p]) (sortP (ov (gV fs) [p]))
def oz {H:o9}{l:F2}{v:c8}{ds:List C5}(h:rowOf 5 H v=some (ds.length,ds.flatMap C5.enc))(hn:ds.length<=1000000):Pm A 62 [v] H l (C4 5 C5.enc (gV ds)) H:=by
 refine Pm.cw rfl ?_;simp only [YR,h,rE,hn,and_self,if_true,C4,gV,List.length_reverse,B0]
def aL1 (H:o9)(ds:List C5):rowOf 5 H (.d (sQ ds))=some (ds.length,ds.flatMap C5.enc):=by
 simp only [sQ,z8,rowOf];rw [if_pos (au (sz:=5) (fun _=>rfl) ds)]
def bo4 (a b:u0)(ds:List C5)(zs:List x9.Data):rowOf 5 [a,b,.cells (J9 ds++zs.map .d)] (sF ds.length)=some (ds.length,ds.flatMap C5.enc):=by
 unfold sF;split
 .rename_i h
  obtain rfl:ds=[]:=List.length_eq_zero_iff.1 h;rfl
 .have l1:(J9 ds).length=ds.length * 5:=by rw [J9,B0,au (sz:=5) (fun _=>rfl)]
  have h:rd [a,b,.cells (J9 ds++zs.map .d)] 2 0 (ds.length * 5)=some (J9 ds):=by
   simp only [rd,List.getElem?_cons_succ,List.getElem?_cons_zero,List.drop_zero];rw [if_pos (by simp [l1]),<- l1,List.take_left]
  simp only [rowOf,if_true,h];rw [J9,aZ]
set_option maxHeartbeats 16000000 in
def aE3 (c:y5)(p:G8)(hs:O4 c)(hv:K1 c=true)(ht:c.k9.length<=8)(hw:c.views.length<=8)(hp:jm (gW c) p=true)(hne:0<(cH c).length):Pf A 21 [cat c,yx p] (.d (sQ (vK (cH c) c.k9.length p))):=by
 have UE:=UH c hs;rw [hv] at UE;have p57:=ap2 c hs hv;have Ob:=Ob c hs hv ht hw;have hd:=lU hv ht hw;have Ia:(gW c).length<=16:=by unfold gW;rw [jb];have:y5.ns c=c.k9.length+c.views.length:=rfl;omega
 obtain ⟨w,hwe⟩:∃ w,gW c=w:=⟨_,rfl⟩;have YQ:=ap0 (gW c) p (by omega);rw [hp] at YQ;rw [hwe] at p57 Ia YQ;obtain ⟨fs,uU⟩:∃ fs,cH c=fs:=⟨_,rfl⟩;rw [uU] at Ob hd hne ⊢;refine Pf.run [cat c,yx p,.any,.any,.any,.any,.any,.any,.any,.any,.any,.any,.any] rfl rfl rfl rfl ?_;refine gr ?_;refine tB (!(true&&true)) ?_ (fun h1=> ?_) (fun h1=> ?_)
 .repeat' (first|refine cl (UE) ?_|refine sG p57 ?_|refine sG YQ ?_|refine gx ?_|refine fk (h1:=fun hw=> ?_) (h2:=fun hw=> ?_)|refine R8 (h1:=fun hw=> ?_) (h2:=fun hw=> ?_)|refine ⟨rfl,rfl,_,rfl,?_⟩|refine ⟨rfl,rfl⟩|fail)
  all_goals exact cc
 .cases h1
 repeat' (first|refine sG Ob ?_|refine gx ?_|fail)
 have b0:(u0.cells (c.enc.map .d)).K5<=3:=by rw [yb];omega
 have b1:(u0.cells [.d (num p.1),.d (num p.2)]).K5<=3:=by simp [u0.K5,A4,c8.K5]
 obtain ⟨zs,p58⟩:=bn3 _ _ b0 b1 (C9 [.cells (c.enc.map .d),.cells [.d (num p.1),.d (num p.2)],.cells (J9 fs)] 0 3) fs (by omega) hne;obtain ⟨ds,hds⟩:∃ ds,fs.filter (·.dat)=ds:=⟨_,rfl⟩;have hdl:ds.length<=fs.length:=by rw [<- hds];exact List.length_filter_le _ _
 rw [hds] at p58;have r6:=bo4 (.cells (c.enc.map .d)) (.cells [.d (num p.1),.d (num p.2)]) ds zs;have hsF:(ds=[]/\sF ds.length= .d (.slice 0 []))\/sF ds.length= .A8 2 5 0 ds.length:=by
  unfold sF;split
  .rename_i h
   exact .inl ⟨List.length_eq_zero_iff.1 h,rfl⟩
  .exact .inr rfl
 have hb3:∀ st,L8 (([.cells (c.enc.map .d),.cells [.d (num p.1),.d (num p.2)],.cells (J9 ds++zs.map .d)].take 3).drop st)<=3:=fun st=>by
  have b2:(u0.cells (J9 ds++zs.map .d)).K5<=3:=by rw [J9,<- List.map_append];simp only [u0.K5,cV];omega
  match st with
  |0=>simp [L8];omega
  |1=>simp [L8];omega
  |2=>simp [L8];omega
  |_+3=>simp [L8]
 have hb0:L8 [.cells (c.enc.map .d),.cells [.d (num p.1),.d (num p.2)],.cells (J9 ds++zs.map .d)]=0:=by
  have b2:A4 (J9 ds++zs.map .d)=0:=by rw [J9,<- List.map_append];exact cV _
  have b3:A4 (c.enc.map .d)=0:=cV _;simp [L8,b2,b3,u0.K5,A4,c8.K5]
 have Xm:E9 [.cells (c.enc.map .d),.cells [.d (num p.1),.d (num p.2)],.cells (J9 ds++zs.map .d)] 0 8 3=3:=bS (k:=7) (hb3 0)
 rcases hsF with ⟨hd0,e6⟩|e6<;>rw [e6] at p58 r6
 all_goals
  repeat' (first|refine Ex.region (Rn.YN 3 [.cells (c.enc.map .d),.cells [.d (num p.1),.d (num p.2)],.cells (J9 ds++zs.map .d)] [] (h:= ?_))|refine cp (bj9 (c.enc.map .d) [.d (num p.1),.d (num p.2)] (GM _) rfl fs (by omega) hne) (by simp) ?_|refine c0 (pN:=EO b0 b1 _ _) (hcl:=XG b0 b1 _ _) p58 rfl (H2:=[.cells (c.enc.map .d),.cells [.d (num p.1),.d (num p.2)],.cells (J9 ds++zs.map .d)]) (h2:= ?_)|refine gx ?_|fail)
  refine vm ?_
  first
   |refine vc (m:=0) (oz (H:=[]) (l:=S8) (ds:=ds) (v:= .d (.slice 0 [])) (by rw [hd0];rfl) (by omega)) rfl ?_
   |refine vc (m:=3) (oz r6 (by omega)) rfl ?_ (pN:=hb3 _) (hcl:=by exact Xm)
  refine vp (rs:=[1]) (yx p) (by rfl) (h2:= ?_);refine vp (rs:=[]) (C4 2 W4 [p]) (by rfl) (h2:= ?_);refine vcp (Ue (H0:=[.cells (c.enc.map .d),.cells [.d (num p.1),.d (num p.2)],.cells (J9 ds++zs.map .d)]) (.inr (.inr (.inl ⟨_,_,_,rfl⟩))) hb0 (gV ds) [p] (by rw [gV];simp;omega) (by simp)) (by simp) ?_;refine vmT (v:= .map 3) ?_ ⟨rfl,fun _ _ _ h=>by cases h⟩;refine vn ?_;obtain ⟨S1,hS1⟩:∃ S1,ov (gV ds) [p]=S1:=⟨_,rfl⟩;rw [hS1];obtain ⟨S2,hS2⟩:∃ S2,ov (gV fs) [p]=S2:=⟨_,rfl⟩
  repeat' (first|refine Ex.region (Rn.YN 4 [.cells (c.enc.map .d),.cells [.d (num p.1),.d (num p.2)],.cells (J9 ds++zs.map .d),.map (Z9 S1),.dead] [.slot 12] (h:= ?_))|refine gx ?_|fail)
  refine vm ?_;refine vc (m:=0) (oz (H:=[]) (l:=S8) (ds:=fs) (v:= .d (sQ fs)) (aL1 [] fs) (by omega)) rfl ?_;refine vp (rs:=[1]) (yx p) (by rfl) (h2:= ?_);refine vp (rs:=[]) (C4 2 W4 [p]) (by rfl) (h2:= ?_);have Fq:L8 [.cells (c.enc.map .d),.cells [.d (num p.1),.d (num p.2)],.cells (J9 ds++zs.map .d),.map (Z9 S1),.dead]=0:=by
   have b2:A4 (J9 ds++zs.map .d)=0:=by rw [J9,<- List.map_append];exact cV _
   have b3:A4 (c.enc.map .d)=0:=cV _;have b4:=ta S1;simp only [L8,b4];simp [b2,b3,u0.K5,A4,c8.K5]
  have Rj:=Ue (H0:=[.cells (c.enc.map .d),.cells [.d (num p.1),.d (num p.2)],.cells (J9 ds++zs.map .d),.map (Z9 S1),.dead]) (.inr (.inr (.inr (.inr ⟨_,_,_,_,_,rfl⟩)))) Fq (gV fs) [p] (by rw [gV];simp;omega) (by simp);rw [hS2] at Rj;refine vcp Rj (by simp) ?_;have hn2:S2.length<=1000000:=by
   have:=ox (gV fs) [p];rw [hS2] at this;simp [gV] at this;omega
  have p63:=fun q=>am6 [.cells (c.enc.map .d),.cells [.d (num p.1),.d (num p.2)],.cells (J9 ds++zs.map .d),.map (Z9 S1),.dead] S2 hn2 q
  have Yh:L8 ([.cells (c.enc.map .d),.cells [.d (num p.1),.d (num p.2)],.cells (J9 ds++zs.map .d),.map (Z9 S1),.dead]++[.map (Z9 S2)])<=6:=by rw [yV,Fq];omega
  refine vcT (m:=6) (p63 _) rfl ?_ (pN:=Yh) (hcl:=bS (k:=7) Yh);refine vpT (rs:=[]) (.d (num (sortP S2).length)) (by rfl) (h2:= ?_) (hv:=⟨rfl,fun _ _ _ h=>by cases h⟩);refine vk ?_;refine vn ?_;obtain ⟨qs,hqs⟩:∃ qs,sortP S2=qs:=⟨_,rfl⟩;have hql:qs.length<=1000000:=by rw [<- hqs,ij];exact hn2
  have eF:vK fs c.k9.length p=gp c.k9.length p S1 qs:=by rw [<- hqs,<- hS2,<- hS1,<- hds];rfl
  rw [eF];rw [hqs];refine gr ?_;refine Ex.T7 (fun k T H=>∃ i:Nat,T=[.any,.any,.ptr 0 0,.ptr 1 0,.any,.any,.any,.map 3,C4 5 C5.enc (gp c.k9.length p S1 (qs.take i)),.any,C4 2 W4 qs,.d (num qs.length),.d (num i)]/\H=[.cells (c.enc.map .d),.cells [.d (num p.1),.d (num p.2)],.cells (J9 ds++zs.map .d),.map (Z9 S1),.dead,.map (Z9 S2)]/\i+k=qs.length) ?_ (k:=qs.length) ⟨0,rfl,rfl,by simp⟩;rintro k _ _ ⟨i,rfl,rfl,hk⟩;refine Ex.seq ?_;refine tb (F0 i qs.length) (fun h2=> ?_) (fun h2=> ?_)
  .have h3:=A9 h2
   have e1:gp c.k9.length p S1 (qs.take (i+1))=gp c.k9.length p S1 (qs.take i)++(if F0 (nth qs i).1 c.k9.length then [⟨nth qs i,p,decide (nth qs i ∈ S1)⟩] else []):=by
    rw [J3 (by omega)];simp only [gp,List.filter_append,List.map_append]
    congr 1
    simp only [List.filter_cons,List.filter_nil];split<;>simp_all
   obtain ⟨r,hr⟩:∃ r,nth qs i=r:=⟨_,rfl⟩;obtain ⟨acc,hacc⟩:∃ acc,gp c.k9.length p S1 (qs.take i)=acc:=⟨_,rfl⟩;have zW:acc.length<=1000000:=by
    rw [<- hacc];simp only [gp,B0];refine B6 (List.length_filter_le _ _) ?_;simp;omega
   rw [hacc,hr] at e1;refine gr ?_;rw [hacc,hr];refine tb (F0 r.1 c.k9.length) (fun h4=> ?_) (fun h4=> ?_)
   .repeat' (first|refine lk1 (pQ r S1) (Af r S1) ?_|refine rV (cs:=(C5.enc ⟨r,p,decide (r ∈ S1)⟩).map .d) ?_|refine oN (enc:=C5.enc) (⟨r,p,decide (r ∈ S1)⟩:C5) ?_|refine ZY (ys:=[(⟨r,p,decide (r ∈ S1)⟩:C5)]) (h2:= ?_)|refine gx ?_|fail)
    exact ⟨k - 1,by omega,_,_,L5 (j5 rfl) Yh,i+1,by rw [e1,h4];rfl,rfl,by omega⟩
   .refine gr ?_
    exact ⟨k - 1,by omega,_,_,L5 (j5 rfl) Yh,i+1,by rw [e1,h4];simp;rfl,rfl,by omega⟩
  .have h3:=B8 h2
   obtain rfl:i=qs.length:=by omega
   rw [List.take_length];refine gr ?_;exact ⟨_,rfl,rfl⟩
end Go.Proofs.YtibjocmpkoepoaaGreat
namespace Go.Proofs.YtibjocmpkoepoaaGreat
open Go.x9 Go.x9.S
def Jj {fs:List C5}{p q:G8}:mW (gV fs) [q] p↔mW fs [p] q:=(Zb (fun _=>List.mem_reverse) p).trans mW.Zd
def Is {fs:List C5}{nt:Nat}{p q:G8}:(∃ f ∈ vK fs nt p,f.src=q)↔mW fs [q] p/\q.1<nt:=by
 unfold vK gp;constructor
 .rintro ⟨f,hf,rfl⟩
  obtain ⟨x,hx,rfl⟩:=F5.1 hf;obtain ⟨h1,h2⟩:=List.mem_filter.1 hx;exact ⟨Jj.1 (Al.1 (uZ.1 h1)),A9 h2⟩
 .rintro ⟨h1,h2⟩
  exact ⟨⟨q,p,_⟩,F5.2 ⟨q,List.mem_filter.2 ⟨uZ.2 (Al.2 (Jj.2 h1)),by rw [y3];exact decide_eq_true h2⟩,rfl⟩,rfl⟩
def VC (fs:List C5)(nt:Nat)(p:G8):(vK fs nt p).length<=fs.length+1:=by
 unfold vK gp;rw [B0];refine B6 (List.length_filter_le _ _) ?_;rw [ij];have:=ox (gV fs) [p];rw [show (gV fs).length=fs.length by simp [gV]] at this;simp at this;omega
attribute [local irreducible] Rx Ry Rn Ex Pf
def Fv {c:y5}{s j:Nat}(h:s<c.k9.length+c.views.length)(hj:j<(P4 c s).length):jm (gW c) ((s:Int),(j:Int))=true:=by
 have eV:y5.ns c=c.k9.length+c.views.length:=rfl;have h1:=JU c (n:=y5.ns c) (i:=s) (by omega);have h2:=jb c (y5.ns c);unfold jm gW;simp only [s9,y3,Int.toNat_natCast,h1,h2,c7,decide_eq_true_eq];omega
end Go.Proofs.YtibjocmpkoepoaaGreat


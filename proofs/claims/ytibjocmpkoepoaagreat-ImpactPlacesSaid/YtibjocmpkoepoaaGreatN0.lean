import Derived.Test.YtibjocmpkoepoaaGreatT2
set_option linter.all false
open Bool renaming and_eq_true→c8,false_eq_true→e8,or_eq_false_iff→E5,true→W,false→F
open List renaming append_assoc→M3,drop_of_length_le→o7,getElem_of_mem→O8,length_append→s9,length_map→C5,length_take→P7,map_cons→M8,mem_cons→C4,mem_singleton→y3,pairwise_cons→N6,replicate→c9,take_of_length_le→y6,length→O
open Nat renaming add_assoc→M9,le_of_ble_eq_true→l5,le_refl→o6,lt_or_ge→x9
open Option renaming some→J,none→K
namespace Go.Proofs.YtibjocmpkoepoaaGreat
open Go.B3 Go.B3.S
def xx (xs:List U0):Nat->List U0
 |0=>[]
 |k+1=>xx xs k++(if decide (0<k)&&decide (Y xs k=Y xs (k - 1)) then [] else [Y xs k])
def xd (a b:U0):Prop:=a.1<b.1\/(a.1=b.1/\a.2<b.2)
def xd.tr {a b c:U0}(h:xd a b)(k:xd b c):xd a c:=by unfold xd at *;omega
theorem Iy {xs:List U0}{p:U0}:∀{k},k<=O xs->(p∈xx xs k↔∃i,i<k/\Y xs i=p)
 |0,_=>by simp [xx]
 |k+1,hk=>by
  have ih:=Iy (xs:=xs) (p:=p) (k:=k) V;rw [xx,List.mem_append,ih];constructor
  .rintro (⟨i,h1,h2⟩|h)
   .exact ⟨i,V,h2⟩
   .split at h
    .cases h
    .exact ⟨k,V,(y3.1 h).symm⟩
  .rintro ⟨i,h1,h2⟩
   rcases x9 i k with h3|h3
   .exact .inl ⟨i,h3,h2⟩
   .obtain rfl:i=k:=V
    split
    next h4=>
     simp only [c8,decide_eq_true_eq] at h4;exact .inl ⟨i - 1,V,h4.2 ▸ h2⟩
    .exact .inr (y3.2 h2.symm)
theorem Xb {xs:List U0}(hs:∀i j,i<j->j<O xs->Y xs i=Y xs j\/xd (Y xs i) (Y xs j)):∀{k},k<=O xs->(xx xs k).Pairwise xd
 |0,_=>List.Pairwise.nil
 |k+1,hk=>by
  have ih:=Xb hs (k:=k) V;rw [xx,List.pairwise_append];refine ⟨ih,?_,λa ha b hb=>?_⟩
  .split
   .exact List.Pairwise.nil
   .exact List.pairwise_singleton _ _
  .split at hb
   .cases hb
   next h4=>
    rw [y3.1 hb];obtain ⟨i,h1,rfl⟩:=(Iy V).1 ha;simp only [c8,decide_eq_true_eq,not_and] at h4;have hne:=h4 V;have h5:xd (Y xs (k - 1)) (Y xs k):=(hs (k - 1) k V V).resolve_left λh=>hne h.symm
    rcases x9 i (k - 1) with h6|h6
    .rcases hs i (k - 1) h6 V with h7|h7
     .rw [h7];exact h5
     .exact h7.tr h5
    .rw [show i=k - 1 by omega]
     exact h5
theorem QM (xs:List U0):∀k,O (xx xs k)<=k
 |0=>o6 _
 |k+1=>by
  have:=QM xs k;rw [xx,s9];split<;>simp<;>omega
theorem RJ:∀{l m:List U0},l.Pairwise xd->m.Pairwise xd->(∀p,p∈l↔p∈m)->l=m
 |[],[],_,_,_=>rfl
 |[],b::m,_,_,h=>by have:=(h b).2 U;cases this
 |a::l,[],_,_,h=>by have:=(h a).1 U;cases this
 |a::l,b::m,hl,hm,h=>by
  rw [N6] at hl hm;have aJ2:∀p:U0,¬ xd p p:=λp=>by unfold xd;omega
  have hab:a=b:=by
   rcases C4.1 ((h a).1 U) with e|e
   .exact e
   .rcases C4.1 ((h b).2 U) with e2|e2
    .exact e2.symm
    .exact absurd ((hl.1 b e2).tr (hm.1 a e)) (aJ2 a)
  subst hab
  congr 1
  refine RJ hl.2 hm.2 λp=>⟨λhp=>?_,λhp=>?_⟩
  .rcases C4.1 ((h p).1 (by simp [hp])) with rfl|e
   .exact absurd (hl.1 p hp) (aJ2 p)
   .exact e
  .rcases C4.1 ((h p).2 (by simp [hp])) with rfl|e
   .exact absurd (hm.1 p hp) (aJ2 p)
   .exact e
def aP (p:U0):List B3.Data:=[Z p.1,Z p.2]
def jX (l:List U0):B3.Data:=B8 aP l
def plc (p:U0):c7:= .agg [.d (Z p.1),.d (Z p.2)]
def av1 (xs:List U0):∀i j,i<j->j<O (sortP xs)->Y (sortP xs) i=Y (sortP xs) j\/xd (Y (sortP xs) i) (Y (sortP xs) j):=λi j hij hj=>by
 have h:=List.pairwise_iff_getElem.1 (Dt xs) i j V hj hij;rw [H6 V,H6 hj];rw [RE] at h
 by_cases e:(sortP xs)[i].1=(sortP xs)[j].1/\(sortP xs)[i].2=(sortP xs)[j].2
 .exact .inl (Prod.ext e.1 e.2)
 .refine .inr ?_
  unfold xd;omega
def PW (xs:List U0):List U0:=xx (sortP xs) (O (sortP xs))
def au3 (xs:List U0):(PW xs).Pairwise xd:=Xb (av1 xs) (o6 _)
def Yo {xs:List U0}{p:U0}:p∈PW xs↔p∈xs:=by
 unfold PW;rw [Iy (o6 _),<- Vn];constructor
 .rintro ⟨i,h1,rfl⟩
  exact P6 h1
 .intro h
  obtain ⟨i,hi,rfl⟩:=O8 h;exact ⟨i,hi,H6 hi⟩
attribute [local irreducible] Rx Ry Rn Ex Pf
def Jj (a b:U0):(a.1==b.1&&(a.2==b.2&&W))=decide (a=b):=by
 rw [Bool.eq_iff_iff];simp [Prod.ext_iff]
def bA (l:List U0):List c7:=(l.flatMap aP).map .d
theorem OG:∀l:List B3.Data,C0 (l.map .d)=0
 |[]=>rfl
 |a::l=>by simp [C0,c7.K9,OG l]
def aW5 {o0:B4}(h0:o0.K9<=2)(ys:List U0)(st:Nat):Q5 (([o0,.cells (bA ys)].take 2).drop st)<=2:=by
 have h2:(B4.cells (bA ys)).K9<=2:=by simp only [B4.K9,bA,OG];omega
 match st with
 |0=>simp [Q5];omega
 |1=>simp [Q5];omega
 |_+2=>simp [Q5]
def zF:List c7:=[.d (Z 0),.d (Z 0)]
theorem ab4:∀n:Nat,O ((c9 n zF).flatten)=n * 2
 |0=>rfl
 |n+1=>by
  have:=ab4 n;rw [List.replicate_succ,List.flatten_cons,s9,this];simp [zF];omega
def aR6 (o0:B4)(acc rest:List U0):wr [o0,.cells (bA (acc++rest))] 1 (0+O acc * 2) ((c9 (O rest) zF).flatten)=J [o0,.cells (bA acc++(c9 (O rest) zF).flatten)]:=by
 have l1:∀l:List U0,O (bA l)=O l * 2:=λl=>by rw [bA,C5,bW (sz:=2) (λ_=>rfl)]
 have e:bA (acc++rest)=bA acc++bA rest:=by simp [bA]
 have hz:=ab4 (O rest);simp only [wr,List.getElem?_cons_succ,List.getElem?_cons_zero,splice,e,Nat.zero_add];rw [if_pos (by simp only [s9,l1,hz];omega),<- l1 acc,List.take_left,o7 (by simp only [s9,l1,hz];omega)];simp
def YA {acc xs:List U0}{q:Nat}(h1:O acc<=q)(h2:q<O xs):Y (acc++xs.drop (O acc)) q=Y xs q:=by
 rw [H6 D,H6 h2,List.getElem_append_right h1,List.getElem_drop];have:O acc+(q - O acc)=q:=V
 simp [this]
set_option maxHeartbeats 16000000 in
def bQ1 (o0:B4)(h0:o0.K9<=2)(st:Nat)(xs:List U0)(hn:O xs<=1000000)(hp:0<O xs) :
  ∃zs,Pm A 91 [.s5 1 2 0 (O xs)] [o0,.cells (bA xs)] ⟨0,0,2,st⟩ (.s5 1 2 0 (O (xx xs (O xs)))) [o0,.cells (bA (xx xs (O xs))++zs)]:=by
 have key:Pq A 91 [.s5 1 2 0 (O xs)] [o0,.cells (bA xs)] ⟨0,0,2,st⟩ λr H1=>∃zs,r= .s5 1 2 0 (O (xx xs (O xs)))/\H1=[o0,.cells (bA (xx xs (O xs))++zs)]:=by
  have hob:∀ys:List U0,Q5 (([o0,.cells (bA ys)].take 2).drop st)<=2:=λys=>aW5 h0 ys st
  refine Pq.go 4 ?_;refine gr ?_;refine tB (J2 (O xs) 2) ?_ (λh=>?_) (λh=>?_)
  .repeat' (first|refine lnr ?_|refine gx ?_|refine fq (λhw=>?_) λhw=>?_|refine ⟨rfl,rfl,_,rfl,?_⟩|refine ⟨rfl,rfl⟩|fail)
   all_goals exact cc
  .have h3:=F5 h
   refine gr ?_;have e:xx xs (O xs)=xs:=by
    match xs,hp,h3 with
    |[x],_,_=>simp [xx,Y]
    |_::_::_,_,h=>simp at h;omega
   exact ⟨_,_,rfl,[],by rw [e],by rw [e];simp [bA]⟩
  have h3:=G7 h;have i0:xx xs 1=xs.take 1:=by
   match xs,hp with
   |x::_,_=>simp [xx,Y]
  refine gr ?_;refine Ex.gX (λk T H=>∃i:Nat,T=[.s5 1 2 0 (O xs),.any,.d (Z i),.any,.any]/\H=[o0,.cells (bA xs)]/\i+k=O xs/\0<i/\xx xs i=xs.take i) ?_ (k:=O xs - 1) ⟨1,rfl,rfl,V,V,i0⟩;rintro k _ _ ⟨i,rfl,rfl,hk,hi,hc⟩;refine Ex.seq ?_;refine tB (J2 i (O xs)) ?_ (λh2=>?_) (λh2=>?_)
  .repeat' (first|refine lnr ?_|refine gx ?_|refine fq (λhw=>?_) λhw=>?_|refine ⟨rfl,rfl,_,rfl,?_⟩|refine ⟨rfl,rfl⟩|fail)
   all_goals exact cc
  .have h4:=F5 h2
   have r1:rd [o0,.cells (bA xs)] 1 (0+i * 2) 2=J ((aP (Y xs i)).map .d):=PO (enc:=aP) (λ_=>rfl) rfl V;have r2:rd [o0,.cells (bA xs)] 1 (0+((i:Int) - 1).toNat * 2) 2=J ((aP (Y xs (i - 1))).map .d):=by
    rw [show ((i:Int) - 1).toNat=i - 1 by omega];exact PO (enc:=aP) (λ_=>rfl) rfl V
   refine gr ?_;have EZ:i<O xs:=V
   have hio:0<=(i:Int) - 1/\(i:Int) - 1<O xs:=V
   refine tB (decide (Y xs i=Y xs (i - 1))) ?_ (λh5=>?_) (λh5=>?_)
   .repeat' (first|refine Vk r1 rfl ?_|refine Vk r2 rfl ?_|refine ixs EZ ?_|refine ixo hio ?_|refine gx ?_|refine fq (λhw=>?_) λhw=>?_|refine ⟨rfl,rfl,_,rfl,?_⟩|refine ⟨rfl,rfl⟩|fail)
    rw [Jj];simp
   .repeat' (first|refine svr EZ ?_|refine gx ?_|fail)
    have hli:O (xs.take i)=i:=by rw [P7];omega
    have hc1:xx xs (i+1)=xs.take i:=by rw [xx,hc,h5];simp [hi]
    refine Ex.gX (λk2 T H=>∃(j:Nat) (acc:List U0),T=[.s5 1 2 0 (O xs),.any,.d (Z (O acc)),.s5 1 2 (0+i * 2) (O xs - i),.d (Z j)]/\H=[o0,.cells (bA (acc++xs.drop (O acc)))]/\i+j+k2=O xs/\0<j/\O acc+1<=i+j/\0<O acc/\acc=xx xs (i+j)) ?_ (k:=O xs - i - 1) ⟨1,xs.take i,by rw [hli];rfl,by rw [hli,List.take_append_drop],V,V,V,V,hc1.symm⟩;rintro k2 _ _ ⟨j,acc,rfl,rfl,hk2,hj,cn8,bF1,hacc⟩;refine Ex.seq ?_;have br:O acc<O xs:=V
    have hdr:=E3 br;refine tB (J2 j (O xs - i:Nat)) ?_ (λh6=>?_) (λh6=>?_)
    .repeat' (first|refine lnr ?_|refine gx ?_|refine fq (λhw=>?_) λhw=>?_|refine ⟨rfl,rfl,_,rfl,?_⟩|refine ⟨rfl,rfl⟩|fail)
     all_goals exact cc
    .have h7:=F5 h6
     have hjl:j<O xs - i:=V
     have hjo:0<=(j:Int) - 1/\(j:Int) - 1<((O xs - i:Nat):Int):=V
     have hx:∀q,O acc<=q->q<O xs->rd [o0,.cells (bA (acc++xs.drop (O acc)))] 1 (0+q * 2) 2=J ((aP (Y xs q)).map .d):=by
      intro q h1 h2;rw [<- YA h1 h2];exact PO (enc:=aP) (λ_=>rfl) rfl D
     have r3:=hx (i+j) V V;rw [show 0+(i+j) * 2=0+i * 2+j * 2 by omega] at r3;have r4:=hx (i+j - 1) V V;rw [show 0+(i+j - 1) * 2=0+i * 2+((j:Int) - 1).toNat * 2 by omega] at r4;refine gr ?_;refine tB (!decide (Y xs (i+j)=Y xs (i+j - 1))) ?_ (λh8=>?_) (λh8=>?_)
     .repeat' (first|refine Vk r3 rfl ?_|refine Vk r4 rfl ?_|refine ixs hjl ?_|refine ixo hjo ?_|refine gx ?_|refine fq (λhw=>?_) λhw=>?_|refine ⟨rfl,rfl,_,rfl,?_⟩|refine ⟨rfl,rfl⟩|fail)
      rw [Jj];simp
     .have w1:wr [o0,.cells (bA (acc++xs.drop (O acc)))] 1 (0+O acc * 2) ((aP (Y xs (i+j))).map .d)=J [o0,.cells (bA (acc++Y xs (i+j)::xs.drop (O acc+1)))]:=by
       rw [hdr];exact Qq (enc:=aP) (λ_=>rfl) rfl _
      have hb0:C0 ((aP (Y xs (i+j))).map .d)<=1+1:=by rw [OG];omega
      repeat' (first|refine Vk r3 rfl ?_|refine ixs hjl ?_|refine ixs br ?_|refine sN rfl ⟨rfl,rfl⟩ rfl rfl rfl hb0 w1 ?_|refine gx ?_|fail)
      have hN:acc++[Y xs (i+j)]=xx xs (i+(j+1)):=by
       have h9:decide (Y xs (i+j)=Y xs (i+j - 1))=F:=by simpa using h8
       rw [<- M9,xx,<- hacc,h9];simp
      have hl1:O (acc++[Y xs (i+j)])=O acc+1:=U
      exact ⟨k2 - 1,V,_,_,ah (l5 rfl) (hob _),j+1,acc++[Y xs (i+j)],by rw [hl1];rfl,by rw [hl1,M3];rfl,V,V,V,V,hN⟩
     .have hN:acc=xx xs (i+(j+1)):=by
       have h9:decide (Y xs (i+j)=Y xs (i+j - 1))=W:=by simpa using h8
       rw [<- M9,xx,<- hacc,h9];simp;omega
      refine gr ?_;exact ⟨k2 - 1,V,_,_,ah (l5 rfl) (hob _),j+1,acc,rfl,rfl,V,V,V,V,hN⟩
    .have h7:=G7 h6
     have hij:i+j=O xs:=V
     rw [hij] at hacc;rw [<- hacc];have w2:=aR6 o0 acc (xs.drop (O acc));rw [List.length_drop] at w2
     repeat' (first|refine svr br ?_|refine clS w2 ?_|refine svf (Nat.le_of_lt br) bF1 ?_|refine gx ?_|fail)
     exact ⟨_,_,rfl,_,rfl,rfl⟩
   .refine gr ?_
    exact kk ⟨_,_,ah (l5 rfl) (hob _),i+1,rfl,rfl,V,V,by rw [xx,hc,h5,N7 EZ];simp⟩
  .have h4:=G7 h2
   obtain rfl:i=O xs:=V
   rw [hc,List.take_length];refine gr ?_;exact ⟨_,_,rfl,[],rfl,U⟩
 obtain ⟨r,H1,⟨zs,rfl,rfl⟩,h⟩:=key;exact ⟨zs,h⟩
def p87 (l:List U0)(p:U0)(hl:O l<=100000):Pf A 87 [.d (jX l),plc p] (.d (.bool (decide (p∈l)))):=by
 refine Pf.go 3 ?_;unfold plc jX;refine gr ?_;refine Ex.R8 (λk T' H' =>∃i:Nat,i<=O l/\k=O l - i/\T' =[.d (jX l),.any,.ptr 0 0,.any,.d (Z i)]/\H' =[.cells [.d (Z p.1),.d (Z p.2)]]/\∀j,j<i->Y l j≠p) ?_ (k:=O l) ⟨0,V,V,rfl,rfl,λ_ h=>V⟩;rintro k T' H' ⟨i,hi,rfl,rfl,rfl,hb⟩;refine Ex.seq ?_;unfold jX;refine tl (i:Int) (O l:Int) (λh1=>?_) (λh1=>?_)
 .have g1:i<O l:=V
  refine Ex.skip ?_;refine Ex.seq ?_;refine Ex.block ?_;refine tB (decide (Y l i=p)) ?_ (λh5=>?_) (λh5=>?_)
  .repeat' (first|refine gx ?_|refine fq (λhw=>?_) λhw=>?_|refine ⟨rfl,rfl,_,rfl,?_⟩|refine ⟨rfl,rfl⟩|fail)
   rw [Jj];simp
  .have h5:Y l i=p:=by simpa using h5
   have:p∈l:=h5 ▸ P6 g1;refine gr ?_;exact ⟨_,rfl,by simp [this,j5]⟩
  .have h5:Y l i≠p:=by simpa using h5
   refine gr ?_;refine ⟨O l - (i+1),V,i+1,V,rfl,rfl,rfl,λj hj=>?_⟩
   rcases x9 j i with h2|h2
   .exact hb j h2
   .rwa [show j=i by omega]
 .have:p∉l:=λh=>by
   obtain ⟨j,hj,e⟩:=O8 h;exact hb j V ((H6 hj).trans e)
  refine gr ?_;exact ⟨_,rfl,by simp [this,j5]⟩
def EH (l:List U0)(p:U0):List U0:=if p∈l then l else l++[p]
def LB {l:List U0}{p x:U0}:x∈EH l p↔x∈l\/x=p:=by
 unfold EH;split
 next h=>
  constructor
  .exact .inl
  .rintro (h1|rfl)
   .exact h1
   .exact h
 .simp
def aj8 {l:List U0}{p:U0}(h:l.Pairwise xd)(hp:∀x∈l,x=p\/xd x p):(EH l p).Pairwise xd:=by
 unfold EH;split
 .exact h
 next hn=>
  rw [List.pairwise_append];refine ⟨h,List.pairwise_singleton _ _,λa ha b hb=>?_⟩;rw [y3.1 hb];exact (hp a ha).resolve_left λe=>hn (e ▸ ha)
def p92 (l:List U0)(p:U0)(hl:O l<=90000)(hp:∀x∈l,x=p\/xd x p):Pf A 92 [.d (jX l),plc p] (.d (jX (EH l p))):=by
 have p1:=p87 l p V;refine Pf.go 4 ?_;unfold plc jX at *
 refine gr ?_;refine tc (decide (p∈l)) p1 (λh=>?_) (λh=>?_)
 .have h:p∈l:=by simpa using h
  refine gr ?_;exact ⟨_,rfl,by simp [EH,h,j5]⟩
 .have h:p∉l:=by simpa using h
  have e:EH l p=l++[p]:=by simp [EH,h]
  rw [e];have hn:O (l++[p])=O l+1:=U
  repeat' (first|refine bsv [] ?_|refine alE (enc:=aP) (ys:=l) (h2:=?_)|refine oN (enc:=aP) p ?_|refine alN (enc:=aP) (xs:=l) (ys:=[p]) (h2:=?_)|refine gx ?_|fail)
  have ha:Y (l++[p]) (O l)=p:=by rw [H6 U];simp
  have hab:0<O l->xd (Y (l++[p]) ((O l:Int) - 1).toNat) p:=λh0=>by
   have e1:((O l:Int) - 1).toNat=O l - 1:=V
   have e2:Y (l++[p]) (O l - 1)=Y l (O l - 1):=by
    rw [H6 D,H6 V,List.getElem_append_left V]
   rw [e1,e2];have hm:=P6 (show O l - 1<O l by omega);exact (hp _ hm).resolve_left λe=>h (e ▸ hm)
  generalize hX:l++[p]=X at *
  have hj:((O X:Nat):Int) - 1=O l:=V
  rw [hj];refine Ex.R8 (λk T' H' =>k=0/\T' =[.any,.any,.any,.any,L1 2 aP X,.d (Z (O l))]/\H' =[.cells [.d (Z p.1),.d (Z p.2)]]) ?_ (k:=0) ⟨rfl,rfl,rfl⟩
  .rintro k T' H' ⟨rfl,rfl,rfl⟩
   refine Ex.seq ?_;refine Ex.jl F ?_ (λh=>?_) (λh=>?_)
   .refine Rn.draw ?_
    have g1:O l<O X:=V
    unfold xd at hab
    repeat' (first|refine gx ?_|refine fq (λhw=>?_) λhw=>?_|refine ⟨rfl,rfl,_,rfl,?_⟩|refine ⟨rfl,rfl⟩|fail)
    all_goals first
     |rfl
     |(simp only [ha,A5,p7,decide_eq_true_eq,decide_eq_false_iff_not,beq_iff_eq] at *;omega)
   .cases h
   .refine Ex.exit ?_
    refine gr ?_;exact ⟨_,rfl,rfl⟩
abbrev Uq:=Int×Int×Int
def Ay (e:Uq):List B3.Data:=[Z e.1,Z e.2.1,Z e.2.2]
def Hit (v:List Uq)(g:List U0)(i k:Nat):Prop:=(∃e∈v,e.1=(i:Int)/\e.2.1=(k:Int))\/∃s∈g,s.1=(i:Int)
def Bef (c:s6)(v:List Uq)(g:List U0)(i k:Nat)(p:U0):Prop:=∃i' k' :Nat,i' <O c.k9/\k' <O (Y c.k9 i').p9/\p=((i' :Int),(k' :Int))/\Hit v g i' k' /\(i' <i\/(i' =i/\k' <k))
structure BG (c:s6)(v:List Uq)(g:List U0)(i k:Nat)(out:List U0):Prop where
 pw:out.Pairwise xd
 mem:∀p,p∈out↔Bef c v g i k p
 len:O out<=8 * i+k
structure BH (c:s6)(v:List Uq)(g:List U0)(i k:Nat)(S:Prop)(out:List U0):Prop where
 pw:out.Pairwise xd
 mem:∀p,p∈out↔Bef c v g i k p\/(p=((i:Int),(k:Int))/\S)
 len:O out<=8 * i+k+1
 len' :((i:Int),(k:Int))∉out->O out<=8 * i+k
section
variable {c:s6} {v:List Uq} {g:List U0} {i k:Nat} {out:List U0}
def Bef.lt {p:U0}(h:Bef c v g i k p):xd p ((i:Int),(k:Int)):=by
 obtain ⟨i',k',_,_,rfl,_,h⟩:=h
 grind [xd]
def BG.beg (h:BG c v g i k out):BH c v g i k False out:=⟨h.pw,λp=>by rw [h.mem];simp,by have:=h.len;omega,λ_=>h.len⟩
theorem BH.add {S:Prop}(h:BH c v g i k S out):BH c v g i k True (EH out ((i:Int),(k:Int)))/\∀x∈out,x=((i:Int),(k:Int))\/xd x ((i:Int),(k:Int)):=by
 have hx:∀x∈out,x=((i:Int),(k:Int))\/xd x ((i:Int),(k:Int)):=λx hx=>by
  rcases (h.mem x).1 hx with h1|h1
  .exact .inr h1.lt
  simp_all
 refine ⟨⟨aj8 h.pw hx,λp=>?_,?_,λhn=>?_⟩,hx⟩
 .rw [LB,h.mem]
  grind
 .unfold EH
  split
  .exact h.len
  next hn=>
   have:=h.len' hn;simp_all
 simp_all [absurd,LB]
def BH.iff {S S' :Prop}(h:BH c v g i k S out)(e:S↔S'):BH c v g i k S' out:=⟨h.pw,λp=>by rw [h.mem,e],h.len,h.len'⟩
def BH.fin (h:BH c v g i k (Hit v g i k) out)(hi:i<O c.k9)(hk:k<O (Y c.k9 i).p9):BG c v g i (k+1) out:=by
 refine ⟨h.pw,λp=>?_,by have:=h.len;omega⟩;rw [h.mem];constructor
 .rintro (⟨i',k',h1,h2,rfl,h3,h4⟩|⟨rfl,h1⟩)
  .exact ⟨i',k',h1,h2,rfl,h3,V⟩
  .exact ⟨i,k,hi,hk,rfl,h1,V⟩
 .rintro ⟨i',k',h1,h2,rfl,h3,h4⟩
  by_cases e:i' =i/\k' =k
  .simp_all
  .exact .inl ⟨i',k',h1,h2,rfl,h3,V⟩
def BG.row (h:BG c v g i k out)(hk:O (Y c.k9 i).p9<=k)(h8:k<=8):BG c v g (i+1) 0 out:=by
 refine ⟨h.pw,λp=>?_,by have:=h.len;omega⟩;rw [h.mem];constructor
 .rintro ⟨i',k',h1,h2,rfl,h3,h4⟩
  exact ⟨i',k',h1,h2,rfl,h3,V⟩
 .rintro ⟨i',k',h1,h2,rfl,h3,h4⟩
  refine ⟨i',k',h1,h2,rfl,h3,?_⟩
  grind
end
set_option maxHeartbeats 8000000 in
def p36 (c:s6)(hs:J8 c)(hv:M1 c=W)(v:List Uq)(g:List U0)(hvl:O v<=10000)(hgl:O g<=10000) :
  ∃out,BG c v g (O c.k9) 0 out/\Pf A 36 [cat c,.d (B8 Ay v),.d (jX g)] (.d (jX out)):=by
 have EX:=hs.sm.lH.1;have p1:=Vx c hs;rw [hv] at p1;have h1:=Pe.go (A:=A) (f:=36) (args:=[cat c,.d (B8 Ay v),.d (jX g)]) (P:=λw=>∃out,BG c v g (O c.k9) 0 out/\w= .d (jX out)) 8 ?_
 .obtain ⟨_,⟨out,h,rfl⟩,hp⟩:=h1
  exact ⟨out,h,hp⟩
 unfold jX;refine gr ?_;refine tc F p1 (λh=>by cases h) (λh=>?_);refine gr ?_;refine Ex.gX (λq T' H' =>∃(i:Nat) (out:List U0) (w:c7),i<=O c.k9/\q=O c.k9 - i/\BG c v g i 0 out/\w.F4= .d (B8 aP out)/\w.K9=0/\T' =[.any,.d (B8 Ay v),.d (B8 aP g),.ptr 0 0,.any,w,.d (Z i),.any,.any,.any,.any]/\H' =[.cells (c.enc.map .d)]) ?_ (k:=O c.k9) ⟨0,[],_,V,V,⟨List.Pairwise.nil,λp=>by simp [Bef],U⟩,rfl,rfl,rfl,rfl⟩;rintro q T' H' ⟨i,out,w,hi,rfl,hO,hw,hb,rfl,rfl⟩;refine Ex.seq ?_;refine tl (i:Int) (O c.k9:Int) (λh1=>?_) (λh1=>?_)
 .have gi:i<O c.k9:=V
  have hcl:=(aA hv gi).1;refine Ex.skip ?_;refine Ex.seq ?_;refine gr ?_;refine Ex.gX (λq T' H' =>∃(k:Nat) (out:List U0) (w:c7),k<=O (Y c.k9 i).p9/\q=O (Y c.k9 i).p9 - k/\BG c v g i k out/\w.F4= .d (B8 aP out)/\w.K9=0/\T' =[.any,.d (B8 Ay v),.d (B8 aP g),.ptr 0 0,.any,w,.d (Z i),.d (Z k),.any,.any,.any]/\H' =[.cells (c.enc.map .d)]) ?_ (k:=O (Y c.k9 i).p9) ⟨0,out,w,V,V,hO,hw,hb,rfl,rfl⟩;clear hO hw hb out w;rintro q T' H' ⟨k,out,w,hk,rfl,hO,hw,hb,rfl,rfl⟩;have hol:=hO.len;refine Ex.seq ?_;refine tl (k:Int) (O (Y c.k9 i).p9:Int) (λh2=>?_) (λh2=>?_)
  .have gk:k<O (Y c.k9 i).p9:=V
   refine Ex.skip ?_;refine Ex.seq ?_;refine gr ?_;refine Ex.R8 (λq T' H' =>∃(j:Nat) (out:List U0) (w:c7),j<=O v/\q=O v - j/\BH c v g i k (∃j',j' <j/\(Y v j').1=(i:Int)/\(Y v j').2.1=(k:Int)) out/\w.F4= .d (B8 aP out)/\w.K9=0/\T' =[.any,.d (B8 Ay v),.d (B8 aP g),.ptr 0 0,.any,w,.d (Z i),.d (Z k),.ptr 1 0,.d (Z j),.any]/\H' =[.cells (c.enc.map .d),.cells [.d (Z i),.d (Z k)]]) ?_ (k:=O v) ⟨0,out,w,V,V,hO.beg.iff ⟨False.elim,λ⟨_,h,_⟩=>V⟩,hw,hb,rfl,rfl⟩;clear hO hw hb hol out w;rintro q T' H' ⟨j,out,w,hj,rfl,hJ,hw,hb,rfl,rfl⟩;have hjl:=hJ.len;refine Ex.seq ?_;refine tl (j:Int) (O v:Int) (λh3=>?_) (λh3=>?_)
   .have gj:j<O v:=V
    obtain ⟨hA,hx⟩:=hJ.add;have p2:=p92 out ((i:Int),(k:Int)) V hx;unfold jX plc at p2;refine Ex.skip ?_;refine Ex.seq ?_;refine Ex.block ?_;refine tc (A1 (Y v j).1 i&&A1 (Y v j).2.1 k) trivial (λh4=>?_) (λh4=>?_)
    .rw [c8] at h4
     have e1:=aT h4.1;have e2:=aT h4.2
     repeat' (first|refine mvA hw ?_|refine cl (p2) ?_|refine gx ?_|fail)
     exact ⟨O v - (j+1),V,j+1,_,_,V,rfl,hA.iff ⟨λ_=>⟨j,V,e1,e2⟩,λ_=>trivial⟩,rfl,rfl,rfl,rfl⟩
    .have hno:¬ ((Y v j).1=(i:Int)/\(Y v j).2.1=(k:Int)):=λ⟨e1,e2⟩=>by
      rw [e1,e2] at h4;simp [p7] at h4
     refine gr ?_;refine ⟨O v - (j+1),V,j+1,out,w,V,rfl,hJ.iff ⟨λ⟨j',a,b⟩=>⟨j',V,b⟩,λ⟨j',a,b⟩=>⟨j',?_,b⟩⟩,hw,hb,rfl,rfl⟩
     rcases x9 j' j with h|h
     .exact h
     .obtain rfl:j' =j:=V
      exact absurd b hno
   .obtain rfl:j=O v:=V
    refine gr ?_;refine Ex.R8 (λq T' H' =>∃(j:Nat) (out:List U0) (w:c7),j<=O g/\q=O g - j/\BH c v g i k ((∃e∈v,e.1=(i:Int)/\e.2.1=(k:Int))\/∃j',j' <j/\(Y g j').1=(i:Int)) out/\w.F4= .d (B8 aP out)/\w.K9=0/\T' =[.any,.d (B8 Ay v),.d (B8 aP g),.ptr 0 0,.any,w,.d (Z i),.d (Z k),.ptr 1 0,.any,.d (Z j)]/\H' =[.cells (c.enc.map .d),.cells [.d (Z i),.d (Z k)]]) ?_ (k:=O g) ⟨0,out,w,V,V,hJ.iff ⟨λ⟨j',a,b⟩=> .inl ⟨_,P6 a,b⟩,?_⟩,hw,hb,rfl,rfl⟩
    .clear hJ hw hb hjl out w
     rintro q T' H' ⟨j,out,w,hj,rfl,hJ,hw,hb,rfl,rfl⟩;have hjl:=hJ.len;refine Ex.seq ?_;refine tl (j:Int) (O g:Int) (λh3=>?_) (λh3=>?_)
     .have gj:j<O g:=V
      obtain ⟨hA,hx⟩:=hJ.add;have p2:=p92 out ((i:Int),(k:Int)) V hx;unfold jX plc at p2;refine Ex.skip ?_;refine Ex.seq ?_;refine Ex.block ?_;refine tc (A1 (Y g j).1 i) trivial (λh4=>?_) (λh4=>?_)
      .have e1:=aT h4
       repeat' (first|refine mvA hw ?_|refine cl (p2) ?_|refine gx ?_|fail)
       exact ⟨O g - (j+1),V,j+1,_,_,V,rfl,hA.iff ⟨λ_=> .inr ⟨j,V,e1⟩,λ_=>trivial⟩,rfl,rfl,rfl,rfl⟩
      .have hno:=qz h4
       refine gr ?_;refine ⟨O g - (j+1),V,j+1,out,w,V,rfl,hJ.iff ⟨Or.imp id λ⟨j',a,b⟩=>⟨j',V,b⟩,Or.imp id λ⟨j',a,b⟩=>⟨j',?_,b⟩⟩,hw,hb,rfl,rfl⟩
       rcases x9 j' j with h|h
       .exact h
       .obtain rfl:j' =j:=V
        exact absurd b hno
     .obtain rfl:j=O g:=V
      have hF:=(hJ.iff (S' :=Hit v g i k) ⟨Or.imp id λ⟨j',a,b⟩=>⟨_,P6 a,b⟩,Or.imp id λ⟨s,a,b⟩=>by
       obtain ⟨j',hj',rfl⟩:=O8 a;exact ⟨j',hj',by rw [H6 hj'];exact b⟩⟩).fin gi gk
      refine gr ?_;exact ⟨O (Y c.k9 i).p9 - (k+1),V,_,_,ah (by simp [U3,C0,c7.K9,hb]) (l5 rfl),k+1,out,w,V,rfl,hF,hw,hb,rfl,rfl⟩
    .rintro (⟨e,a,b⟩|⟨_,h,_⟩)
     .obtain ⟨j',hj',rfl⟩:=O8 a
      exact ⟨j',hj',by rw [H6 hj'];exact b⟩
     .omega
  .refine gr ?_
   exact ⟨O c.k9 - (i+1),V,_,_,ah (by simp [U3,C0,c7.K9,hb]) (l5 rfl),i+1,out,w,V,rfl,hO.row V V,hw,hb,rfl,rfl⟩
 .obtain rfl:i=O c.k9:=V
  repeat' (first|refine mvA hw ?_|refine gx ?_|fail)
  exact ⟨_,rfl,out,hO,rfl⟩
theorem Gn:∀xs:List U0,Gm (xs.flatMap aP)=J xs
 |[]=>rfl
 |(a,b)::xs=>by simp [aP,Z,Gm,Gn xs]
theorem zi:∀xs:List U0,bt xs=xs.flatMap aP
 |[]=>rfl
 |(a,b)::xs=>by simp [aP,bt,zi xs,Z]
theorem Iz:∀l:List B3.Data,L5 (l.map .d)=J l
 |[]=>rfl
 |x::l=>by simp [L5,c7.data?,Iz l]
def Cg (l:List U0):O (bA l)=O l * 2:=by rw [bA,C5,bW (sz:=2) (λ_=>rfl)]
def bQ0 (o0:B4)(st:Nat)(xs:List U0)(hn:O xs<=1000000):Pm A 89 [.s5 1 2 0 (O xs),.func 90 [] []] [o0,.cells (bA xs)] ⟨0,0,2,st⟩ (.tuple []) [o0,.cells (bA (sortP xs))]:=by
 refine Pm.gQ rfl ?_;have h1:rd [o0,.cells (bA xs)] 1 0 (O xs * 2)=J (bA xs):=by
  simp_all [rd,Cg,y6]
 have h2:wr [o0,.cells (bA xs)] 1 0 (bA (sortP xs))=J [o0,.cells (bA (sortP xs))]:=by
  simp [wr,Cg,iO,splice]
 have h3:L5 (bA xs)=J (xs.flatMap aP):=Iz _;have h4:(bt (sortP xs)).map c7.d=bA (sortP xs):=by rw [zi];rfl
 simp [De,hn,h1,h3,Gn,h4,h2,and_true];rfl
def bi9 (l:H8):Pm A 89 [.d (.slice 0 []),.func 90 [] []] [] l (.tuple []) []:=Pm.gQ rfl rfl
def QW (l:List B3.Data):(B4.cells (l.map .d)).forget.K9=0:=by
 have h:∀l:List B3.Data,C0 (V6 (l.map .d))=0:=λl=>by
  induction l with
  |nil=>rfl
  |cons a l ih =>
   have:(c7.d a).forget.K9=0:=by
    cases a with
    |slice n cs=>cases cs<;>rfl
    |_=>rfl
   simp_all [M8,V6,C0]
 grind [B4.forget,B4.K9]
def UP (p:U0):(aP p).all Data.flat=W:=rfl
def bN1:Pf A 91 [.d (.slice 0 [])] (.d (.slice 0 [])):=by
 refine Pf.gr 4 ?_;refine tc W trivial (λ_=>?_) (λh=>by cases h);refine gr ?_;exact ⟨_,rfl,rfl⟩
def aX3 {T:List c7}{H:n9}{ds:List U0}{zs:List c7}(hT:T[4]? =J (.s5 1 2 0 (O ds)))(hH:H[1]? =J (.cells (bA ds++zs)))(hl:O ds<=100000):aZ a35 0 (J (.ret,⟨T,H⟩))=J (.d (jX ds),[]):=by
 have l1:O (ds.flatMap aP)=O ds * 2:=bW (sz:=2) (λ_=>rfl) ds;have h1:rd H 1 0 (O ds * 2)=J (bA ds):=by
  simp_all [rd,s9,Cg,Nat.zero_add,if_pos,List.drop_zero,List.take_left]
 have h2:X4 H 0 999999 ((ds.flatMap aP).map .d)=J ((ds.flatMap aP).map .d):=by
  have:∀(xs:List B3.Data) (f:Nat),O xs<f->X4 H 0 f (xs.map .d)=J (xs.map .d):=λxs=>by
   induction xs with
   |nil=>intro f h;cases f with|zero=>omega|succ f=>rfl
   |cons x xs ih =>
    intro f h;cases f with
    |zero=>omega
    |succ f=>simp_all [M8,X4]
  grind
 have h4:bS T H a35.results=J [.s5 1 2 0 (O ds)]:=by
  show bS T H [.slot 4]=_
  grind [bS,mP]
 unfold aZ;simp [h4];show finish F 0 [.s5 1 2 0 (O ds)] H=_
 simp_all [finish,e8,if_false,j5,X4,Nat.not_lt_zero,bA,Iz,c7.K9,jX,B8]
def Zi {n:Nat}(h:n<=100000):roomFor n 16=W:=by
 refine decide_eq_true ?_;omega
def InR (c:s6)(e:Uq):Prop:=0<=e.1/\e.1<O c.k9/\0<=e.2.1/\e.2.1<O (Y c.k9 e.1.toNat).p9
def InS (c:s6)(s:U0)(k:Int)(p:U0):Prop:=0<=s.1/\s.1<O c.k9/\p.1=s.1/\0<=p.2/\p.2<k/\p.2<O (Y c.k9 s.1.toNat).p9
def Ox (c:s6)(v:List Uq)(j:Nat)(p:U0):Prop:=∃j',j' <j/\InR c (Y v j')/\p=((Y v j').1,(Y v j').2.1)
def Uj (c:s6)(g:List U0)(j:Nat)(p:U0):Prop:=∃j',j' <j/\InS c (Y g j') 1000000 p
set_option maxHeartbeats 8000000 in
def p35 (c:s6)(hs:J8 c)(hv:M1 c=W)(v:List Uq)(g:List U0)(hvl:O v<=100)(hgl:O g<=100) :
  ∃acc:List U0,(∀p,p∈acc↔Ox c v (O v) p\/Uj c g (O g) p)/\Pf A 35 [cat c,.d (B8 Ay v),.d (jX g)] (.d (jX (PW acc))):=by
 have EX:=hs.sm.lH.1;have p1:=bN6 c hs;rw [hv] at p1;have h1:=Pe.go (A:=A) (f:=35) (args:=[cat c,.d (B8 Ay v),.d (jX g)]) (P:=λw=>∃acc:List U0,(∀p,p∈acc↔Ox c v (O v) p\/Uj c g (O g) p)/\w= .d (jX (PW acc))) 14 ?_
 .obtain ⟨_,⟨acc,h,rfl⟩,hp⟩:=h1
  exact ⟨acc,h,hp⟩
 unfold jX;refine gr ?_;refine tc F p1 (λh=>by cases h) (λh=>?_);refine gr ?_;refine Ex.gX (λq T' H' =>∃(j:Nat) (acc:List U0),j<=O v/\q=O v - j/\(∀p,p∈acc↔Ox c v j p)/\O acc<=j/\T' =[.any,.any,.d (B8 aP g),.ptr 0 0,.any,L1 2 aP acc,.any,.any,.any,.d (B8 Ay v),.d (Z (O v)),.d (Z j),.any,.any,.any,.any,.any]/\H' =[.cells (c.enc.map .d)]) ?_ (k:=O v) ⟨0,[],V,V,λp=>by simp [Ox],U,rfl,rfl⟩;rintro q T' H' ⟨j,acc,hj,rfl,hA,Ka,rfl,rfl⟩;refine Ex.seq ?_;refine tl (j:Int) (O v:Int) (λh1=>?_) (λh1=>?_)
 .have gj:j<O v:=V
  obtain ⟨e,he⟩:∃e,Y v j=e:=⟨_,rfl⟩;refine Ex.skip ?_;refine Ex.seq ?_;refine gr ?_;rw [he];refine tc (bC 0 e.1&&J2 e.1 (O c.k9)&&bC 0 e.2.1&&J2 e.2.1 (O (Y c.k9 e.1.toNat).p9)) trivial (λh2=>?_) (λh2=>?_)
  .simp only [c8] at h2
   have k1:=nD h2.1.1.1;have k2:=F5 h2.1.1.2;have k3:=nD h2.1.2;have k4:=F5 h2.2;have hr:roomFor (O acc+[((e.1,e.2.1):U0)].length) 16=W:=Zi D
   repeat' (first|refine Wl (cs:=(aP (e.1,e.2.1)).map .d) ?_|refine oN (enc:=aP) (e.1,e.2.1) ?_|refine apN (ys:=[(e.1,e.2.1)]) (hr:=hr) (h2:=?_)|refine gx ?_|fail)
   refine ⟨O v - (j+1),V,_,_,ah (l5 rfl) (l5 rfl),j+1,acc++[(e.1,e.2.1)],V,rfl,λp=>?_,D,rfl,rfl⟩;rw [List.mem_append,hA,y3];constructor
   .rintro (⟨j',a,b⟩|rfl)
    .exact ⟨j',V,b⟩
    .exact ⟨j,V,by rw [he];exact ⟨k1,k2,k3,k4⟩,by rw [he]⟩
   .rintro ⟨j',a,b⟩
    rcases x9 j' j with h|h
    .exact .inl ⟨j',h,b⟩
    .obtain rfl:j' =j:=V
     rw [he] at b;exact .inr b.2
  .have hno:¬ InR c e:=λ⟨k1,k2,k3,k4⟩=>by
    rw [show bC 0 e.1=W by rw [A7];simpa using k1,show J2 e.1 (O c.k9)=W by rw [A5];simpa using k2,show bC 0 e.2.1=W by rw [A7];simpa using k3,show J2 e.2.1 (O (Y c.k9 e.1.toNat).p9)=W by rw [A5];simpa using k4] at h2;cases h2
   refine gr ?_;refine ⟨O v - (j+1),V,_,_,ah (l5 rfl) (l5 rfl),j+1,acc,V,rfl,λp=>?_,V,rfl,rfl⟩;rw [hA];constructor
   .rintro ⟨j',a,b⟩
    exact ⟨j',V,b⟩
   .rintro ⟨j',a,b⟩
    rcases x9 j' j with h|h
    .exact ⟨j',h,b⟩
    .obtain rfl:j' =j:=V
     rw [he] at b;exact absurd b.1 hno
 .obtain rfl:j=O v:=V
  refine gr ?_;refine Ex.gX (λq T' H' =>∃(j:Nat) (acc:List U0),j<=O g/\q=O g - j/\(∀p,p∈acc↔Ox c v (O v) p\/Uj c g j p)/\O acc<=O v+8 * j/\T' =[.any,.any,.any,.ptr 0 0,.any,L1 2 aP acc,.any,.any,.any,.any,.any,.any,.d (B8 aP g),.d (Z (O g)),.d (Z j),.any,.any]/\H' =[.cells (c.enc.map .d)]) ?_ (k:=O g) ⟨0,acc,V,V,λp=>by rw [hA];simp [Uj],V,rfl,rfl⟩;clear hA Ka acc;rintro q T' H' ⟨j,acc,hj,rfl,hA,Ka,rfl,rfl⟩;refine Ex.seq ?_;refine tl (j:Int) (O g:Int) (λh1=>?_) (λh1=>?_)
  .have gj:j<O g:=V
   obtain ⟨e,he⟩:∃e,Y g j=e:=⟨_,rfl⟩;refine Ex.skip ?_;refine Ex.seq ?_;refine gr ?_;rw [he];refine tc (J2 e.1 0||bC (O c.k9) e.1) trivial (λh2=>?_) (λh2=>?_)
   .have hno:∀p,¬ InS c e 1000000 p:=λp ⟨k1,k2,_⟩=>by
     rw [Bool.or_eq_true] at h2
     rcases h2 with h2|h2
     .have:=F5 h2;omega
     .have:=nD h2;omega
    refine gr ?_;refine ⟨O g - (j+1),V,_,_,ah (l5 rfl) (l5 rfl),j+1,acc,V,rfl,λp=>?_,V,rfl,rfl⟩;rw [hA];refine or_congr Iff.rfl ⟨λ⟨j',a,b⟩=>⟨j',V,b⟩,λ⟨j',a,b⟩=>⟨j',?_,b⟩⟩
    rcases x9 j' j with h|h
    .exact h
    .obtain rfl:j' =j:=V
     rw [he] at b;exact absurd b (hno p)
   .rw [E5] at h2
    have k1:=G7 h2.1;have k2:=vE h2.2;have hcl:=(aA hv (show e.1.toNat<O c.k9 by omega)).1;obtain ⟨w,hw⟩:∃w,O (Y c.k9 e.1.toNat).p9=w:=⟨_,rfl⟩;rw [hw] at hcl;refine gr ?_;rw [hw];refine Ex.gX (λq T' H' =>∃(k:Nat) (acc:List U0),k<=w/\q=w - k/\(∀p,p∈acc↔(Ox c v (O v) p\/Uj c g j p)\/InS c e k p)/\O acc<=O v+8 * j+k/\T' =[.any,.any,.any,.ptr 0 0,.any,L1 2 aP acc,.any,.ptr 1 0,.any,.any,.any,.any,.d (B8 aP g),.d (Z (O g)),.d (Z j),.d (Z w),.d (Z k)]/\H' =[.cells (c.enc.map .d),.cells [.d (Z e.1),.d (Z e.2)]]) ?_ (k:=w) ⟨0,acc,V,V,λp=>?_,V,rfl,rfl⟩
    .clear hA Ka acc
     rintro q T' H' ⟨k,acc,hk,rfl,hA,Ka,rfl,rfl⟩;refine Ex.seq ?_;refine tl (k:Int) (w:Int) (λh3=>?_) (λh3=>?_)
     .have hr:roomFor (O acc+[((e.1,(k:Int)):U0)].length) 16=W:=Zi D
      repeat' (first|refine Wl (cs:=(aP (e.1,(k:Int))).map .d) ?_|refine oN (enc:=aP) (e.1,(k:Int)) ?_|refine apN (ys:=[(e.1,(k:Int))]) (hr:=hr) (h2:=?_)|refine gx ?_|fail)
      refine ⟨w - (k+1),V,_,_,ah (l5 rfl) (l5 rfl),k+1,acc++[(e.1,(k:Int))],V,rfl,λp=>?_,D,rfl,rfl⟩;rw [List.mem_append,hA,y3,or_assoc];refine or_congr Iff.rfl ?_;unfold InS;constructor
      .rintro (h|rfl)
       .omega
       .have h4:((k:Nat):Int)<(O (Y c.k9 e.1.toNat).p9:Nat):=V
        have h5:((k:Nat):Int)<((k+1:Nat):Int):=V
        exact ⟨k1,k2,rfl,Int.natCast_nonneg k,h5,h4⟩
      .intro h
       by_cases hp:p.2=k
       .exact .inr (Prod.ext h.2.2.1 hp)
       .exact .inl V
     .obtain rfl:k=w:=V
      refine gr ?_;refine ⟨O g - (j+1),V,_,_,ah (l5 rfl) (l5 rfl),j+1,acc,V,rfl,λp=>?_,V,rfl,rfl⟩;rw [hA,or_assoc];refine or_congr Iff.rfl ?_;constructor
      .rintro (⟨j',a,b⟩|h)
       .exact ⟨j',V,b⟩
       .refine ⟨j,V,?_⟩
        rw [he];unfold InS at *
        omega
      .rintro ⟨j',a,b⟩
       rcases x9 j' j with h|h
       .exact .inl ⟨j',h,b⟩
       .obtain rfl:j' =j:=V
        rw [he] at b;refine .inr ?_;unfold InS at *
        omega
    .rw [hA]
     constructor
     .exact .inl
     .rintro (h|h)
      .exact h
      .unfold InS at h
       omega
  .obtain rfl:j=O g:=V
   cases acc with
   |nil =>
    refine gr ?_;refine Ex.fz (XE rfl) ?_
    repeat' (first|refine c0 (bi9 _) rfl (h2:=?_)|refine uf bN1 ?_|refine gx ?_|fail)
    exact ⟨_,rfl,[],hA,rfl⟩
   |cons a r =>
    generalize hX:a::r=X at *
    have hX0:O X≠0:=by rw [<- hX];simp
    refine gr ?_;refine Ex.fz (am0 rfl hX0 rfl rfl (Xv UP _)) ?_;have AD:=λys st=>aW5 (o0:=(B4.cells (c.enc.map .d)).forget) (by rw [QW];omega) ys st
    have pS:=bQ0 (B4.cells (c.enc.map .d)).forget (I7 [(B4.cells (c.enc.map .d)).forget,.cells (bA X)] 0 2) X V;obtain ⟨zs,pC⟩:=bQ1 (B4.cells (c.enc.map .d)).forget (by rw [QW];omega) (I7 [(B4.cells (c.enc.map .d)).forget,.cells (bA (sortP X))] 0 2) (sortP X) (by rw [iO];omega) (by rw [iO];omega);rw [iO] at pC;have ED:O (xx (sortP X) (O X))<=100000:=by have:=QM (sortP X) (O X);omega
    show Ex A Q9 0 _ ⟨[.any,.any,.any,.ptr 0 0,.any,.s5 1 2 0 (O X),.any,.any,.any,.any,.any,.any,_,_,_,.any,.any],[(B4.cells (c.enc.map .d)).forget,.cells (bA X)]⟩ _
    refine gr ?_;refine c0 (AD:=AD X 0) (hcl:=mZ (AD X 0)) pS rfl (h2:=?_);refine gr ?_;refine c0 (AD:=AD (sortP X) 0) (hcl:=mZ (AD (sortP X) 0)) pC rfl (h2:=?_);refine gr ?_;refine ⟨_,aX3 rfl rfl ED,X,hA,?_⟩;rw [PW,iO];rfl
end Go.Proofs.YtibjocmpkoepoaaGreat


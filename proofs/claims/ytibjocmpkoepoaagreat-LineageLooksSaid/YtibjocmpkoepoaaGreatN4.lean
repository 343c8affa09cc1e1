import Derived.Test.YtibjocmpkoepoaaGreatN2
set_option linter.all false
open Bool renaming and_eq_true→c7,false_eq_true→j4,true→W,false→F
open Int renaming toNat_natCast→J9
open List renaming append_assoc→D3,getElem?_append_right→y3,getElem_of_mem→R3,length_append→n5,length_cons→p8,length_map→A7,length_nil→y9,mem_append→D7,mem_append_left→K8,mem_cons→B6,mem_map→J4,mem_singleton→q8,nil_append→B3,pairwise_cons→M7,replicate→c9,set_cons_succ→r9,set_cons_zero→s4,take_length→H8,length→O
open Nat renaming le_of_ble_eq_true→j9,le_refl→l6,le_trans→C9,lt_or_ge→A5,zero_le→O0
open Option renaming some→J,none→K
namespace Go.Proofs.YtibjocmpkoepoaaGreat
open Go.A1 Go.A1.S
def Nq {fs:List A3}{p q:C7}:tJ (jq fs) [q] p↔tJ fs [p] q:=(aC7 (λ_=>List.mem_reverse) p).trans tJ.aC9
def ai3 (fs:List A3)(nt:Nat)(p:C7):O (Kx fs nt p)<=O fs+1:=by
 unfold Kx jr;rw [A7];refine C9 (List.length_filter_le _ _) ?_;rw [Y4];have:=oh (jq fs) [p];rw [show O (jq fs)=O fs by simp [jq]] at this;simp at this;omega
def yS (p:C7):List C7->List C7
 |[]=>[p]
 |y::l=>if BB y p then y::yS p l else if y=p then y::l else p::y::l
theorem kg (a b:C7):BB a b=W↔a.1<b.1\/(a.1=b.1/\a.2<b.2):=by
 simp only [BB,s9,o8,Bool.or_eq_true,c7,decide_eq_true_eq,beq_iff_eq]
theorem SY (p:C7):∀l:List C7,∃i,i<=O l/\(∀j,j<i->BB (Y l j) p=W)/\(i<O l->BB (Y l i) p=F) /\
  yS p l=if i<O l/\Y l i=p then l else l.take i++[p]++l.drop i
 |[]=>⟨0,by simp [yS]⟩
 |y::l=>by
  have h4:Y (y::l) 0=y:=E6 U;have h0:∀j,j<O l->Y (y::l) (j+1)=Y l j:=λj hj=>by rw [E6 D,E6 hj];simp
  by_cases hy:BB y p=W
  .obtain ⟨i,h1,h2,h3,h5⟩:=SY p l
   refine ⟨i+1,D,λj hj=>?_,λhi=>?_,?_⟩
   .cases j with
    |zero=>rw [h4];exact hy
    |succ j=>rw [h0 j V];exact h2 j V
   .simp at hi
    rw [h0 i hi];exact h3 hi
   .simp only [yS,if_pos hy,h5]
    by_cases hi:i<O l
    .rw [h0 i hi]
     by_cases e:Y l i=p<;>simp [hi,e]
    .simp [hi]
  .refine ⟨0,U,λj hj=>V,λ_=>by rw [h4];simpa using hy,?_⟩
   simp only [yS,if_neg hy,h4]
   by_cases e:y=p<;>simp [e]
def Er {l:List C7}(h:l.Nodup):(sortP l).Pairwise λa b=>BB a b=W:=by
 refine ((Es l).and (NH h)).imp λ{a b} h=>?_
 obtain ⟨h1,h2⟩:=h;rw [Ti] at h1;rw [kg];have:¬ (a.1=b.1/\a.2=b.2):=λh=>h2 (Prod.ext h.1 h.2)
 omega
theorem SZ {p:C7}:∀{l:List C7},l.Pairwise (λa b=>BB a b=W)->p∈l->yS p l=l
 |y::l,h,hp=>by
  rw [M7] at h;unfold yS
  rcases B6.1 hp with rfl|hp
  .have:BB p p=F:=by
    cases e:BB p p with
    |false=>rfl
    |true=>rw [kg] at e;omega
   simp [this]
  .rw [if_pos (h.1 p hp),SZ h.2 hp]
theorem Mp {p:C7}:∀{l:List C7},p∉l->yS p l=JJ wm p l
 |[],_=>rfl
 |y::l,h=>by
  have h1:y≠p:=λe=>h (e ▸ List.mem_cons_self)
  have ih:=Mp (p:=p) (l:=l) λe=>h (List.mem_cons_of_mem _ e)
  unfold yS JJ;rw [ih,if_neg h1]
  by_cases e:BB y p=W
  .rw [if_pos e,if_pos ((iu _ _).2 ((kg _ _).1 e))]
  .rw [if_neg e,if_neg λc=>e ((kg _ _).2 ((iu _ _).1 c))]
def Hf {S:List C7}(h:S.Nodup)(p:C7):yS p (sortP S)=sortP (oP S p):=by
 unfold oP;split
 next hp=>
  exact SZ (Er h) (nW.2 hp)
 next hp=>
  rw [Mp (λe=>hp (nW.1 e)),uf (List.perm_append_comm (l₁:=S) (l₂:=[p]))];rfl
def XE {S:List C7}(h:S.Nodup)(f:A3)(d:Bool)(hf:d=decide (f.src∈S)):(if d then yS f.dst (sortP S) else sortP S)=sortP (aB S f):=by
 subst hf;unfold aB
 by_cases h1:f.src∈S
 .rw [if_pos (decide_eq_true h1),Hf h]
  unfold oP
  by_cases h2:f.dst∈S<;>simp [h1,h2]
 .simp [h1]
def Cv {l:List C7}:∀{S:List C7},fZ S l=l.foldl oP S:=by
 induction l with
 |nil=>intro S;rfl
 |cons p l ih=>intro S;exact ih
attribute [local irreducible] Rx Ry Rn Ex Pf
def IsP (w:c8)(l:List C7):Prop:=w= .d (J1 l)\/w=D9 2 S7 l
def IsP.as {w:c8}{l:List C7}(h:IsP w l):w.K7= .d (J1 l):=by
 rcases h with rfl|rfl<;>rfl
set_option maxHeartbeats 8000000 in
def aL6 (l:List C7)(p:C7)(hl:O l<=200000):∃w,IsP w (yS p l)/\Pf A 132 [.d (J1 l),vA p] w:=by
 obtain ⟨i,hi1,hi2,hi3,hi4⟩:=SY p l;have key:∀w,w=(if i<O l/\Y l i=p then c8.d (J1 l) else D9 2 S7 (l.take i++[p]++l.drop i))->IsP w (yS p l):=λw hw=>by
  rw [hi4,hw];split
  .exact .inl rfl
  .exact .inr rfl
 refine ⟨_,key _ rfl,?_⟩;refine Pf.go 3 ?_;unfold vA;refine gr ?_;refine Ex.aY (λk T H=>∃(j:Nat) (w1 w3:c8),T=[.d (J1 l),w1,.ptr 0 0,w3,.d (Z j)]/\H=[.cells [.d (Z p.1),.d (Z p.2)]]/\j+k=i) ?_ (k:=i) ⟨0,_,_,rfl,rfl,U⟩;rintro k _ _ ⟨j,w1,w3,rfl,rfl,hk⟩;refine Ex.nT ?_;refine Ex.seq ?_;have hj:j<i\/j=i:=V
 have p1:=ZO (Y l j) p;refine tc (F6 j (O l)&&BB (Y l j) p) p1 (λh1=>?_) (λh1=>?_)
 .simp only [c7] at h1
  have h2:=C4 h1.1;refine gr ?_;refine ⟨k - 1,?_,j+1,_,_,rfl,rfl,?_⟩
  .rcases hj with h|rfl
   .omega
   .have:=hi3 V;rw [this] at h1;cases h1.2
  .rcases hj with h|rfl
   .omega
   .have:=hi3 V;rw [this] at h1;cases h1.2
 obtain rfl:j=i:=by
  rcases hj with h|h
  .have:=hi2 j h
   rw [this,Bool.and_true] at h1;have:=B5 h1;omega
  .exact h
 refine gr ?_;refine tB (F6 j (O l)&&gX (Y l j) p) ?_ (λh4=>?_) (λh4=>?_)
 .repeat' (first|refine gx ?_|refine fq (λhw=>?_) λhw=>?_|refine ⟨rfl,rfl,_,rfl,?_⟩|refine ⟨rfl,rfl⟩|fail)
  all_goals first|(simp [*,j3,gX];done)|(simp_all [j3,gX];done)|(simp_all [j3,gX,s9,s8,o8,D2];done)|(simp_all [j3,gX,s9,s8,o8,D2]<;>omega)
 .simp only [c7] at h4
  have h2:=C4 h4.1;rw [if_pos ⟨V,(wC _ _).1 h4.2⟩];refine gr ?_;exact ⟨_,rfl,rfl⟩
 .have e:¬ (j<O l/\Y l j=p):=by
   rintro ⟨g1,g2⟩;rw [(wC _ _).2 g2,Bool.and_true] at h4;have:=B5 h4;omega
  rw [if_neg e];have h5:O (l.take j)<=200000:=D
  repeat' (first|refine Yr [] ?_|refine alE (enc:=S7) (ys:=l.take j) (h2:=?_)|refine oN (enc:=S7) p ?_|refine alN (enc:=S7) (xs:=l.take j) (ys:=[p]) (h2:=?_)|refine alN (enc:=S7) (xs:=l.take j++[p]) (ys:=l.drop j) (h2:=?_)|refine gx ?_|fail)
  exact ⟨_,rfl,rfl⟩
def br (d:Bool)(fs:List A3):List A3:=fs.filter λf=>f.dat|| !d
def Xu (d:Bool)(fs:List A3){i:Nat}(h:i<O fs):br d (fs.take (i+1))=br d (fs.take i)++(if (Y fs i).dat|| !d then [Y fs i] else []):=by
 unfold br;rw [E2 h,List.filter_append]
 congr 1
 simp only [List.filter_cons,List.filter_nil]
theorem Nc:∀(xs ys:List A3) (S:List C7),pass S (xs++ys)=pass (pass S xs) ys
 |[],_,_=>rfl
 |x::xs,ys,S=>Nc xs ys (aB S x)
def WC {S:List C7}(p:C7):pG (sortP S) p=decide (p∈S):=by
 rw [Bool.eq_iff_iff,Ds,nW,decide_eq_true_iff]
def YC (fs:List A3)(n:Nat)(S:List C7):mb fs (n+1) S=if O (pass S fs)=O S then S else mb fs n (pass S fs):=rfl
set_option maxHeartbeats 8000000 in
def aL5 (fs:List A3)(d:Bool)(hf:O fs<=100000)(n:Nat)(S:List C7)(hS:S.Nodup)(hn:dV (br d fs) S<n)(hl:O S+dV (br d fs) S<=200000) :
  Pf A 131 [.d (ak fs),.d (J1 (sortP S)),.d (.bool d)] (.d (J1 (sortP (mb (br d fs) n S)))):=by
 refine Pf.gr 3 ?_;refine Ex.aY (λk T H=>∃(S' :List C7) (w1 w3 w4 w5:c8),T=[.d (ak fs),w1,.d (.bool d),w3,w4,w5]/\H=[]/\IsP w1 (sortP S')/\S'.Nodup/\dV (br d fs) S' <k/\O S'+dV (br d fs) S' <=200000/\mb (br d fs) n S=mb (br d fs) k S') ?_ (k:=n) ⟨S,_,_,_,_,rfl,rfl,.inl rfl,hS,hn,hl,rfl⟩;rintro k _ _ ⟨S',w1,w3,w4,w5,rfl,rfl,hw,hS',hk,hl',hc⟩;obtain ⟨k,rfl⟩:∃k',k=k' +1:=⟨k - 1,V⟩;rw [hc];have oK:=hw.as;refine Ex.nT ?_
 repeat' (first|refine wS oK ?_|refine gx ?_|fail)
 refine Ex.aY (λk T H=>∃(i:Nat) (w1 w3:c8),T=[.d (ak fs),w1,.d (.bool d),w3,.d (Z (O (sortP S'))),.d (Z i)]/\H=[]/\IsP w1 (sortP (pass S' (br d (fs.take i))))/\i+k=O fs) ?_ (k:=O fs) ⟨0,_,_,rfl,rfl,hw,U⟩;clear hw oK;rintro m _ _ ⟨i,w1,w3,rfl,rfl,hw,hm⟩;have oK:=hw.as;refine Ex.nT ?_;refine Ex.seq ?_;have hq:(pass S' (br d (fs.take i))).Nodup:=vv _ hS';have hql:O (pass S' (br d (fs.take i)))<=200000:=by
  have:=tw (fs:=br d fs) (br d (fs.take i)) S' λg hg=>by
   obtain ⟨h1,h2⟩:=List.mem_filter.1 hg;exact List.mem_filter.2 ⟨List.mem_of_mem_take h1,h2⟩
  omega
 refine tb (F6 i (O fs)) (λh2=>?_) (λh2=>?_)
 .have h3:=C4 h2
  have e1:pass S' (br d (fs.take (i+1)))=if (Y fs i).dat|| !d then aB (pass S' (br d (fs.take i))) (Y fs i) else pass S' (br d (fs.take i)):=by
   rw [Xu d fs V,Nc];split<;>rfl
  obtain ⟨Q,hQ⟩:∃Q,pass S' (br d (fs.take i))=Q:=⟨_,rfl⟩;rw [hQ] at hw hq hql e1 oK;have p24:=aY3 (sortP Q) (Y fs i).src (by rw [Y4];omega);obtain ⟨w6,hw6,ac3⟩:=aL6 (sortP Q) (Y fs i).dst (by rw [Y4];omega);have e2:=XE hq (Y fs i) _ (WC _);refine gr ?_;refine tB (pG (sortP Q) (Y fs i).src&&((Y fs i).dat|| !d)) ?_ (λh4=>?_) (λh4=>?_)
  .repeat' (first|refine wS oK ?_|refine cl (p24) ?_|refine le (cs:=S7 (Y fs i).src) ?_|refine gx ?_|refine fq (λhw=>?_) λhw=>?_|refine ⟨rfl,rfl,_,rfl,?_⟩|refine ⟨rfl,rfl⟩|fail)
   all_goals exact cc
  .simp only [c7] at h4
   rw [h4.1,if_pos rfl] at e2;rw [h4.2,if_pos rfl,] at e1;rw [e2,<- e1] at hw6
   rcases hw6 with rfl|rfl
   .repeat' (first|refine wS oK ?_|refine cl (ac3) ?_|refine le (cs:=S7 (Y fs i).dst) ?_|refine gx ?_|fail)
    exact ⟨m - 1,V,i+1,_,_,rfl,rfl,.inl rfl,V⟩
   .repeat' (first|refine wS oK ?_|refine cl (ac3) ?_|refine le (cs:=S7 (Y fs i).dst) ?_|refine gx ?_|fail)
    exact ⟨m - 1,V,i+1,_,_,rfl,rfl,.inr rfl,V⟩
  .have e3:sortP (pass S' (br d (fs.take (i+1))))=sortP Q:=by
    rw [e1];split
    next h5=>
     rw [h5,Bool.and_true] at h4;rw [<- e2,h4];rfl
    .rfl
   refine gr ?_;exact ⟨m - 1,V,i+1,_,_,rfl,rfl,by rw [e3];exact hw,V⟩
 .have h3:=B5 h2
  obtain rfl:i=O fs:=V
  rw [H8] at hw hq hql oK;obtain ⟨g1,g2⟩:=rG (br d fs) S';have g3:=CP (br d fs);rw [YC];refine gr ?_;refine tB (u7 (O (pass S' (br d fs))) (O S')) ?_ (λh4=>?_) (λh4=>?_)
  .repeat' (first|refine wS oK ?_|refine gx ?_|refine fq (λhw=>?_) λhw=>?_|refine ⟨rfl,rfl,_,rfl,?_⟩|refine ⟨rfl,rfl⟩|fail)
   all_goals first|(simp [*,j3,Y4];done)|(simp_all [j3,Y4];done)|(simp_all [j3,Y4,s9,s8,o8,D2];done)|(simp_all [j3,Y4,s9,s8,o8,D2]<;>omega)
  .have h5:=eE h4
   have h6:O (pass S' (br d fs))=O S':=V
   rw [if_pos h6];rw [(g2 h6).1] at oK
   repeat' (first|refine wS oK ?_|refine gx ?_|fail)
   exact ⟨_,rfl,rfl⟩
  .have h5:O (pass S' (br d fs))≠O S':=by
    have:=wB h4;omega
   rw [if_neg h5];have h6:=tw (fs:=br d fs) (br d fs) S' λ_ h=>h
   refine gr ?_;exact ⟨k,V,_,_,_,_,_,rfl,rfl,hw,hq,V,V,rfl⟩
def ZE {c:s5}{p:C7}(h:Y2 c p.1=W):aD (Y1 c) p=(cg 0 p.2&&F6 p.2 (O (P4 c p.1.toNat))):=by
 obtain ⟨_,_,h1,h2⟩:=wL h;have h3:=Ot c (n:=s5.ns c) (i:=p.1.toNat) V;have h4:=gO c (s5.ns c);unfold aD Y1;rw [h3,h4];simp only [s8,s9];rw [decide_eq_true h1,decide_eq_true h2];rfl
def ZD {c:s5}{p:C7}(hv:F0 c=W)(h:Y2 c p.1=F):aD (Y1 c) p=F:=by
 have h4:=gO c (s5.ns c);unfold Y2 at h;rw [hv,Bool.true_and] at h;unfold aD Y1;rw [h4,<- Bool.and_assoc,h];rfl
def ZQ (c:s5)(hs:G4 c)(hv:F0 c=W)(p:C7):Pf A 130 [cat c,vA p] (.d (.bool (aD (Y1 c) p))):=by
 refine Pf.go 3 ?_;unfold vA;cases h:Y2 c p.1 with
 |true =>
  have p1:=ad9 c hs _ h;rw [ZE h]
  repeat' (first|refine cl (p1) ?_|refine gy ?_|refine fq (λhw=>?_) λhw=>?_|refine ⟨_,rfl,?_⟩|fail)
  all_goals simp_all [j3]
 |false =>
  have p1:=bx1 c hs _ h;rw [ZD hv h]
  repeat' (first|refine cl (p1) ?_|refine gy ?_|refine fq (λhw=>?_) λhw=>?_|refine ⟨_,rfl,?_⟩|fail)
  all_goals first|(simp_all [j3];done)|(simp_all [j3,s8,s9]<;>omega)
def rR (fs:List A3):br F fs=fs:=by simp [br]
def Yo (a b:List C7)(S:List C7):fZ S (a++b)=fZ (fZ S a) b:=by rw [Cv,List.foldl_append,<- Cv,<- Cv]
def aC6 (fs:List A3)(l:List C7):qB fs l=sortP (mb fs (O fs+1) (fZ [] l)):=rfl
def aL9 (c:s5)(hs:G4 c)(hv:F0 c=F)(l:List C7):Pf A 78 [cat c,.d (J1 l)] (.own 2 0 []):=by
 have p1:=Ng c hs;rw [hv] at p1;refine Pf.gr 4 ?_;refine tc (W) p1 (λh1=>?_) (λh1=>?_)
 .refine gr ?_
  exact ⟨_,rfl,rfl⟩
 .cases h1
set_option maxHeartbeats 8000000 in
def br2 (c:s5)(hs:G4 c)(hv:F0 c=W)(ht:O c.k9<=8)(hw:O c.views<=12)(l:List C7)(hl:O l<=50):Pf A 78 [cat c,.d (J1 l)] (.d (J1 (qB (dc c) (l.filter (aD (Y1 c)))))):=by
 have p1:=Ng c hs;rw [hv] at p1;have p18:=aL8 c hs hv;have hd:=iB hv ht hw;refine Pf.gr 4 ?_;refine tc (F) p1 (λh1=>?_) (λh1=>?_)
 .cases h1
 refine gr ?_;refine Ex.T9 (λk T H=>∃(i:Nat) (w4:c8),T=[.any,.d (J1 l),.ptr 0 0,.any,w4,.d (Z i)]/\H=[.cells (c.enc.map .d)]/\IsP w4 (sortP (fZ [] ((l.take i).filter (aD (Y1 c)))))/\i+k=O l) ?_ (k:=O l) ⟨0,_,rfl,rfl,.inr rfl,U⟩;rintro k _ _ ⟨i,w4,rfl,rfl,hw4,hk⟩;have oK:=hw4.as;have hq:(fZ [] ((l.take i).filter (aD (Y1 c)))).Nodup:=uJ _ _ List.nodup_nil;have hql:O (fZ [] ((l.take i).filter (aD (Y1 c))))<=50:=by
  have h1:=Cu ((l.take i).filter (aD (Y1 c))) [];have h2:=List.length_filter_le (aD (Y1 c)) (l.take i);simp at h1 h2;omega
 refine Ex.seq ?_;refine tl i (O l) (λh3=>?_) (λh3=>?_)
 .have cc7:=ZQ c hs hv (Y l i)
  obtain ⟨Q,hQ⟩:∃Q,fZ [] ((l.take i).filter (aD (Y1 c)))=Q:=⟨_,rfl⟩;have e1:fZ [] ((l.take (i+1)).filter (aD (Y1 c)))=if aD (Y1 c) (Y l i) then oP Q (Y l i) else Q:=by
   rw [E2 V,List.filter_append,Yo,hQ];simp only [List.filter_cons,List.filter_nil];split<;>rfl
  rw [hQ] at hq hql hw4 oK;obtain ⟨w6,hw6,ac3⟩:=aL6 (sortP Q) (Y l i) (by rw [Y4];omega);rw [Hf hq] at hw6;refine gr ?_;refine tc (aD (Y1 c) (Y l i)) cc7 (λh4=>?_) (λh4=>?_)
  .rw [if_pos h4] at e1
   rw [<- e1] at hw6
   rcases hw6 with rfl|rfl
   .repeat' (first|refine wS oK ?_|refine cl (ac3) ?_|refine gx ?_|fail)
    exact kk ⟨i+1,_,rfl,rfl,.inl rfl,V⟩
   .repeat' (first|refine wS oK ?_|refine cl (ac3) ?_|refine gx ?_|fail)
    exact kk ⟨i+1,_,rfl,rfl,.inr rfl,V⟩
  .rw [h4] at e1
   refine gr ?_;exact kk ⟨i+1,_,rfl,rfl,by rw [e1];exact hw4,V⟩
 .obtain rfl:i=O l:=V
  rw [H8] at hw4 hq hql oK;have hm:=rD (dc c) (fZ [] (l.filter (aD (Y1 c))));have bt2:=aL5 (dc c) F hd (O (dc c)+1) _ hq (by rw [rR];omega) (by rw [rR];omega);rw [rR,<- aC6] at bt2
  repeat' (first|refine cl (p18) ?_|refine wS oK ?_|refine cl (bt2) ?_|refine gx ?_|fail)
  exact ⟨_,rfl,rfl⟩
def ca8 (l:List Int)(hl:O l<=9223372036854775807):Pf A 79 [.d (ints l),.d (ints l)] (.d (.bool W)):=by
 refine Pf.gr 2 ?_;refine tB (F) ?_ (λh1=>?_) (λh1=>?_)
 .repeat' (first|refine gx ?_|refine fq (λhw=>?_) λhw=>?_|refine ⟨rfl,rfl,_,rfl,?_⟩|refine ⟨rfl,rfl⟩|fail)
  all_goals first|(simp [*,j3,o8];done)|(simp_all [j3,o8];done)|(simp_all [j3,o8,s9,s8,o8,D2];done)|(simp_all [j3,o8,s9,s8,o8,D2]<;>omega)
 .cases h1
 refine gr ?_;refine Ex.T9 (λk T H=>∃(i:Nat),T=[.d (ints l),.d (ints l),.any,.d (Z i)]/\H=[]/\i+k=O l) ?_ (k:=O l) ⟨0,rfl,rfl,U⟩;rintro k _ _ ⟨i,rfl,rfl,hk⟩;refine Ex.seq ?_;refine tb (F6 i (O l)) (λh2=>?_) (λh2=>?_)
 .have h3:=C4 h2
  refine gr ?_;refine tB (F) ?_ (λh4=>?_) (λh4=>?_)
  .repeat' (first|refine gx ?_|refine fq (λhw=>?_) λhw=>?_|refine ⟨rfl,rfl,_,rfl,?_⟩|refine ⟨rfl,rfl⟩|fail)
   all_goals first|(simp [*,j3,o8];done)|(simp_all [j3,o8];done)|(simp_all [j3,o8,s9,s8,o8,D2];done)|(simp_all [j3,o8,s9,s8,o8,D2]<;>omega)
  .cases h4
  .refine gr ?_
   exact kk ⟨i+1,rfl,rfl,V⟩
 .have h3:=B5 h2
  refine gr ?_;exact ⟨_,rfl,rfl⟩
def zz (l:List C7):List Int:=l.foldl (λa p=>gv a p.1) []
def NP (l:List C7):O (zz l)<=O l:=by
 have h:∀(l:List C7) (a:List Int),O (l.foldl (λa p=>gv a p.1) a)<=O a+O l:=λl=>by
  induction l with
  |nil=>intro a;exact l6 _
  |cons p l ih =>
   intro a;have h1:=ih (gv a p.1);have h2:=Cs p.1 a;simp only [List.foldl_cons,p8];omega
 have:=h l [];simp only [y9,Nat.zero_add] at this;exact this
def XH {l:List C7}{i:Nat}(h:i<O l):zz (l.take (i+1))=gv (zz (l.take i)) (Y l i).1:=by
 unfold zz;rw [E2 h,List.foldl_append];rfl
def ca9 (c:s5)(l r:List C7)(hr:O r<=200000)(p78:Pf A 78 [cat c,.d (J1 l)] (.d (J1 r))):Pf A 81 [cat c,.d (J1 l)] (.d (ints (zz r))):=by
 refine Pf.go 5 ?_;refine gc p78 ?_;refine Ex.T9 (λk T H=>∃(i:Nat) (w4:c8),T=[.any,.any,.any,.any,w4,.d (J1 r),.d (Z i)]/\H=[.cells (c.enc.map .d)]/\IsL w4 (zz (r.take i))/\i+k=O r) ?_ (k:=O r) ⟨0,_,rfl,rfl,.inr rfl,U⟩;rintro k _ _ ⟨i,w4,rfl,rfl,hw,hk⟩;have oK:=hw.as;refine Ex.seq ?_;refine tl i (O r) (λh3=>?_) (λh3=>?_)
 .obtain ⟨w6,hw6,p88⟩:=bx5 (zz (r.take i)) (Y r i).1 (by have:=NP (r.take i);simp only [List.length_take] at this;omega)
  rw [<- XH V] at hw6
  rcases hw6 with rfl|rfl
  .repeat' (first|refine wS oK ?_|refine cl (p88) ?_|refine gx ?_|fail)
   exact kk ⟨i+1,_,rfl,rfl,.inl rfl,V⟩
  .repeat' (first|refine wS oK ?_|refine cl (p88) ?_|refine gx ?_|fail)
   exact kk ⟨i+1,_,rfl,rfl,.inr rfl,V⟩
 .obtain rfl:i=O r:=V
  rw [H8] at hw oK
  repeat' (first|refine wS oK ?_|refine gx ?_|fail)
  exact ⟨_,rfl,rfl⟩
def mM (c:s5):Nat->List C7
 |0=>[]
 |k+1=>mM c k++ue (k:Int) (O (P4 c k))
def vF (fs:List A3)(p:C7)(qs:List C7):List A3:=(qs.filter λq=>pG (qB fs [q]) p).map λq=>⟨q,p,pG (qB (br W fs) [q]) p⟩
def ai4 (fs:List A3)(p:C7)(qs rs:List C7):vF fs p (qs++rs)=vF fs p qs++vF fs p rs:=by simp [vF]
def ai6 (fs:List A3)(p q:C7):vF fs p [q]=if pG (qB fs [q]) p then [⟨q,p,pG (qB (br W fs) [q]) p⟩] else []:=by
 unfold vF;simp only [List.filter_cons,List.filter_nil];split<;>rfl
def ai5 (fs:List A3)(p:C7)(qs:List C7):O (vF fs p qs)<=O qs:=by
 unfold vF;rw [A7];exact List.length_filter_le _ _
def aZ8 {l:List C7}{i:Nat}(h:i<O l):(l.take (i+1)).drop i=[Y l i]:=by
 rw [E2 h,List.drop_append,List.length_take,Nat.min_eq_left V];simp
def br1 (c:s5)(hs:G4 c)(p:C7)(h:F0 c=F\/aD (Y1 c) p=F):Pf A 77 [cat c,vA p] (.own 5 0 []):=by
 have p1:=Ng c hs;have hd:F0 c=W->aD (Y1 c) p=F:=λe=>h.resolve_left (by rw [e];simp)
 refine Pf.go 8 ?_;unfold vA;refine gr ?_;cases hv:F0 c with
 |false =>
  rw [hv] at p1;refine tc (W) p1 (λh1=>?_) (λh1=>?_)
  .refine gr ?_
   exact ⟨_,rfl,rfl⟩
  .cases h1
 |true =>
  rw [hv] at p1;have p2:=ZQ c hs hv p;rw [hd hv] at p2;refine tc (W) (And.intro p1 p2) (λh1=>?_) (λh1=>?_)
  .refine gr ?_
   exact ⟨_,rfl,rfl⟩
  .cases h1
set_option maxHeartbeats 8000000 in
def ca7 (c:s5)(hs:G4 c)(hv:F0 c=W)(ht:O c.k9<=8)(hw:O c.views<=12)(p:C7)(hp:aD (Y1 c) p=W):Pf A 77 [cat c,vA p] (.d (ak (vF (dc c) p (mM c (O c.k9))))):=by
 have p1:=Ng c hs;have p2:=ZQ c hs hv p;rw [hv] at p1;rw [hp] at p2;have p18:=aL8 c hs hv;have hd:=iB hv ht hw;have hct:∀t,t<O c.k9->O (P4 c t)<=64:=λt h=>by
  have:=aM hv (t+1) t V (show t<O c.k9+O c.views by omega);omega
 have vM:∀t,t<=O c.k9->O (mM c t)<=64 * t:=λt=>by
  induction t with
  |zero=>intro _;simp [mM]
  |succ t ih =>
   intro h;have h1:=ih V;have h2:=hct t V;rw [mM,n5,dO];omega
 obtain ⟨fs,BO⟩:∃fs,dc c=fs:=⟨_,rfl⟩;rw [BO] at p18 hd ⊢;have hr:∀(d:Bool) (q:C7),Pf A 131 [.d (ak fs),.d (J1 [q]),.d (.bool d)] (.d (J1 (qB (br d fs) [q]))):=λd q=>by
  have h1:=rD (br d fs) [q];have h2:=List.length_filter_le (λf=>f.dat|| !d) fs;exact aL5 fs d hd (O (br d fs)+1) [q] U V (by simp only [List.length_singleton,br] at h1 ⊢;omega)
 have hl:∀(d:Bool) (q:C7),O (qB (br d fs) [q])<=9223372036854775807:=λd q=>by
  have h1:=oh (br d fs) [q];have h2:=List.length_filter_le (λf=>f.dat|| !d) fs;rw [qB,Y4];simp only [List.length_singleton,br] at h1 ⊢;omega
 refine Pf.go 8 ?_;unfold vA;refine gr ?_;refine tc (F) (And.intro p1 p2) (λh1=>?_) (λh1=>?_)
 .cases h1
 refine gc p18 ?_;refine Ex.aY (λk T H=>∃(t:Nat) (acc:List A3) (w0 w1 w4 w8 w9:c8),T=[w0,w1,.ptr 0 0,.ptr 1 0,w4,.d (ak fs),D9 5 A3.enc acc,.d (Z t),w8,w9]/\H=[.cells (c.enc.map .d),.cells [.d (Z p.1),.d (Z p.2)]]/\acc=vF fs p (mM c t)/\t+k=O c.k9) ?_ (k:=O c.k9) ⟨0,[],_,_,_,_,_,rfl,rfl,rfl,U⟩;rintro k _ _ ⟨t,acc,w0,w1,w4,w8,w9,rfl,rfl,hacc,hk⟩;refine Ex.nT ?_;refine Ex.seq ?_;refine tb (F6 t (O c.k9)) (λh2=>?_) (λh2=>?_)
 .have h3:=C4 h2
  have p48:=ZR c hs t (Mr hv (show t<s5.ns c by have:s5.ns c=O c.k9+O c.views:=rfl;omega)) (by rw [J9];have:=hct t V;omega);rw [J9] at p48;have hq:=dO (t:Int) (O (P4 c t));have hct:=hct t V;have ha0:=vM t V;have hn:mM c (t+1)=mM c t++ue (t:Int) (O (P4 c t)):=rfl;obtain ⟨qs,hqs⟩:∃qs,ue (t:Int) (O (P4 c t))=qs:=⟨_,rfl⟩;rw [hqs] at p48 hq hn;refine gc p48 ?_;refine Ex.aY (λk T H=>∃(i:Nat) (acc:List A3) (w0 w1 w4:c8),T=[w0,w1,.ptr 0 0,.ptr 1 0,w4,.d (ak fs),D9 5 A3.enc acc,.d (Z t),.d (J1 qs),.d (Z i)]/\H=[.cells (c.enc.map .d),.cells [.d (Z p.1),.d (Z p.2)]]/\acc=vF fs p (mM c t++qs.take i)/\i+k=O qs) ?_ (k:=O qs) ⟨0,acc,_,_,_,rfl,rfl,by simpa using hacc,U⟩;clear hacc acc;rintro m _ _ ⟨i,acc,w0,w1,w4,rfl,rfl,hacc,hm⟩;refine Ex.nT ?_;refine Ex.seq ?_;refine tl i (O qs) (λg3=>?_) (λg3=>?_)
  .have e1:=aZ8 (l:=qs) (i:=i) V
   have e2:vF fs p (mM c t++qs.take (i+1))=acc++vF fs p [Y qs i]:=by
    rw [E2 V,<- D3,ai4,<- hacc]
   have cC8:O acc<=1000:=by
    have:=ai5 fs p (mM c t++qs.take i);rw [<- hacc,n5,List.length_take] at this;omega
   rw [ai6] at e2;have pr0:=hr F (Y qs i);have pr1:=hr W (Y qs i);rw [rR] at pr0;have l0:=hl F (Y qs i);rw [rR] at l0;obtain ⟨R0,hR0⟩:∃R,qB fs [Y qs i]=R:=⟨_,rfl⟩;obtain ⟨R1,hR1⟩:∃R,qB (br W fs) [Y qs i]=R:=⟨_,rfl⟩;have l1:=hl W (Y qs i);rw [hR0] at pr0 e2 l0;rw [hR1] at pr1 e2 l1;rw [<- e1] at pr0 pr1;have pa:=aY3 R0 p l0;have pb:=aY3 R1 p l1;unfold vA at pa pb;refine gr ?_;refine tc (pG R0 p) (And.intro pr0 pa) (λh4=>?_) (λh4=>?_)
   .rw [if_pos h4] at e2
    repeat' (first|refine cl (pr1) ?_|refine cl (pb) ?_|refine Bu (cs:=(A3.enc ⟨Y qs i,p,pG R1 p⟩).map .d) ?_|refine oN (enc:=A3.enc) (⟨Y qs i,p,pG R1 p⟩:A3) ?_|refine XR (ys:=[(⟨Y qs i,p,pG R1 p⟩:A3)]) (h2:=?_)|refine gx ?_|fail)
    exact ⟨m - 1,V,i+1,_,_,_,_,rfl,rfl,e2.symm,V⟩
   .rw [h4] at e2
    refine gr ?_;exact ⟨m - 1,V,i+1,_,_,_,_,rfl,rfl,by rw [e2];simp,V⟩
  .obtain rfl:i=O qs:=V
   rw [H8,<- hn] at hacc;refine gr ?_;exact kk ⟨t+1,acc,_,_,_,_,_,rfl,rfl,hacc,V⟩
 .have h3:=B5 h2
  obtain rfl:t=O c.k9:=V
  refine gr ?_;exact ⟨_,rfl,by rw [hacc];simp [j3,ak,C6]⟩
end Go.Proofs.YtibjocmpkoepoaaGreat
namespace Go.Proofs.YtibjocmpkoepoaaGreat
open Go.A1 Go.A1.S
def wO {ps:List C7}{to:C7}{d:Bool}{f:A3}(h:f∈yJ ps to d):f.src∈ps/\f.dst=to/\f.dat=d:=by
 obtain ⟨p,hp,rfl⟩:=J4.1 h;exact ⟨hp,rfl,rfl⟩
theorem MJ {s:Int}{L R:List C7}{f:A3}(h0:O L<=O R):∀{k},k<=O L->f∈tO s L R k->f.src∈L++R/\f.dst.1=s
 |0,_,h=>by simp [tO] at h
 |k+1,hk,h=>by
  rw [tO,D7,D7] at h
  rcases h with h|h|h
  .exact MJ h0 V h
  .obtain ⟨h1,h2,_⟩:=wO h
   refine ⟨?_,by rw [h2]⟩;simp only [B6,List.not_mem_nil,or_false] at h1
   rcases h1 with h1|h1<;>rw [h1]
   .exact K8 _ (N8 V)
   .exact List.mem_append_right _ (N8 V)
  .obtain ⟨h1,h2,_⟩:=wO h
   refine ⟨?_,by rw [h2]⟩;simp only [B6,List.not_mem_nil,or_false] at h1
   rcases h1 with h1|h1<;>rw [h1]
   .exact K8 _ (N8 V)
   .exact List.mem_append_right _ (N8 V)
theorem MH {s:Int}{ds:List (List C7)}{cs:List C7}{f:A3}:∀{k},k<=O ds->f∈wV s ds cs k->(f.src∈ds.flatten\/f.src∈cs)/\f.dst.1=s
 |0,_,h=>by simp [wV] at h
 |k+1,hk,h=>by
  rw [wV,D7,D7] at h
  rcases h with h|h|h
  .exact MH V h
  .obtain ⟨h1,h2,_⟩:=wO h
   exact ⟨.inl (List.mem_flatten.2 ⟨_,N8 V,h1⟩),by rw [h2]⟩
  .obtain ⟨h1,h2,_⟩:=wO h
   exact ⟨.inr h1,by rw [h2]⟩
def DK {e:List Y8}{ps:List C7}(h:FT e (O ps)){q:C7}(hq:q∈jY e ps):q∈ps:=by
 obtain ⟨x,hx,rfl⟩:=J4.1 hq;have:=h.col x hx;exact N8 V
def MF {v:Vw}{L R:List C7}(ok:Jd v L R){q:C7}(hq:q∈(nE v (L++R) (O v.items)).flatten):q∈L++R:=by
 obtain ⟨d,hd,hq⟩:=List.mem_flatten.1 hq;obtain ⟨x,hx,rfl⟩:=J4.1 hd;rw [H8] at hx;obtain ⟨i,hi,rfl⟩:=R3 hx;rw [<- E6 hi] at hq;exact DK (ok.it i hi) hq
def ZZ {v:Vw}{L R:List C7}(ok:Jd v L R){q:C7}(hq:q∈(tM v (L++R)).flatten):q∈L++R:=by
 rw [tM,List.flatten_append,D7] at hq
 rcases hq with hq|hq
 .exact MF ok hq
 .obtain ⟨d,hd,hq⟩:=List.mem_flatten.1 hq
  obtain ⟨x,hx,rfl⟩:=J4.1 hd;rw [H8] at hx;obtain ⟨i,hi,rfl⟩:=R3 hx;rw [<- E6 hi] at hq;exact DK (ok.ag i hi) hq
def ZY {v:Vw}{L R:List C7}(ok:Jd v L R){q:C7}(hq:q∈Jq v L R):q∈L++R:=by
 unfold Jq at hq;simp only [D7] at hq
 rcases hq with (((hq|hq)|hq)|hq)|hq
 .exact DK ok.wh hq
 .rw [q8] at hq
  rw [hq];exact K8 _ (N8 ok.l0)
 .split at hq
  next h=>
   rw [q8] at hq;have:=C4 h;rw [hq];exact List.mem_append_right _ (N8 V)
  .cases hq
 .unfold onP at hq
  obtain ⟨p,hp,hq⟩:=List.mem_flatMap.1 hq;rw [H8] at hp;obtain ⟨i,hi,rfl⟩:=R3 hp;have h:=ok.on i hi;rw [E6 hi] at h;simp only [B6,List.not_mem_nil,or_false] at hq
  rcases hq with hq|hq<;>rw [hq]
  .exact K8 _ (N8 V)
  .exact List.mem_append_right _ (N8 V)
 .split at hq
  .exact MF ok hq
  .cases hq
def WU {s:Int}{v:Vw}{L R:List C7}(ok:Jd v L R){f:A3}(h:f∈mF s v L R):f.src∈L++R/\f.dst.1=s:=by
 unfold mF at h;split at h
 next h2=>
  exact MJ (ok.un h2) (l6 _) h
 .obtain ⟨h1,h2⟩:=MH (l6 _) h
  exact ⟨h1.elim (ZZ ok) (ZY ok),h2⟩
theorem MK {c:s5}{L R:Nat->List C7}{f:A3}:∀{k},f∈xD c L R k↔∃i,i<k/\f∈mF ((O c.k9:Int)+(i:Int)) (Y c.views i) (L i) (R i)
 |0=>by simp [xD]
 |k+1=>by
  rw [xD,D7,MK (k:=k)];constructor
  .rintro (⟨i,hi,h⟩|h)
   .exact ⟨i,V,h⟩
   .exact ⟨k,V,h⟩
  .rintro ⟨i,hi,h⟩
   rcases A5 i k with h1|h1
   .exact .inl ⟨i,h1,h⟩
   .obtain rfl:i=k:=V
    exact .inr h
theorem wP {s:Int}{p:C7}:∀{n},p∈ue s n->p.1=s/\0<=p.2/\p.2<n
 |0,h=>by simp [ue] at h
 |n+1,h=>by
  rw [ue,D7] at h
  rcases h with h|h
  .obtain ⟨a,b,d⟩:=wP h
   exact ⟨a,b,V⟩
  .rw [q8] at h
   rw [h];exact ⟨rfl,U,D⟩
def az6 {l m:List C7}(hl:l.Pairwise λa b=>BB a b=W)(hm:m.Pairwise λa b=>BB a b=W)(h:∀p,p∈l↔p∈m):l=m:=by
 have nd:∀{l:List C7},l.Pairwise (λa b=>BB a b=W)->l.Nodup:=λh=>h.imp λ{a b} h e=>by simp_all [kg]
 refine ((List.perm_ext_iff_of_nodup (nd hl) (nd hm)).2 h).eq_of_pairwise (le:=λa b=>BB a b=W) (λa b _ _ h1 h2=>?_) hl hm
 grind [kg]
def aF8 {l:List C7}(h:l.Pairwise λa b=>BB a b=W):aj (l.map (·.1))=zz l:=by
 obtain ⟨h1,h2⟩:=Sc (l.map (·.1)) [] List.Pairwise.nil
 grind [zz,gv,List.foldl_map,Sj,Lo,kg,nV]
theorem ae0 (s:Int):∀n,(ue s n).Pairwise λa b=>BB a b=W
 |0=>by simp [ue]
 |n+1=>by
  rw [ue,List.pairwise_append];refine ⟨ae0 s n,U,λa ha b hb=>?_⟩;have:=wP ha;simp_all [kg]
theorem DI {c:s5}{p:C7}:∀{k},p∈mM c k->0<=p.1/\p.1<k
 |0,h=>by simp [mM] at h
 |k+1,h=>by
  rw [mM,D7] at h
  rcases h with h|h
  .have:=DI h;omega
  .have:=wP h;omega
theorem Sf (c:s5):∀k,(mM c k).Pairwise λa b=>BB a b=W
 |0=>by simp [mM]
 |k+1=>by
  rw [mM,List.pairwise_append];refine ⟨Sf c k,ae0 _ _,λa ha b hb=>?_⟩;have h1:=DI ha;have h2:=wP hb
  grind [kg]
def PlT (c:s5)(p:C7):Prop:=0<=p.1/\0<=p.2/\p.2<O (P4 c p.1.toNat)
theorem Lk {c:s5}{p:C7}(h:PlT c p):∀{k:Nat},p.1<k->p∈mM c k
 |0,hk=>by have:=h.1;omega
 |k+1,hk=>by
  rw [mM,D7]
  by_cases h3:p.1<k
  .exact .inl (Lk h h3)
  .obtain ⟨a,b,d⟩:=h
   have e:p.1=(k:Int):=V
   rw [e,J9] at d;exact .inr (BX.2 ⟨p.2.toNat,V,Prod.ext e V⟩)
theorem ZC {c:s5}{p:C7}(hv:F0 c=W)(hp:aD (Y1 c) p=W):PlT c p:=by
 cases h:Y2 c p.1 with
 |false=>simp_all [ZD]
 |true =>
  rw [ZE h,c7] at hp;exact ⟨(wL h).2.2.1,qo hp.1,C4 hp.2⟩
def Tv {c:s5}{s:Int}{p:C7}(hs:0<=s)(h:p∈ue s (O (P4 c s.toNat))):PlT c p:=by
 obtain ⟨h1,h2,h3⟩:=wP h;exact ⟨V,h2,M⟩
theorem NR {c:s5}{f:A3}:∀{k},k<=O c.k9->f∈kr c k->PlT c f.src
 |0,_,h=>by simp [kr] at h
 |k+1,hk,h=>by
  rw [kr,D7] at h
  rcases h with h|h
  .exact NR V h
  .split at h
   .obtain ⟨x,hx,h⟩:=List.mem_flatMap.1 h
    have e:f.src=((k:Int),x):=by
     generalize (O (Y c.k9 k).s6)=n at h
     induction n with
     |zero=>simp [mX] at h
     |succ n ih =>
      rw [mX,D7] at h
      rcases h with h|h
      .exact ih h
      .split at h
       .exact q8.1 (wO h).1
       .cases h
    have h2:=Eb hx;have e2:O (P4 c k)=O (Y c.k9 k).s6:=by grind [P4,jt]
    rw [e];exact ⟨U,h2.1,M⟩
   .cases h
theorem YM {c:s5}(hv:F0 c=W){f:A3}(h:f∈dc c):PlT c f.src:=by
 have h:=CX h
 rcases D7.1 h with h|h
 .exact NR (l6 _) h
 .obtain ⟨i,hi,h⟩:=MK.1 h
  obtain ⟨ok,⟨_,l2,l3⟩,hr,_,_⟩:=Ib hv hi;obtain ⟨h1,h2⟩:=WU ok h
  rcases D7.1 h1 with h1|h1
  .exact Tv V h1
  .unfold pU at h1
   split at h1
   .cases h1
   .have:=hr M
    exact Tv V h1
theorem af4 {fs:List A3}{q p:C7}(h:tJ fs [q] p):q=p\/∃f∈fs,f.src=q:=by
 induction h with
 |base h=>simp_all
 |step hf _ ih =>
  grind
def ah0 (fs:List A3):br W fs=av8 fs:=by
 unfold br av8;simp
def bd6 {c:s5}(hv:F0 c=W){p:C7}(hp:aD (Y1 c) p=W):Kx (dc c) (O c.k9) p=vF (dc c) p (mM c (O c.k9)):=by
 have hA:((sortP (og (jq (dc c)) [p])).filter λq=>F6 q.1 (O c.k9))=(mM c (O c.k9)).filter λq=>pG (qB (dc c) [q]) p:=by
  refine az6 ((Er (Ef _ _)).filter _) ((Sf c _).filter _) λq=>?_
  rw [List.mem_filter,List.mem_filter,nW,DL,Nq,Ds,MI];constructor
  .rintro ⟨h1,h2⟩
   refine ⟨Lk ?_ (C4 h2),h1⟩
   grind [af4,ZC,YM]
  .rintro ⟨h1,h2⟩
   exact ⟨h2,by rw [s9];exact decide_eq_true (DI h1).2⟩
 unfold Kx jr vF;rw [hA];refine List.map_congr_left λq hq=>?_
 have e:decide (q∈og (jq (av8 (dc c))) [p])=pG (qB (br W (dc c)) [q]) p:=by
  rw [Bool.eq_iff_iff,decide_eq_true_iff,DL,Nq,Ds,MI,ah0]
 rw [e]
attribute [local irreducible] Rx Ry Rn Ex Pf
def bq6 (c:s5)(hs:G4 c)(p:C7)(h:F0 c=F\/aD (Y1 c) p=F):Pf A 21 [cat c,vA p] (.own 5 0 []):=by
 have p1:=Xb c hs;refine Pf.go 11 ?_;unfold vA;refine gr ?_;cases hv:F0 c with
 |false =>
  rw [hv] at p1;refine tc (W) p1 (λh1=>?_) (λh1=>?_)
  .refine gr ?_
   exact ⟨_,rfl,rfl⟩
  .cases h1
 |true =>
  rw [hv] at p1;have p57:=aB8 c hs hv;have Dv:O (Y1 c)<=20:=by unfold Y1;rw [gO];have:=cK hv;have:s5.ns c=O c.k9+O c.views:=rfl;omega
  have WZ:=aB7 (Y1 c) p V;rw [h.resolve_left (by rw [hv];simp)] at WZ;obtain ⟨w,hwe⟩:∃w,Y1 c=w:=⟨_,rfl⟩;rw [hwe] at p57 WZ;refine tc (W) (And.intro p1 (And.intro p57 WZ)) (λh1=>?_) (λh1=>?_)
  .refine gr ?_
   exact ⟨_,rfl,rfl⟩
  .cases h1
def bq7 (c:s5)(hs:G4 c)(hv:F0 c=F)(l:List C7):Pf A 23 [cat c,.d (J1 l)] (.own 2 0 []):=by
 have p1:=Xb c hs;rw [hv] at p1;refine Pf.gr 8 ?_;refine tc (W) p1 (λh1=>?_) (λh1=>?_)
 .refine gr ?_
  exact ⟨_,rfl,rfl⟩
 .cases h1
def bC2 (c:s5)(hs:G4 c)(p:C7):∃(l:List A3) (w1 w2:c8),XP w1 l/\XP w2 l/\Pf A 21 [cat c,vA p] w1/\Pf A 77 [cat c,vA p] w2/\Pf A 16 [.d (ak l),.d (ak l)] (.d (.bool W)):=by
 by_cases h:F0 c=W/\aD (Y1 c) p=W
 .obtain ⟨hv,hp⟩:=h
  obtain ⟨ht,hw⟩:=cK hv;have h2:=ca7 c hs hv ht hw p hp;rw [<- bd6 hv hp] at h2;have h3:=ai3 (dc c) (O c.k9) p;have h4:=iB hv ht hw;exact ⟨_,_,_,.inl rfl,.inl rfl,bq4 c p hs hv ht hw hp,h2,bq2 _ V⟩
 .have h:F0 c=F\/aD (Y1 c) p=F:=by
   cases h1:F0 c<;>cases h2:aD (Y1 c) p<;>simp_all
  exact ⟨[],_,_,.inr rfl,.inr rfl,bq6 c hs p h,br1 c hs p h,bq2 [] U⟩
def tN (c:s5)(l:List C7):List C7:=if F0 c then qB (dc c) (l.filter (aD (Y1 c))) else []
def Ed (c:s5)(l:List C7)(hl:O l<=50):O (tN c l)<=100050:=by
 unfold tN;split
 next hv=>
  obtain ⟨ht,hw⟩:=cK hv;have h1:=oh (dc c) (l.filter (aD (Y1 c)));have h2:=List.length_filter_le (aD (Y1 c)) l;have h4:=iB hv ht hw;rw [qB,Y4];omega
 .simp
def aC5 (c:s5)(l:List C7):(tN c l).Pairwise λa b=>BB a b=W:=by
 unfold tN;split
 .exact Er (Ef _ _)
 .exact .nil
def aN6 (c:s5)(hs:G4 c)(l:List C7)(hl:O l<=50):Pf A 23 [cat c,.d (J1 l)] (D9 2 S7 (tN c l)):=by
 unfold tN;cases hv:F0 c with
 |true=>exact ca2 c hs hv (cK hv).1 (cK hv).2 l V
 |false=>exact bq7 c hs hv l
def bA0 (c:s5)(hs:G4 c)(l:List C7)(hl:O l<=50):∃w,IsP w (tN c l)/\Pf A 78 [cat c,.d (J1 l)] w:=by
 unfold tN;cases hv:F0 c with
 |true=>exact ⟨_,.inl rfl,br2 c hs hv (cK hv).1 (cK hv).2 l hl⟩
 |false=>exact ⟨_,.inr rfl,aL9 c hs hv l⟩
def br3 (c:s5)(l:List C7)(p78:Pf A 78 [cat c,.d (J1 l)] (.own 2 0 [])):Pf A 81 [cat c,.d (J1 l)] (.d (ints [])):=by
 refine Pf.go 5 ?_;refine gc p78 ?_;refine Ex.aY (λk T H=>∃(w0 w1 w2 w3:c8),T=[w0,w1,w2,w3,.own 1 0 [],.own 2 0 [],.d (Z 0)]/\H=[.cells (c.enc.map .d)]) ?_ (k:=0) ⟨_,_,_,_,rfl,rfl⟩;rintro k _ _ ⟨w0,w1,w2,w3,rfl,rfl⟩;refine Ex.nT ?_;refine Ex.seq ?_;refine tB (F) ?_ (λh2=>?_) (λh2=>?_)
 .repeat' (first|refine gx ?_|refine fq (λhw=>?_) λhw=>?_|refine ⟨rfl,rfl,_,rfl,?_⟩|refine ⟨rfl,rfl⟩|fail)
  all_goals first|(simp [*,j3,s9];done)|(simp_all [j3,s9];done)|(simp_all [j3,s9,s9,s8,o8,D2];done)|(simp_all [j3,s9,s9,s8,o8,D2]<;>omega)
 .cases h2
 .refine gr ?_
  exact ⟨_,rfl,rfl⟩
def bA1 (c:s5)(hs:G4 c)(l:List C7)(hl:O l<=50):Pf A 81 [cat c,.d (J1 l)] (.d (ints (zz (tN c l)))):=by
 have hn:=Ed c l hl;unfold tN at hn ⊢;cases hv:F0 c with
 |true =>
  rw [hv] at hn;exact ca9 c l _ (by simpa using C9 hn V) (br2 c hs hv (cK hv).1 (cK hv).2 l hl)
 |false=>exact br3 c l (aL9 c hs hv l)
set_option maxHeartbeats 16000000 in
def aY4 (c:s5)(hs:G4 c)(l:List C7)(hl:O l<=50)(w80:c8)(h80:IsL w80 (zz (tN c l)))(p80:Pf A 80 [cat c,.d (J1 l)] w80):Pf A 31 [cat c,.d (J1 l)] (.d (.bool W)):=by
 have p23:=aN6 c hs l hl;obtain ⟨w78,h78,p78⟩:=bA0 c hs l hl;have p81:=bA1 c hs l hl;have hn:=Ed c l hl;have s25:=ca3 (tN c l) V;have s79:=ca8 (zz (tN c l)) (by have:=NP (tN c l);omega);refine Pf.gr 3 ?_;refine Ex.T9 (λk T H=>∃(i:Nat),T=[.any,.d (J1 l),.ptr 0 0,.any,.d (Z i)]/\H=[.cells (c.enc.map .d)]/\i+k=O l) ?_ (k:=O l) ⟨0,rfl,rfl,U⟩;rintro k _ _ ⟨i,rfl,rfl,hk⟩;refine Ex.seq ?_;refine tb (F6 i (O l)) (λh2=>?_) (λh2=>?_)
 .have h3:=C4 h2
  obtain ⟨fl,w1,w2,i1,i2,p21,p77,p16⟩:=bC2 c hs (Y l i);refine gr ?_
  rcases i1 with rfl|rfl<;>rcases i2 with rfl|rfl
  all_goals
   refine tB F ?_ (λh4=>?_) (λh4=>?_)
   .repeat' (first|refine Bv p21 ?_|refine cl p77 ?_|refine cl p16 ?_|refine gx ?_|refine fk (h1:=λhw=>?_) (h2:=λhw=>?_)|refine ⟨rfl,rfl,_,rfl,?_⟩|refine ⟨rfl,rfl⟩|fail)
    all_goals simp_all [j3]
   .cases h4
   .refine gr ?_
    exact kk ⟨i+1,rfl,rfl,V⟩
 .have h3:=B5 h2
  rcases h78 with rfl|rfl<;>rcases h80 with rfl|rfl
  all_goals
   repeat' (first|refine Bv p23 ?_|refine cl p78 ?_|refine Bv p80 ?_|refine cl p81 ?_|refine cl s25 ?_|refine cl s79 ?_|refine gx ?_|refine fk (h1:=λhw=>?_) (h2:=λhw=>?_)|fail)
   all_goals first|exact ⟨_,rfl,rfl⟩|(cases hw;done)
end Go.Proofs.YtibjocmpkoepoaaGreat
namespace Go.Proofs.YtibjocmpkoepoaaGreat
open Go.A1 Go.A1.S
section
variable {A:A1.Prog} {l:I7} {b:Nat} {dr:Bool} {l5 ops:List p7} {T:List c8} {H:q6} {n:Nat} {rl:List c8} {o9:List A1.Touch} {Q:List c8->q6->List c8->Prop}
def bR3 {f:FuncId}{xs:List y7}{u:List Nat}{z n0:Nat}{cs:List A1.Data}{args:List c8}{s:Nat}{T2:List c8}(hc:Pf A f args (.own z n0 cs))(h2:Ry A l b dr l5 ops T2 H (n+1) (.d (.slice n0 cs)::rl) (.slot s:: .below 0::o9) Q)(ha:xs.map (rq T n rl)=args:=by rfl)(hb:C5 args=0:=by rfl)(jG:A.prom f=F:=by rfl)(hm:A.mode f=0:=by rfl)
  (pH:(⟨l.XU,l.XT,0,E9 H l.strict 0⟩:I7)=W8:=by rfl) (hs:T[s]?.isSome=W:=by rfl) (hT:T.set s (.own z n0 cs)=T2:=by simp only [s4,r9]<;>rfl):Ry A l b dr l5 (⟨.call f xs,J s,K,u⟩::ops) T H n rl o9 Q:=λhn=>by
 obtain ⟨i5,hc⟩:=hc;have hs:s<O T:=by
  rcases A5 s (O T) with h|h
  .exact h
  .rw [List.getElem?_eq_none h] at hs;cases hs
 have h2:=h2.to hn;rw [<- hT] at h2;have h3:∀k,i5<=k->D5 (M0 A k l b) (O rl.reverse) f args ⟨T,H,rl.reverse++ .any::c9 (O ops) .any,o9⟩=J (put ⟨T,[]++H.drop 0,rl.reverse++ .any::c9 (O ops) .any,.below 0::o9⟩ (O rl.reverse) (.own z n0 cs)):=λk hk =>
  ny (m:=0) (l2:=W8) jG hm (by rw [hb];show G6 H l.strict 8 0=0;simp [G6]) (O0 _) (by show P0 ((H.take 0).drop l.strict)<=0;simp [P0]) pH (by rw [List.take_zero];exact hc k hk) rfl
 refine Rx.step (N1:=i5) (rs:=[]) rfl rfl (λk hk=>?_) (λrs=>?_) h2
 .have h5:A1.E7 ⟨T,H,rl.reverse++ .own z n0 cs::c9 (O ops) .any,.below 0::o9⟩ (.loc (O rl.reverse))=(.own z n0 cs,⟨T,H,rl.reverse++ .d (.slice n0 cs)::c9 (O ops) .any,.below 0::o9⟩):=by
   simp only [A1.E7,y3 (l6 _),Nat.sub_self,List.getElem?_cons_zero,L6]
  simp only [z6,y8,E1,x9.D6,if_true,F9,gJ hn,ha,h3 k hk,u9,F2,put,L6,List.drop_zero,B3,hs,h5]
 .have:O o9+1+1 - O o9=2:=V
  simp [J2,this,Touch.L5]
end
attribute [local irreducible] Rx Ry Rn Ex Pf
def bl1 {T:List c8}{H:q6}{ds zs:List Int}(hT:T[3]? =J (.B8 1 1 0 (O ds)))(hH:H[1]? =J (.cells ((ds++zs).map iv)))(hl:O ds<=900000):ep a80 0 (J (.ret,⟨T,H⟩))=J (.d (ints ds),[]):=by
 have h1:rd H 1 0 (O ds * 1)=J (ds.map iv):=by
  simp only [rd,hH];rw [if_pos U];simp
 have h2:=QA H 0 ds 999999 V;have h3:=Dn ds;have h4:bz T H a80.results=J [.B8 1 1 0 (O ds)]:=by
  show bz T H [.slot 3]=_
  simp only [bz,kZ,hT]
 unfold ep;simp only [h4];show finish F 0 [.B8 1 1 0 (O ds)] H=_
 simp only [finish,j4,if_false,j3,cV,Nat.not_lt_zero,h1,h2,Qq];simp [c8.L7,ints,C6,h3]
def cf9 (o:y6)(st:Nat)(xs:List Int)(h:O xs<=1000000):Pm A 134 [.B8 1 1 0 (O xs)] [o,.cells (xs.map iv)] ⟨0,0,2,st⟩ (.B8 1 1 0 (O (aj xs))) [o,.cells ((aj xs++c9 (O xs - O (aj xs)) 0).map iv)]:=Pm.cM rfl (Au rfl rfl rfl (Nat.ble_eq_true_of_le h))
def aA9 {o:y6}(ho:o.L7<=2)(xs:List Int):∀st,P0 (([o,.cells (xs.map iv)].take 2).drop st)<=2
 |0=>by
  have h:(y6.cells (xs.map iv)).L7=0:=by simp [y6.L7,CC]
  simp [P0,h];omega
 |1=>by simp [P0,y6.L7,CC]
 |st+2=>by simp [P0]
set_option maxHeartbeats 4000000 in
def aY6 (c:s5)(hs:G4 c)(l:List C7)(hl:O l<=50):∃w,IsL w (zz (tN c l))/\Pf A 80 [cat c,.d (J1 l)] w:=by
 have hn:=Ed c l hl;have hq:=aF8 (aC5 c l);obtain ⟨R,hR⟩:∃R,tN c l=R:=⟨_,rfl⟩;have p23:=aN6 c hs l hl;rw [hR] at hn hq p23 ⊢;rw [<- hq];refine ⟨_,.inl rfl,?_⟩;refine Pf.go 7 ?_
 repeat' (first|refine bR3 p23 ?_|refine gx ?_|fail)
 refine Ex.au (λk T H=>∃i:Nat,T=[.any,.any,.any,.any,D9 1 (λn=>[Z n]) ((R.take i).map (·.1)),.any,D9 2 S7 R,.d (Z (O R)),.d (Z i)]/\H=[.cells (c.enc.map .d)]/\i+k=O R) ?_ (k:=O R) ⟨0,rfl,rfl,U⟩;rintro k _ _ ⟨i,rfl,rfl,hk⟩;refine Ex.seq ?_;refine tb (F6 i (O R)) (λh2=>?_) (λh2=>?_)
 .have h3:=C4 h2
  refine gr ?_;exact kk ⟨_,_,O3 (j9 rfl) (j9 rfl),i+1,by rw [E2 V,List.map_append];rfl,rfl,V⟩
 .have h3:=B5 h2
  obtain rfl:i=O R:=V
  rw [H8];have e1:∀xs:List Int,(xs.flatMap λn=>[Z n]).map c8.d=xs.map iv:=λxs=>by rw [Dn,List.map_map];rfl
  obtain ⟨xs,hxs⟩:∃xs,R.map (·.1)=xs:=⟨_,rfl⟩;have hxl:O xs<=900000:=by rw [<- hxs];simp;omega
  rw [hxs] at hq ⊢;cases xs with
  |nil =>
   refine gr ?_;refine Ex.fz (LX rfl) ?_
   repeat' (first|refine c0 (bz3 _) rfl (h2:=?_)|refine gx ?_|fail)
   refine ⟨_,rfl,?_⟩;simp [aj,ints,C6,j3]
  |cons a r =>
   refine gr ?_;refine Ex.fz (JG rfl U rfl rfl (wE (λ_=>rfl) _)) ?_;have pC:=cf9 (y6.cells (c.enc.map .d)).forget (E9 [(y6.cells (c.enc.map .d)).forget,.cells ((a::r).map iv)] 0 2) (a::r) V;have hdl:=qO (a::r);have qm:=aA9 (o:=(y6.cells (c.enc.map .d)).forget) (by simp only [y6.forget,y6.L7,Qz];omega) (a::r);simp only [e1];show Ex A W8 0 _ ⟨[.any,.any,.any,.any,.B8 1 1 0 (O (a::r)),.any,_,_,_],[(y6.cells (c.enc.map .d)).forget,.cells ((a::r).map iv)]⟩ _
   repeat' (first|refine c0 (qm:=qm 0) (hcl:=fG (qm 0)) pC rfl (h2:=?_)|refine gx ?_|fail)
   refine ⟨_,bl1 rfl rfl V,?_⟩;rfl
end Go.Proofs.YtibjocmpkoepoaaGreat


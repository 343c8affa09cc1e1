import Derived.Test.YtibjocmpkoepoaaGreatUN4
set_option linter.all false
open Bool renaming and_eq_true → c7
open List renaming drop_of_length_le → l5, length_map → B0
open Nat renaming le_of_ble_eq_true → j5, le_trans → B6, zero_le → I7
namespace Go.Proofs.YtibjocmpkoepoaaGreat
open Go.x9 Go.x9.S
attribute [local irreducible] Rx Ry Rn Ex Pf
theorem aI7:Pf A 58 [.d (.slice 0 []),.func 60 [] []] (.d (.slice 0 [])):=Pf.NY (n:=50) (by kernel_rfl)
set_option maxHeartbeats 16000000 in
def aE5 (c:y5)(p:G8)(hs:O4 c)(hv:K1 c=true)(ht:c.k9.length<=8)(hw:c.views.length<=8)(hp:jm (gW c) p=true)(hne:cH c=[]):Pf A 21 [cat c,yx p] (.d (sQ (vK [] c.k9.length p))):=by
 have UE:=UH c hs;rw [hv] at UE;have p57:=ap2 c hs hv;have Ob:=Ob c hs hv ht hw;have Ia:(gW c).length<=16:=by unfold gW;rw [jb];have:y5.ns c=c.k9.length+c.views.length:=rfl;omega
 obtain ⟨w,hwe⟩:∃ w,gW c=w:=⟨_,rfl⟩;have YQ:=ap0 (gW c) p (by omega);rw [hp] at YQ;rw [hwe] at p57 Ia YQ;rw [hne] at Ob;refine Pf.run [cat c,yx p,.any,.any,.any,.any,.any,.any,.any,.any,.any,.any,.any] rfl rfl rfl rfl ?_;refine gr ?_;refine tB (!(true&&true)) ?_ (fun h1=> ?_) (fun h1=> ?_)
 .repeat' (first|refine cl (UE) ?_|refine sG p57 ?_|refine sG YQ ?_|refine gx ?_|refine fk (h1:=fun hw=> ?_) (h2:=fun hw=> ?_)|refine R8 (h1:=fun hw=> ?_) (h2:=fun hw=> ?_)|refine ⟨rfl,rfl,_,rfl,?_⟩|refine ⟨rfl,rfl⟩|fail)
  all_goals exact cc
 .cases h1
 repeat' (first|refine sG Ob ?_|refine gx ?_|fail)
 have b0:(u0.cells (c.enc.map .d)).K5<=3:=by rw [yb];omega
 have b1:(u0.cells [.d (num p.1),.d (num p.2)]).K5<=3:=by simp [u0.K5,A4,c8.K5]
 repeat' (first|refine Ex.region (Rn.YN 2 [.cells (c.enc.map .d),.cells [.d (num p.1),.d (num p.2)]] [] (h:= ?_))|refine cp (aE6 _ _) (by simp) ?_|refine sG aI7 ?_|refine gx ?_|fail)
 have hb0:L8 [.cells (c.enc.map .d),.cells [.d (num p.1),.d (num p.2)]]=0:=by
  have b3:A4 (c.enc.map .d)=0:=cV _;simp [L8,b3,u0.K5,A4,c8.K5]
 refine vm ?_;refine vc (m:=0) (oz (H:=[]) (l:=S8) (ds:=[]) (v:= .d (.slice 0 [])) rfl (by simp)) rfl ?_;refine vp (rs:=[1]) (yx p) (by rfl) (h2:= ?_);refine vp (rs:=[]) (C4 2 W4 [p]) (by rfl) (h2:= ?_);refine vcp (Ue (H0:=[.cells (c.enc.map .d),.cells [.d (num p.1),.d (num p.2)]]) (.inr (.inl ⟨_,_,rfl⟩)) hb0 (gV []) [p] (by simp [gV]) (by simp)) (by simp) ?_;refine vmT (v:= .map 2) ?_ ⟨rfl,fun _ _ _ h=>by cases h⟩;refine vn ?_;obtain ⟨S1,hS1⟩:∃ S1,ov (gV []) [p]=S1:=⟨_,rfl⟩;rw [hS1];obtain ⟨S2,hS2⟩:∃ S2,ov (gV []) [p]=S2:=⟨_,rfl⟩
 repeat' (first|refine Ex.region (Rn.YN 3 [.cells (c.enc.map .d),.cells [.d (num p.1),.d (num p.2)],.map (Z9 S1),.dead] [.slot 12] (h:= ?_))|refine gx ?_|fail)
 refine vm ?_;refine vc (m:=0) (oz (H:=[]) (l:=S8) (ds:=[]) (v:= .d (sQ [])) (aL1 [] []) (by simp)) rfl ?_;refine vp (rs:=[1]) (yx p) (by rfl) (h2:= ?_);refine vp (rs:=[]) (C4 2 W4 [p]) (by rfl) (h2:= ?_);have Fq:L8 [.cells (c.enc.map .d),.cells [.d (num p.1),.d (num p.2)],.map (Z9 S1),.dead]=0:=by
  have b3:A4 (c.enc.map .d)=0:=cV _;have b4:=ta S1;simp only [L8,b4];simp [b3,u0.K5,A4,c8.K5]
 have Rj:=Ue (H0:=[.cells (c.enc.map .d),.cells [.d (num p.1),.d (num p.2)],.map (Z9 S1),.dead]) (.inr (.inr (.inr (.inl ⟨_,_,_,_,rfl⟩)))) Fq (gV []) [p] (by simp [gV]) (by simp);rw [hS2] at Rj;refine vcp Rj (by simp) ?_;have hn2:S2.length<=1000000:=by
  have:=ox (gV []) [p];rw [hS2] at this;simp [gV] at this;omega
 have p63:=fun q=>am6 [.cells (c.enc.map .d),.cells [.d (num p.1),.d (num p.2)],.map (Z9 S1),.dead] S2 hn2 q
 have Yh:L8 ([.cells (c.enc.map .d),.cells [.d (num p.1),.d (num p.2)],.map (Z9 S1),.dead]++[.map (Z9 S2)])<=5:=by rw [yV,Fq];omega
 refine vcT (m:=5) (p63 _) rfl ?_ (pN:=Yh) (hcl:=bS (k:=7) Yh);refine vpT (rs:=[]) (.d (num (sortP S2).length)) (by rfl) (h2:= ?_) (hv:=⟨rfl,fun _ _ _ h=>by cases h⟩);refine vk ?_;refine vn ?_;obtain ⟨qs,hqs⟩:∃ qs,sortP S2=qs:=⟨_,rfl⟩;have hql:qs.length<=1000000:=by rw [<- hqs,ij];exact hn2
 have eF:vK [] c.k9.length p=gp c.k9.length p S1 qs:=by rw [<- hqs,<- hS2,<- hS1];rfl
 rw [eF];rw [hqs];refine gr ?_;refine Ex.T7 (fun k T H=>∃ i:Nat,T=[.any,.any,.ptr 0 0,.ptr 1 0,.any,.any,.any,.map 2,C4 5 C5.enc (gp c.k9.length p S1 (qs.take i)),.any,C4 2 W4 qs,.d (num qs.length),.d (num i)]/\H=[.cells (c.enc.map .d),.cells [.d (num p.1),.d (num p.2)],.map (Z9 S1),.dead,.map (Z9 S2)]/\i+k=qs.length) ?_ (k:=qs.length) ⟨0,rfl,rfl,by simp⟩;rintro k _ _ ⟨i,rfl,rfl,hk⟩;refine Ex.seq ?_;refine tb (F0 i qs.length) (fun h2=> ?_) (fun h2=> ?_)
 .have h3:=A9 h2
  have e1:gp c.k9.length p S1 (qs.take (i+1))=gp c.k9.length p S1 (qs.take i)++(if F0 (nth qs i).1 c.k9.length then [⟨nth qs i,p,decide (nth qs i ∈ S1)⟩] else []):=by
   rw [J3 (by omega)];simp only [gp,List.filter_append,List.map_append]
   congr 1
   simp only [List.filter_cons,List.filter_nil];split<;>simp_all
  obtain ⟨r,hr⟩:∃ r,nth qs i=r:=⟨_,rfl⟩;obtain ⟨acc,hacc⟩:∃ acc,gp c.k9.length p S1 (qs.take i)=acc:=⟨_,rfl⟩;have zW:acc.length<=1000000:=by
   rw [<- hacc];simp only [gp,B0];refine B6 (List.length_filter_le _ _) ?_;simp;omega
  rw [hacc,hr] at e1;refine gr ?_;rw [hacc,hr];refine tb (F0 r.1 c.k9.length) (fun h4=> ?_) (fun h4=> ?_)
  .repeat' (first|refine lk1 (pQ r S1) (Af r S1) ?_|refine rV (cs:=(C5.enc ⟨r,p,decide (r ∈ S1)⟩).map .d) ?_|refine oN (enc:=C5.enc) (⟨r,p,decide (r ∈ S1)⟩:C5) ?_|refine ZY (ys:=[(⟨r,p,decide (r ∈ S1)⟩:C5)]) (h2:= ?_)|refine gx ?_|fail)
   exact ⟨k - 1,by omega,_,_,L5 (j5 rfl) Yh,i+1,by rw [e1,h4];rfl,rfl,by omega⟩
  .refine gr ?_
   exact ⟨k - 1,by omega,_,_,L5 (j5 rfl) Yh,i+1,by rw [e1,h4];simp;rfl,rfl,by omega⟩
 .have h3:=B8 h2
  obtain rfl:i=qs.length:=by omega
  rw [List.take_length];refine gr ?_;exact ⟨_,rfl,rfl⟩
def aE4 (c:y5)(p:G8)(hs:O4 c)(hv:K1 c=true)(ht:c.k9.length<=8)(hw:c.views.length<=8)(hp:jm (gW c) p=true):Pf A 21 [cat c,yx p] (.d (sQ (vK (cH c) c.k9.length p))):=by
 rcases Nat.eq_zero_or_pos (cH c).length with h|h
 .have e:=List.length_eq_zero_iff.1 h
  rw [e];exact aE5 c p hs hv ht hw hp e
 .exact aE3 c p hs hv ht hw hp h
def ql (p q:G8):Bool:=p.1==q.1&&(p.2==q.2&&true)
def zI (p q:G8):ql p q=true↔p=q:=by
 obtain ⟨a,b⟩:=p;obtain ⟨c,d⟩:=q;simp [ql]
def Fp (l:List G8)(p:G8):Bool:=l.any fun q=>ql q p
def Yf {l:List G8}{p:G8}(h:p ∈ l):Fp l p=true:=List.any_eq_true.2 ⟨p,h,(zI p p).2 rfl⟩
def Tx {l:List G8}{p:G8}:Fp l p=true↔p ∈ l:=⟨fun h=>by
 obtain ⟨q,hq,e⟩:=List.any_eq_true.1 h;rw [<- (zI q p).1 e];exact hq,Yf⟩
def bj6 (l:List G8)(p:G8)(hl:l.length<=9223372036854775807):Pf A 24 [.d (W5 l),yx p] (.d (.bool (Fp l p))):=by
 refine Pf.run [.d (W5 l),yx p,.any,.any,.any] rfl rfl rfl rfl ?_;unfold yx;refine gr ?_;refine Ex.M5 (fun k T H=>∃ (i:Nat) (w1 w3:c8),T=[.d (W5 l),w1,.ptr 0 0,w3,.d (num i)]/\H=[.cells [.d (num p.1),.d (num p.2)]]/\i+k=l.length/\Fp l p=Fp (l.drop i) p) (by rintro _ _ _ ⟨_,_,_,rfl,rfl,_⟩;rfl) ?_ (k:=l.length) ⟨0,_,_,rfl,rfl,by simp,by simp⟩;rintro k _ _ ⟨i,w1,w3,rfl,rfl,hk,hi⟩;refine Ex.nT ?_;refine Ex.seq ?_;refine tb (F0 i l.length) (fun h2=> ?_) (fun h2=> ?_)
 .have h3:=A9 h2
  have e:Fp (l.drop i) p=(ql (nth l i) p||Fp (l.drop (i+1)) p):=by
   rw [B9 (by omega)];rfl
  refine gr ?_;refine tB (ql (nth l i) p) ?_ (fun h4=> ?_) (fun h4=> ?_)
  .repeat' (first|refine gx ?_|refine fk (h1:=fun hw=> ?_) (h2:=fun hw=> ?_)|refine R8 (h1:=fun hw=> ?_) (h2:=fun hw=> ?_)|refine ⟨rfl,rfl,_,rfl,?_⟩|refine ⟨rfl,rfl⟩|fail)
   all_goals first|(simp [*,j7,ql];done)|(simp_all [j7,ql];done)|(simp_all [j7,ql,y3,s9,o6,H7];done)|(simp_all [j7,ql,y3,s9,o6,H7]<;>omega)
  .refine gr ?_
   exact ⟨_,rfl,by rw [hi,e,h4];rfl⟩
  .refine gr ?_
   exact ⟨k - 1,by omega,i+1,_,_,rfl,rfl,by omega,by rw [hi,e,h4];rfl⟩
 .have h3:=B8 h2
  rw [l5 (by omega)] at hi;refine gr ?_;exact ⟨_,rfl,by rw [hi];rfl⟩
def HN (l:List C5)(p:G8):Bool:=l.any fun f=>ql f.src p
def Ty {l:List C5}{p:G8}:HN l p=true↔∃ f ∈ l,f.src=p:=by
 simp [HN,zI]
def bj7 (l:List C5)(p:G8)(hl:l.length<=9223372036854775807):Pf A 26 [.d (sQ l),yx p] (.d (.bool (HN l p))):=by
 refine Pf.run [.d (sQ l),yx p,.any,.any,.any] rfl rfl rfl rfl ?_;unfold yx;refine gr ?_;refine Ex.M5 (fun k T H=>∃ (i:Nat) (w1 w3:c8),T=[.d (sQ l),w1,.ptr 0 0,w3,.d (num i)]/\H=[.cells [.d (num p.1),.d (num p.2)]]/\i+k=l.length/\HN l p=HN (l.drop i) p) (by rintro _ _ _ ⟨_,_,_,rfl,rfl,_⟩;rfl) ?_ (k:=l.length) ⟨0,_,_,rfl,rfl,by simp,by simp⟩;rintro k _ _ ⟨i,w1,w3,rfl,rfl,hk,hi⟩;refine Ex.nT ?_;refine Ex.seq ?_;refine tb (F0 i l.length) (fun h2=> ?_) (fun h2=> ?_)
 .have h3:=A9 h2
  have e:HN (l.drop i) p=(ql (nth l i).src p||HN (l.drop (i+1)) p):=by
   rw [B9 (by omega)];rfl
  refine gr ?_;refine tB (ql (nth l i).src p) ?_ (fun h4=> ?_) (fun h4=> ?_)
  .repeat' (first|refine le (cs:=W4 (nth l i).src) (rest:=[num (nth l i).dst.1,num (nth l i).dst.2,.bool (nth l i).dat]++(l.drop (i+1)).flatMap C5.enc) ?_|refine gx ?_|refine fk (h1:=fun hw=> ?_) (h2:=fun hw=> ?_)|refine R8 (h1:=fun hw=> ?_) (h2:=fun hw=> ?_)|refine ⟨rfl,rfl,_,rfl,?_⟩|refine ⟨rfl,rfl⟩|fail)
   all_goals first|(simp [*,j7,ql,W4];done)|(simp_all [j7,ql,W4];done)|(simp_all [j7,ql,W4,y3,s9,o6,H7];done)|(simp_all [j7,ql,W4,y3,s9,o6,H7]<;>omega)
  .refine gr ?_
   exact ⟨_,rfl,by rw [hi,e,h4];rfl⟩
  .refine gr ?_
   exact ⟨k - 1,by omega,i+1,_,_,rfl,rfl,by omega,by rw [hi,e,h4];rfl⟩
 .have h3:=B8 h2
  rw [l5 (by omega)] at hi;refine gr ?_;exact ⟨_,rfl,by rw [hi];rfl⟩
end Go.Proofs.YtibjocmpkoepoaaGreat
namespace Go.Proofs.YtibjocmpkoepoaaGreat
open Go.x9 Go.x9.S Go.x9.Sh
attribute [local irreducible] Rx Ry Rn Ex Pf
def Ys {fs:List C5}{nt:Nat}{p q:G8}(hp:p.1<nt):HN (vK fs nt q) p=Fp (Ji fs [p]) q:=by
 rw [Bool.eq_iff_iff,Ty,Tx,Is,Ul];exact ⟨fun h=>h.1,fun h=>⟨h,hp⟩⟩
def SP (c:y5){s:Nat}(h:s<c.k9.length):(P4 c s).length=(nth c.k9 s).p8.length:=by
 unfold P4 gq;rw [if_pos h,B0]
section
variable [Inhabited si]
set_option maxHeartbeats 16000000 in
def lf6 {xs:List Int}(hx:xs.length<=17592186043904):Pf A 6 [.d (ints xs)] (.d (.bool true)):=by
 have _:Inhabited si:=inferInstance;obtain ⟨ca,c,q0,q,hB,p12,p14,p13,hq⟩:=ai0 hx (n:=3) (.inl rfl);have hv:=hB.val;have hs:=hB.sm;obtain ⟨t1,t3,_⟩:=hB.k9;obtain ⟨v4,_⟩:=hB.views;have hd:=lU hv (by omega) (by omega);refine Pf.run [.d (ints xs),.any,.any,.any,.any,.any,.any,.any,.any,.any,.any,.any] rfl rfl rfl rfl ?_
 repeat' (first|refine cp p12 (I7 _) ?_|refine c0 p14 rfl (h2:= ?_)|refine c0 p13 rfl (h2:= ?_)|refine gx ?_|fail)
 show Ex A S8 0 _ ⟨[.d (ints xs),.d (.bool false),.ptr 0 0,.ptr 1 0,.d (num 0),.any,.any,.any,.any,.any,.any,.any],[tp xs q,.cells (c.enc.map .d)]⟩ _
 have eV:y5.ns c=c.k9.length+c.views.length:=rfl;have hcg:=fun v (h:v<c.k9.length+c.views.length)=>bT hv (v+1) v (by omega) h
 have YP:∀ v:Nat,v<c.k9.length+c.views.length->Pf A 20 [cat c,.d (num (v:Int))] (.d (ints (P4 c v))):=fun v h=>by
  have:=UN c hs (v:Int) (by simp only [aS,hv,Bool.true_and,s9,y3,c7,decide_eq_true_eq];omega)
  rwa [Int.toNat_natCast] at this
 have p23:∀ p:G8,jm (gW c) p=true->Pf A 23 [cat c,.d (W5 [p])] (C4 2 W4 (Ji (cH c) [p])):=fun p h=>by
  have:=bj5 c hs hv (by omega) (by omega) [p] (by simp)
  rwa [List.filter_cons,if_pos h,List.filter_nil] at this
 have Sd:=fun p h=>aE4 c p hs hv (by omega) (by omega) h
 refine Ex.M5 (fun k T H=>∃ (s:Nat) (w0 w1 w2 w5 w6 w7 w8 w9 mR kW:c8),T=[w0,w1,w2,.ptr 1 0,.d (num s),w5,w6,w7,w8,w9,mR,kW]/\H=[tp xs q,.cells (c.enc.map .d)]/\s+k=c.k9.length) (by rintro _ _ _ ⟨_,_,_,_,_,_,_,_,_,_,_,rfl,rfl,_⟩;rfl) ?_ (k:=c.k9.length) ⟨0,_,_,_,_,_,_,_,_,_,_,rfl,rfl,by simp⟩;rintro k _ _ ⟨s,w0,w1,w2,w5,w6,w7,w8,w9,mR,kW,rfl,rfl,hk⟩;refine Ex.nT ?_;refine Ex.seq ?_;refine tb (F0 s c.k9.length) (fun h1=> ?_) (fun h1=> ?_)
 .have h2:=A9 h1
  have hcl:=LI c hv (i:=s) (by omega);have hct:=SP c (s:=s) (by omega);refine gr ?_;refine Ex.T7 (fun k T H=>∃ i:Nat,T=[.any,.any,.any,.ptr 1 0,.d (num s),.d (num i),.any,.any,.any,.any,.any,.any]/\H=[tp xs q,.cells (c.enc.map .d)]/\i+k=(nth c.k9 s).p8.length) ?_ (k:=(nth c.k9 s).p8.length) ⟨0,rfl,rfl,by simp⟩;rintro k2 _ _ ⟨i,rfl,rfl,hk2⟩;refine Ex.seq ?_;refine tb (F0 i (nth c.k9 s).p8.length) (fun h3=> ?_) (fun h3=> ?_)
  .have h4:=A9 h3
   have HY:jm (gW c) ((s:Int),(i:Int))=true:=Fv (by omega) (by rw [hct];omega);have p23:=p23 _ HY;have QM:=fun to=>Ys (fs:=cH c) (nt:=c.k9.length) (p:=((s:Int),(i:Int))) (q:=to) (show (s:Int)<(c.k9.length:Int) by omega)
   repeat' (first|refine rV (cs:=(W4 ((s:Int),(i:Int))).map .d) ?_|refine oN (enc:=W4) ((s:Int),(i:Int)) ?_|refine sG p23 ?_|refine gx ?_|fail)
   show Ex A S8 0 _ ⟨[.any,.any,.any,.ptr 1 0,.d (num s),.d (num i),.ptr 2 0,C4 2 W4 (Ji (cH c) [((s:Int),(i:Int))]),.d (num 0),.any,.any,.any],[tp xs q,.cells (c.enc.map .d),.cells [.d (num s),.d (num i)]]⟩ _
   obtain ⟨L,hL⟩:∃ L,Ji (cH c) [((s:Int),(i:Int))]=L:=⟨_,rfl⟩;have hLl:L.length<=200000:=by rw [<- hL,Ji,ij];have:=ox (cH c) [((s:Int),(i:Int))];simp at this;omega
   rw [hL] at QM ⊢;have bg3:L8 [tp xs q,.cells (c.enc.map .d)]<=2:=by
    have b3:A4 (c.enc.map .d)=0:=cV _;simp [L8,b3,u0.K5,A4,c8.K5,tp]
   have Ll:L8 [tp xs q,.cells (c.enc.map .d),.cells [.d (num s),.d (num i)]]=0:=by
    have b3:A4 (c.enc.map .d)=0:=cV _;simp [L8,b3,u0.K5,A4,c8.K5,tp]
   refine Ex.M5 (fun k T H=>∃ (v:Nat) (w0 w1 w2 w9 mR kW:c8),T=[w0,w1,w2,.ptr 1 0,.d (num s),.d (num i),.ptr 2 0,C4 2 W4 L,.d (num v),w9,mR,kW]/\H=[tp xs q,.cells (c.enc.map .d),.cells [.d (num s),.d (num i)]]/\v+k=c.k9.length+c.views.length) (by rintro _ _ _ ⟨_,_,_,_,_,_,_,rfl,rfl,_⟩;rfl) ?_ (k:=c.k9.length+c.views.length) ⟨0,_,_,_,_,_,_,rfl,rfl,by simp⟩;rintro k3 _ _ ⟨v,w0,w1,w2,w9,mR,kW,rfl,rfl,hk3⟩;refine Ex.nT ?_;refine Ex.seq ?_;refine tb (F0 v ((c.k9.length:Int)+(c.views.length:Int))) (fun h5=> ?_) (fun h5=> ?_)
   .have h6:=A9 h5
    have YP:=YP v (by omega);have hcg:=hcg v (by omega);have hpo:=fun j (h:j<(P4 c v).length)=>Fv (c:=c) (s:=v) (j:=j) (by omega) h
    obtain ⟨ty,yh⟩:∃ ty,P4 c v=ty:=⟨_,rfl⟩;rw [yh] at YP hcg hpo
    repeat' (first|refine cl (YP) ?_|refine gx ?_|fail)
    refine Ex.T7 (fun k T H=>∃ j:Nat,T=[.any,.any,.any,.ptr 1 0,.d (num s),.d (num i),.ptr 2 0,C4 2 W4 L,.d (num v),.d (num ty.length),.d (num j),.any]/\H=[tp xs q,.cells (c.enc.map .d),.cells [.d (num s),.d (num i)]]/\j+k=ty.length) ?_ (k:=ty.length) ⟨0,rfl,rfl,by simp⟩;rintro k4 _ _ ⟨j,rfl,rfl,hk4⟩;refine Ex.seq ?_;refine tb (F0 j ty.length) (fun h7=> ?_) (fun h7=> ?_)
    .have h8:=A9 h7
     have Sd:=Sd _ (hpo j (by omega));have p24:=bj6 L ((v:Int),(j:Int)) (by omega)
     repeat' (first|refine rV (cs:=(W4 ((v:Int),(j:Int))).map .d) ?_|refine gx ?_|fail)
     have QM:=QM ((v:Int),(j:Int));obtain ⟨b,hb⟩:∃ b,Fp L ((v:Int),(j:Int))=b:=⟨_,rfl⟩;obtain ⟨l,hl⟩:∃ l,vK (cH c) c.k9.length ((v:Int),(j:Int))=l:=⟨_,rfl⟩;rw [hb] at p24 QM;rw [hl] at Sd QM;have p26:=bj7 l ((s:Int),(i:Int)) (by rw [<- hl];have:=VC (cH c) c.k9.length ((v:Int),(j:Int));omega);rw [QM] at p26;refine tB ((b != b)) ?_ (fun h9=> ?_) (fun h9=> ?_)
     .repeat' (first|refine cl (p24) ?_|refine sG Sd ?_|refine cl (p26) ?_|refine gx ?_|refine fk (h1:=fun hw=> ?_) (h2:=fun hw=> ?_)|refine R8 (h1:=fun hw=> ?_) (h2:=fun hw=> ?_)|refine ⟨rfl,rfl,_,rfl,?_⟩|refine ⟨rfl,rfl⟩|fail)
      all_goals exact cc
     .simp at h9
     refine gr ?_;exact ⟨k4 - 1,by omega,_,_,L5 (j5 rfl) (show L8 [tp xs q,.cells (c.enc.map .d),.cells [.d (num s),.d (num i)]]<=3 by omega),j+1,rfl,rfl,by omega⟩
    .refine gr ?_
     exact ⟨k3 - 1,by omega,v+1,_,_,_,_,_,_,rfl,rfl,by omega⟩
   .refine gr ?_
    exact ⟨k2 - 1,by omega,_,_,L5 (j5 rfl) bg3,i+1,rfl,rfl,by omega⟩
  .refine gr ?_
   exact ⟨k - 1,by omega,s+1,_,_,_,_,_,_,_,_,_,_,rfl,rfl,by omega⟩
 .repeat' (first|refine cl (aI5) ?_|refine gx ?_|fail)
  exact ⟨_,rfl,rfl⟩
end
end Go.Proofs.YtibjocmpkoepoaaGreat


import Derived.Test.YtibjocmpkoepoaaGreatN1
import Derived.Test.YtibjocmpkoepoaaGreatN2
set_option linter.all false
open Bool renaming and_eq_true→c9,true→W,false→F
open Int renaming toNat_natCast→G6
open List renaming append_assoc→F5,getElem_of_mem→E0,map_cons→G7,mem_append→G4,replicate→c8,replicate_succ→M0,set_cons_succ→o7,set_cons_zero→o8,take_length→D3,length→O
open Nat renaming le_of_ble_eq_true→j5,le_refl→k9,le_trans→o5,lt_or_ge→y8,mul_le_mul_right→F8,zero_le→s8
open Option renaming some→J,none→K
namespace Go.Proofs.YtibjocmpkoepoaaGreat
open Go.z6 Go.z6.S
attribute [local irreducible] Rx Ry Rn Ex Pf Rl
def zO:x6:= .cells [.own 4 0 [],.own 9 0 [],.own 3 0 [],.own 6 0 [],.own 4 0 [],.own 3 0 [],.own 2 0 [],.own 3 0 []]
section
def fL {xs:List Int}(hx:O xs<=35184372088832){q:Nat}(hq:q<=4 * O xs)(n:Int)(hn:n<=1000000):∃(r:Int) (q' :Nat),q' <=4 * O xs/\0<=r/\(2<=n->r<n)/\(n<2->r=0)/\Pm A 22 [.ptr 1 0,.d (Z n)] [zO,tp xs q] l1 (.d (Z r)) [zO,tp xs q']:=by
 obtain ⟨_,_,⟨r,q',rfl,h1,h2,h3,h4,rfl⟩,p⟩:=Sl zO xs q n l1 hx hq hn rfl;exact ⟨r,q',h4,h1,h2,h3,p⟩
def KW {c:p7}{ts:List (List S5)}(h:kQ c ts){i:Nat}(hi:i<O ts):O (Y ts i)<=64:=(h.t i hi).1
set_option maxHeartbeats 4000000 in
def XK {xs:List Int}(hx:O xs<=35184372088832){q:Nat}(hq:q<=4 * O xs)(c:p7)(hs:D9 c)(hv:C4 c=W)(ts:List (List S5))(h:kQ c ts)(i k:Nat)(hi:i<O c.j7)(hk:k<O (Y c.j7 i).o4) :
  ∃(v:Vl) (q' :Nat),q' <=4 * O xs/\Pm A 175 [.ptr 1 0,cat c,.d (R6 ts),.agg ((Y (Y c.j7 i).o4 k).enc.map .d)] [zO,tp xs q] l1 (.agg (v.enc.map .d)) [zO,tp xs q']:=by
 have h4:=eS (S8 ((W6 hv).1 i (by have:=P6 c;unfold p7.ns at this;omega)) hi);have RO:=h4.2.2 _ (E7 hk);have hrf:=Iw hv hi hk;have hn:=h.n;generalize Y (Y c.j7 i).o4 k=x at RO hrf;have nM:1<=x.type/\x.type<=2:=by rcases RO with e|e<;>omega
 have p1:=JS c hs x.refs;obtain ⟨r,q1,hq1,r1,r2,r3,pN⟩:=fL hx hq 8 V;obtain ⟨_,qa,hqa,⟨va,rfl⟩,pa⟩:=UF (o0:=zO) hx hq1 x.type;obtain ⟨_,qb,hqb,⟨vb,rfl⟩,pb⟩:=aC1 (o0:=zO) hx hq1 x.type;have key:Pq A 175 [.ptr 1 0,cat c,.d (R6 ts),.agg (x.enc.map .d)] [zO,tp xs q] l1 λw H1=>∃(v:Vl) (q' :Nat),q' <=4 * O xs/\w= .agg (v.enc.map .d)/\H1=[zO,tp xs q']:=by
  refine Pq.go (b:=2) 4 ?_;refine gr ?_;refine Ex.test (Rn.text ?_)
  repeat' (first|refine c0 pN rfl (HD:=[.cells (c.enc.map .d),.cells (x.enc.map .d),.cells [.d (Z 0),.d (Z 0),.d (.str [])]]) (h2:=?_)|refine gx ?_|fail)
  refine ⟨_,rfl,λht=>?_,λht=>?_⟩
  .refine gr ?_
   exact ⟨_,_,rfl,⟨0,0,[]⟩,q1,hq1,rfl,rfl⟩
  refine gr ?_
  by_cases hr:K7 x.refs []=F
  .refine tc W trivial (λ_=>?_) (λh=>by cases h)
   obtain ⟨k1,k2⟩:=hrf hr;have hf:(eH c x.refs).toNat<O ts:=V
   have hl:=KW h hf;refine gc p1 ?_;refine tc (s7 (O (Y ts (eH c x.refs).toNat)) 0) trivial (λh1=>?_) (λh1=>?_)
   .refine gr ?_
    exact ⟨_,_,rfl,⟨0,0,[]⟩,q1,hq1,rfl,rfl⟩
   have h1:=iW h1;obtain ⟨j,q2,gR,j1,j2,j3,pN2⟩:=fL hx hq1 (O (Y ts (eH c x.refs).toNat)) V;have hj:j.toNat<O (Y ts (eH c x.refs).toNat):=V
   have Jx:=(h.row hv hf hj).2.1
   repeat' (first|refine c0 pN2 rfl (HD:=[.cells (c.enc.map .d),.cells (x.enc.map .d),.cells [.d (Z 0),.d (Z 0),.d (.str [])]]) (h2:=?_)|refine gx ?_|fail)
   exact ⟨_,_,rfl,Y (Y (Y ts (eH c x.refs).toNat) j.toNat).row 0,q2,gR,rfl,rfl⟩
  .have hr:K7 x.refs []=W:=by simpa using hr
   refine tc F trivial (λh=>by cases h) (λh=>?_);refine gr ?_;refine Ex.test (Rn.text ?_);refine gr ?_;refine ⟨_,rfl,λht=>?_,λht=>?_⟩
   .repeat' (first|refine c0 pa rfl (HD:=[.cells (c.enc.map .d),.cells (x.enc.map .d),.cells [.d (Z 0),.d (Z 0),.d (.str [])]]) (h2:=?_)|refine gx ?_|fail)
    exact ⟨_,_,rfl,va,qa,hqa,rfl,rfl⟩
   .repeat' (first|refine c0 pb rfl (HD:=[.cells (c.enc.map .d),.cells (x.enc.map .d),.cells [.d (Z 0),.d (Z 0),.d (.str [])]]) (h2:=?_)|refine gx ?_|fail)
    exact ⟨_,_,rfl,vb,qb,hqb,rfl,rfl⟩
 obtain ⟨_,_,⟨v,q',ON,rfl,rfl⟩,p⟩:=key;exact ⟨v,q',ON,p⟩
end
def W7 (x:eY)(r:c7):List c7:=[.d (Z x.op),.d (Z x.seq),.d (Z x.day),.d (Z x.Q0),r,.d (Z x.key.k),.d (Z x.key.n),.d (.str x.key.t),.d (Z x.col),.d (Z x.val.k),.d (Z x.val.n),.d (.str x.val.t)]
def z12:List c7:=[.d (Z 0),.d (Z 0),.d (Z 0),.d (Z 0),.own 3 0 [],.d (Z 0),.d (Z 0),.d (.str []),.d (Z 0),.d (Z 0),.d (Z 0),.d (.str [])]
def kinds:List Int:=[1,1,1,2,2,3]
def UJ {n:Nat}(h:n<=1000):roomFor n 32=W:=by
 refine decide_eq_true ?_;exact o5 (F8 _ (show 2 * n+512<=2512 by omega)) (by decide)
def MK {r:Int}(h0:0<=r)(h1:r<6):Y kinds r.toNat=1\/Y kinds r.toNat=2\/Y kinds r.toNat=3:=by
 have:r=0\/r=1\/r=2\/r=3\/r=4\/r=5:=V
 rcases this with rfl|rfl|rfl|rfl|rfl|rfl<;>(rw [A7 (by simp [kinds])];simp [kinds])
section
def BT (xs:List Int)(q:Nat)(X:k8):D7 ([zO,tp xs q]++X) 2 8 2=2:=I8 (by simp [C9])
def al0 {xs:List Int}(hx:O xs<=35184372088832){q:Nat}(hq:q<=4 * O xs)(c:p7)(hn:O c.j7<=1000)(h0:0<O c.j7)(ts:List (List S5))(seq day:Int)(w1 w7 w8 w9 kr uy:c7)(Q:H9->St->Prop)
  (gR:∀(op Q0:Int) (q' :Nat),(op=1\/op=2\/op=3)->0<=Q0->Q0<O c.j7->q' <=4 * O xs->Q .normal ⟨[.ptr 1 0,w1,.d (R6 ts),.d (Z seq),.d (Z day),.ptr 2 0,.ptr 3 0,.ptr 4 0,w8,w9,kr,uy],[zO,tp xs q',.cells (c.enc.map .d),.cells z12,.cells (W7 ⟨op,seq,day,Q0,[],⟨0,0,[]⟩,0,⟨0,0,[]⟩⟩ (.own 3 0 []))]⟩) :
  Ex A l1 2 (match VW.body with| .seq _ (.seq r _)=>r|c=>c) ⟨[.ptr 1 0,w1,.d (R6 ts),.d (Z seq),.d (Z day),.ptr 2 0,.ptr 3 0,w7,w8,w9,kr,uy],[zO,tp xs q,.cells (c.enc.map .d),.cells z12]⟩ Q:=by
 obtain ⟨r,q1,hq1,r1,r2,_,pN⟩:=fL hx hq 6 V;obtain ⟨j,q2,hqq,j1,j2,j3,pN2⟩:=fL hx hq1 (O c.j7:Int) V;have hr6:r<6:=r2 V;show Ex A l1 2 (.region _ W) _ _
 refine Ex.region (Rn.yP 4 [zO,tp xs q,.cells (c.enc.map .d),.cells z12,.dead] [.slot 7] rfl rfl rfl ?_);refine yp (rs:=[]) (.own 1 6 [Z 1,Z 1,Z 1,Z 2,Z 2,Z 3]) rfl ?_;refine ym ?_;refine yc [.cells (c.enc.map .d),.cells z12,.dead] [zO,tp xs q1,.cells (c.enc.map .d),.cells z12,.dead] pN rfl (s8 _) (BT _ _ _) rfl U rfl rfl rfl ?_;refine yp _ (QD (enc:=λn:Int=>[Z n]) (xs:=kinds) (λ_=>rfl) rfl rfl r1 hr6) ?_;refine yp _ (XU rfl) ?_;refine ym ?_;refine ym ?_;refine ym ?_;refine yp _ (rZ rfl) ?_;refine yp _ (JR (v:= .d (x3 cI.enc c.j7)) rfl rfl rfl) ?_;refine yp _ (XV rfl) ?_;refine yc [.cells (c.enc.map .d),.cells z12,.dead] [zO,tp xs q2,.cells (c.enc.map .d),.cells z12,.dead] pN2 rfl (s8 _) (BT _ _ _) rfl U rfl rfl rfl ?_;refine yp (rs:=[]) (.agg (W7 ⟨Y kinds r.toNat,seq,day,j,[],⟨0,0,[]⟩,0,⟨0,0,[]⟩⟩ (.own 3 0 []))) rfl ?_;refine yal 5 [.ptr 1 0,w1,.d (R6 ts),.d (Z seq),.d (Z day),.ptr 2 0,.ptr 3 0,.ptr 4 0,w8,w9,kr,uy] [zO,tp xs q2,.cells (c.enc.map .d),.cells z12,.cells z12] U rfl rfl rfl rfl ?_;refine ys rfl ⟨rfl,rfl⟩ rfl rfl rfl (.inl (s8 _)) rfl ?_;refine yn (gR _ _ _ (MK r1 hr6) j1 V hqq) ?_;simp [br,F3,Touch.F1,F6.makes,F6.y3]
set_option maxHeartbeats 8000000 in
def Ul {xs:List Int}(hx:O xs<=35184372088832){q:Nat}(hq:q<=4 * O xs)(c:p7)(hs:D9 c)(hv:C4 c=W)(h0:0<O c.j7)(ts:List (List S5))(h:kQ c ts)(seq day:Int) :
  ∃(x:eY) (q' :Nat),IL c x/\q' <=4 * O xs/\Pm A 120 [.ptr 1 0,cat c,.d (R6 ts),.d (Z seq),.d (Z day)] [zO,tp xs q] l1 (.agg (x.enc.map .d)) [zO,tp xs q']:=by
 have hn:=h.n;have yI:=hs.sm.dP.1;have key:Pq A 120 [.ptr 1 0,cat c,.d (R6 ts),.d (Z seq),.d (Z day)] [zO,tp xs q] l1 λw H1=>∃(x:eY) (q' :Nat),IL c x/\q' <=4 * O xs/\w= .agg (x.enc.map .d)/\H1=[zO,tp xs q']:=by
  refine Pq.go (b:=2) 7 ?_;refine Ex.seq ?_;refine gr ?_;refine al0 hx hq c yI h0 ts seq day _ _ _ _ _ _ _ (λop Q0 q1 ho t0 t1 hq1=>?_);have ht:Q0.toNat<O c.j7:=V
  have hw:=Si hv Q0.toNat ht;have hcl:=(ec hv ht).1;obtain ⟨t,hT⟩:∃t,Y c.j7 Q0.toNat=t:=⟨_,rfl⟩;refine gr ?_;rw [hT];rw [hT] at hw hcl;refine tc (s7 op 1) trivial (λh1=>?_) (λh1=>?_)
  .have RU:=W9 h1
   subst RU;refine Ex.seq ?_;refine gr ?_;refine Ex.L4 (λk T' H' =>∃(j:Nat) (q:Nat) (row:List Vl),j<=O t.o4/\k=O t.o4 - j/\O row=j/\q<=4 * O xs/\T' =[.ptr 1 0,.any,.d (R6 ts),.any,.any,.ptr 2 0,.ptr 3 0,.ptr 4 0,.d (x3 Q1.enc t.o4),.d (Z j),.any,.any]/\H' =[zO,tp xs q,.cells (c.enc.map .d),.cells z12,.cells (W7 ⟨1,seq,day,Q0,[],⟨0,0,[]⟩,0,⟨0,0,[]⟩⟩ (A8 3 Vl.enc row))]) ?_ (k:=O t.o4) ⟨0,q1,[],V,V,rfl,hq1,rfl,rfl⟩;rintro k T' H' ⟨j,q2,row,hj,rfl,hrl,gR,rfl,rfl⟩;refine Ex.seq ?_;refine tl (j:Int) (O t.o4:Int) (λh2=>?_) (λh2=>?_)
   .have hj2:j<O t.o4:=V
    obtain ⟨v,q3,kM,pv⟩:=XK hx gR c hs hv ts h Q0.toNat j ht (by rw [hT];exact hj2);rw [hT] at pv;have hg:=(eS (S8 ((W6 hv).1 Q0.toNat (by have:=P6 c;unfold p7.ns at this;omega)) ht)).2.2;rw [hT] at hg;have OM:=hg _ (E7 (show 0<O t.o4 by omega));obtain ⟨_,q4,qW,⟨kv,rfl⟩,pK⟩:=UF (o0:=zO) hx kM (Y t.o4 0).type;refine Ex.skip ?_;refine Ex.seq ?_;refine Ex.block ?_;refine Ex.seq ?_;generalize hX:x6.cells (W7 ⟨1,seq,day,Q0,[],⟨0,0,[]⟩,0,⟨0,0,[]⟩⟩ (A8 3 Vl.enc row))=X;refine Ex.region (Rn.yP 5 [zO,tp xs q2,.cells (c.enc.map .d),.cells z12,X,.dead] [.slot 10] rfl rfl rfl ?_);refine ym ?_;refine yp _ (Gp (vs:=c.enc.map .d) rfl rfl rfl) ?_;refine ym ?_;refine ym ?_;refine ym ?_;refine yp _ (QD (enc:=Q1.enc) (λ_=>rfl) rfl rfl (Int.natCast_nonneg j) h2) ?_;refine yp _ (Ng (cs:=(Y t.o4 j).enc) rfl rfl) ?_;refine yc [.cells (c.enc.map .d),.cells z12,X,.dead] [zO,tp xs q3,.cells (c.enc.map .d),.cells z12,X,.dead] pv rfl (s8 _) (BT _ _ _) rfl U rfl rfl rfl ?_;refine yal 6 [.ptr 1 0,.any,.d (R6 ts),.any,.any,.ptr 2 0,.ptr 3 0,.ptr 4 0,.d (x3 Q1.enc t.o4),.d (Z j),.ptr 5 0,.any] [zO,tp xs q3,.cells (c.enc.map .d),.cells z12,X,.cells [.d (Z 0),.d (Z 0),.d (.str [])]] U rfl rfl rfl rfl ?_;refine ys (v:= .agg (v.enc.map .d)) (cs:=v.enc.map .d) (H2:=[zO,tp xs q3,.cells (c.enc.map .d),.cells z12,X,.cells (v.enc.map .d)]) rfl ⟨rfl,rfl⟩ rfl rfl rfl (.inl (s8 _)) rfl ?_;refine yn ?_ (by simp [br,F3,Touch.F1,F6.makes,F6.y3]);subst hX;refine Ex.seq ?_;refine Ex.xG (λst=>∃(u:Vl) (q:Nat),q<=4 * O xs/\st=⟨[.ptr 1 0,.any,.d (R6 ts),.any,.any,.ptr 2 0,.ptr 3 0,.ptr 4 0,.d (x3 Q1.enc t.o4),.d (Z j),.ptr 5 0,.any],[zO,tp xs q,.cells (c.enc.map .d),.cells z12,.cells (W7 ⟨1,seq,day,Q0,[],⟨0,0,[]⟩,0,⟨0,0,[]⟩⟩ (A8 3 Vl.enc row)),.cells (u.enc.map .d)]⟩) ?_ ?_
    .refine te trivial ?_ ?_
     .repeat' (first|refine c0 pK rfl (HD:=[.cells (c.enc.map .d),.cells z12,.cells (W7 ⟨1,seq,day,Q0,[],⟨0,0,[]⟩,0,⟨0,0,[]⟩⟩ (A8 3 Vl.enc row)),.cells (v.enc.map .d)]) (h2:=?_)|refine gx ?_|fail)
      exact ⟨kv,q4,qW,rfl⟩
     .refine gr ?_
      exact ⟨v,q3,kM,rfl⟩
    .rintro _ ⟨u,q5,wq,rfl⟩
     repeat' (first|refine oN (enc:=Vl.enc) u ?_|refine Zy (enc:=Vl.enc) (xs:=row) u (UJ V) (h2:=?_)|refine Ce (h2:=?_)|refine ad V ?_|refine gx ?_|fail)
     refine ⟨O t.o4 - (j+1),V,_,_,A6 (j5 rfl) (j5 rfl),j+1,q5,row++[u],V,rfl,by simp [hrl],wq,rfl,rfl⟩
   .refine Ex.exit ?_
    refine Ex.seq ?_;refine Ex.region (Rn.text ?_);refine yK (vs:=W7 ⟨1,seq,day,Q0,[],⟨0,0,[]⟩,0,⟨0,0,[]⟩⟩ (A8 3 Vl.enc row)) rfl rfl ?_;refine gr ?_;have hjl:O row=O t.o4:=V
    refine ⟨_,_,rfl,⟨1,seq,day,Q0,row,⟨0,0,[]⟩,0,⟨0,0,[]⟩⟩,q2,⟨t0,t1,.inl rfl,?_,Int.le_refl _,?_⟩,gR,rfl,rfl⟩
    .simp only [if_true,hT,hjl]
    .simp only [hT]
     omega
  .have hg:=(eS (S8 ((W6 hv).1 Q0.toNat (by have:=P6 c;unfold p7.ns at this;omega)) ht)).2.2
   rw [hT] at hg;have OM:=hg _ (E7 (show 0<O t.o4 by omega));have htn:Q0.toNat<O ts:=V
   have hfl:=KW h htn;have RU:=iW h1;obtain ⟨_,q2,gR,⟨kv,rfl⟩,pK⟩:=UF (o0:=zO) hx hq1 (Y t.o4 0).type;refine Ex.skip ?_;refine Ex.seq ?_;refine Ex.region (Rn.text ?_);refine gr ?_;refine c0 pK rfl (HD:=[.cells (c.enc.map .d),.cells z12,.cells (W7 ⟨op,seq,day,Q0,[],⟨0,0,[]⟩,0,⟨0,0,[]⟩⟩ (.own 3 0 []))]) (h2:=?_);refine gr ?_;refine SF (cs:=kv.enc.map .d) (H2:=[zO,tp xs q2,.cells (c.enc.map .d),.cells z12,.cells (W7 ⟨op,seq,day,Q0,[],kv,0,⟨0,0,[]⟩⟩ (.own 3 0 []))]) rfl ⟨rfl,rfl⟩ rfl rfl rfl (.inl (s8 _)) rfl ?_;refine gr ?_;refine Ex.xG (λst=>∃(kv:Vl) (q:Nat),q<=4 * O xs/\st=⟨[.ptr 1 0,cat c,.d (R6 ts),.d (Z seq),.d (Z day),.ptr 2 0,.ptr 3 0,.ptr 4 0,.d (x3 Q1.enc t.o4),.any,.any,.d (ux (Y ts Q0.toNat))],[zO,tp xs q,.cells (c.enc.map .d),.cells z12,.cells (W7 ⟨op,seq,day,Q0,[],kv,0,⟨0,0,[]⟩⟩ (.own 3 0 []))]⟩) ?_ ?_
   .obtain ⟨r8,q4,qW,_,_,_,p8⟩:=fL hx gR 8 V
    refine Ex.test (Rn.text ?_);refine gr ?_;refine fk (h1:=λhw=>?_) (h2:=λhw=>?_)
    .have hl0:=A5 hw
     obtain ⟨j,q5,wq,j1,j2,j3,pj⟩:=fL hx qW (O (Y ts Q0.toNat)) V;have hj:j.toNat<O (Y ts Q0.toNat):=V
     have Jx:=(h.row hv htn hj).2.1;refine gr ?_;refine c0 p8 rfl (HD:=[.cells (c.enc.map .d),.cells z12,.cells (W7 ⟨op,seq,day,Q0,[],kv,0,⟨0,0,[]⟩⟩ (.own 3 0 []))]) (h2:=?_);refine gr ?_;refine ⟨_,rfl,λ_=>?_,λ_=>?_⟩
     .refine gr ?_
      refine c0 pj rfl (HD:=[.cells (c.enc.map .d),.cells z12,.cells (W7 ⟨op,seq,day,Q0,[],kv,0,⟨0,0,[]⟩⟩ (.own 3 0 []))]) (h2:=?_);refine gr ?_;refine SF (cs:=(Y (Y (Y ts Q0.toNat) j.toNat).row 0).enc.map .d) (H2:=[zO,tp xs q5,.cells (c.enc.map .d),.cells z12,.cells (W7 ⟨op,seq,day,Q0,[],Y (Y (Y ts Q0.toNat) j.toNat).row 0,0,⟨0,0,[]⟩⟩ (.own 3 0 []))]) rfl ⟨rfl,rfl⟩ rfl rfl rfl (.inl (s8 _)) rfl ?_;refine gx ?_;exact ⟨_,q5,wq,rfl⟩
     .refine Ex.skip ?_
      exact ⟨kv,q4,qW,rfl⟩
    .refine gr ?_
     refine ⟨_,rfl,λhf=>?_,λ_=>?_⟩
     .cases hf
     .refine Ex.skip ?_
      exact ⟨kv,q2,gR,rfl⟩
   rintro _ ⟨key,q3,kM,rfl⟩;refine Ex.seq ?_;refine tc (s7 op 2) trivial (λh2=>?_) (λh2=>?_)
   .obtain ⟨col,q4,qW,k1,k2,k3,pc⟩:=fL hx kM (O t.o4:Int) V
    have PG:col<O t.o4:=V
    obtain ⟨v,q5,wq,pv⟩:=XK hx qW c hs hv ts h Q0.toNat col.toNat ht (by rw [hT];omega);rw [hT] at pv;refine Ex.seq ?_;refine Ex.region (Rn.text ?_);refine gr ?_;refine c0 pc rfl (HD:=[.cells (c.enc.map .d),.cells z12,.cells (W7 ⟨op,seq,day,Q0,[],key,0,⟨0,0,[]⟩⟩ (.own 3 0 []))]) (h2:=?_);refine gx ?_;refine SF (cs:=[.d (Z col)]) (H2:=[zO,tp xs q4,.cells (c.enc.map .d),.cells z12,.cells (W7 ⟨op,seq,day,Q0,[],key,col,⟨0,0,[]⟩⟩ (.own 3 0 []))]) rfl ⟨rfl,rfl⟩ rfl rfl rfl (.inl (s8 _)) rfl ?_;refine gx ?_;refine Ex.region (Rn.yP 5 [zO,tp xs q4,.cells (c.enc.map .d),.cells z12,.cells (W7 ⟨op,seq,day,Q0,[],key,col,⟨0,0,[]⟩⟩ (.own 3 0 []))] [] rfl rfl rfl ?_);refine ym ?_;refine yp _ (Gp (vs:=c.enc.map .d) rfl rfl rfl) ?_;refine ym ?_;refine ym ?_;refine yp _ (rZ rfl) ?_;refine yp _ (JR (v:= .d (Z col)) rfl rfl rfl) ?_;refine yp _ (QD (enc:=Q1.enc) (λ_=>rfl) rfl rfl k1 PG) ?_;refine yp _ (Ng (cs:=(Y t.o4 col.toNat).enc) rfl rfl) ?_;refine yc [.cells (c.enc.map .d),.cells z12,.cells (W7 ⟨op,seq,day,Q0,[],key,col,⟨0,0,[]⟩⟩ (.own 3 0 []))] [zO,tp xs q5,.cells (c.enc.map .d),.cells z12,.cells (W7 ⟨op,seq,day,Q0,[],key,col,⟨0,0,[]⟩⟩ (.own 3 0 []))] pv rfl (s8 _) (BT _ _ _) rfl U rfl rfl rfl ?_;refine yp _ (rZ rfl) ?_;refine ys (v:= .agg (v.enc.map .d)) (cs:=v.enc.map .d) (H2:=[zO,tp xs q5,.cells (c.enc.map .d),.cells z12,.cells (W7 ⟨op,seq,day,Q0,[],key,col,v⟩ (.own 3 0 []))]) rfl ⟨rfl,rfl⟩ rfl rfl rfl (.inl (s8 _)) rfl ?_;refine yn ?_ (by simp [br,F3,Touch.F1,F6.makes,F6.y3]);refine Ex.seq ?_;refine Ex.region (Rn.text ?_);refine yK (vs:=W7 ⟨op,seq,day,Q0,[],key,col,v⟩ (.own 3 0 [])) rfl rfl ?_;refine gr ?_;refine ⟨_,_,rfl,⟨op,seq,day,Q0,[],key,col,v⟩,q5,⟨t0,t1,ho,?_,k1,?_⟩,wq,rfl,rfl⟩
    .simp [RU]
    .simpa only [hT] using PG
   .refine Ex.skip ?_
    refine Ex.seq ?_;refine Ex.region (Rn.text ?_);refine yK (vs:=W7 ⟨op,seq,day,Q0,[],key,0,⟨0,0,[]⟩⟩ (.own 3 0 [])) rfl rfl ?_;refine gr ?_;refine ⟨_,_,rfl,⟨op,seq,day,Q0,[],key,0,⟨0,0,[]⟩⟩,q3,⟨t0,t1,ho,?_,Int.le_refl _,?_⟩,kM,rfl,rfl⟩
    .simp [RU]
    .simp only [hT]
     omega
 obtain ⟨_,_,⟨x,q',hx',ON,rfl,rfl⟩,p⟩:=key;exact ⟨x,q',hx',ON,p⟩
end
def QU {n:Nat}(h:n<=1000):roomFor n 128=W:=by
 refine decide_eq_true ?_;exact o5 (F8 _ (show 2 * n+512<=2512 by omega)) (by decide)
section
set_option maxHeartbeats 8000000 in
def p66 {xs:List Int}(hx:O xs<=35184372088832){q:Nat}(hq:q<=4 * O xs)(c:p7)(hs:D9 c)(hv:C4 c=W)(h0:0<O c.j7)(m:Nat)(hm:m<=100) :
  ∃(l:List eY) (q' :Nat),(∀x∈l,IL c x)/\O l<=m/\q' <=4 * O xs/\Pm A 66 [.ptr 1 0,cat c,.d (Z (m:Int))] [zO,tp xs q] l1 (.d (x3 eY.enc l)) [zO,tp xs q']:=by
 have p1:=XG c hs hv;have key:Pq A 66 [.ptr 1 0,cat c,.d (Z (m:Int))] [zO,tp xs q] l1 λw H1=>∃(l:List eY) (q' :Nat),(∀x∈l,IL c x)/\O l<=m/\q' <=4 * O xs/\w= .d (x3 eY.enc l)/\H1=[zO,tp xs q']:=by
  refine Pq.go (b:=2) 10 ?_;refine gc p1 ?_;refine Ex.L4 (λk T' H' =>∃(i q:Nat) (l:List eY) (ts:List (List S5)) (seq day:Int),i<=2 * m/\k=2 * m - i/\(∀x∈l,IL c x)/\O l<=m/\q<=4 * O xs/\kQ c ts/\0<=seq/\seq<=3 * i/\0<=day/\day<=2 * i /\
   T' =[.ptr 1 0,.any,.d (Z (m:Int)),.ptr 2 0,.any,.d (R6 ts),A8 12 eY.enc l,.d (Z seq),.d (Z day),.d (Z i),.any,.any,.any]/\H' =[zO,tp xs q,.cells (c.enc.map .d)]) ?_ (k:=2 * m) ⟨0,q,[],_,0,0,V,V,U,U,hq,MV c,V,V,V,V,rfl,rfl⟩
  rintro k T' H' ⟨i,q,l,ts,seq,day,hi,rfl,hl,PK,hq,hts,s0,s1,d0,d1,rfl,rfl⟩;refine Ex.seq ?_;have hmu: -9223372036854775808<=(2:Int) * m/\(2:Int) * m<9223372036854775808:=V
  refine Ex.dn (D0 (i:Int) (2 * m)&&D0 (O l) m) ?_ (λh=>?_) (λh=>?_)
  .refine Rn.text ?_
   repeat' (first|refine mu ?_ hmu|refine ls ?_|refine gx ?_|refine fq (λhw=>?_) λhw=>?_|refine ⟨rfl,rfl,_,rfl,?_⟩|refine ⟨rfl,rfl⟩|fail)
   all_goals first|(simp [*,j4];done)|(simp_all [j4];done)
  .rw [c9] at h
   have hi2:=A5 h.1;have iZ:=A5 h.2;obtain ⟨a,q1,hq1,a0,a1,_,pA⟩:=fL hx hq 3 V;obtain ⟨b,q2,gR,b0,b1,_,pB⟩:=fL hx hq1 3 V;obtain ⟨x,q3,hX,kM,pC⟩:=Ul hx gR c hs hv h0 ts hts (seq+(1+a)) (day+b);obtain ⟨w,e,pD,hD⟩:=Gn c hs hv ts hts x hX;have a1:=a1 V;have b1:=b1 V;refine gr ?_;refine c0 pA rfl (HD:=[.cells (c.enc.map .d)]) (h2:=?_);refine gr ?_;refine c0 pB rfl (HD:=[.cells (c.enc.map .d)]) (h2:=?_);refine gr ?_;refine c0 pC rfl (HD:=[.cells (c.enc.map .d)]) (h2:=?_);refine gc pD ?_;refine tc (s7 e 0) trivial (λhe=>?_) (λhe=>?_)
   .have he:=W9 he
    subst he;rw [hD rfl];have hp:=(Nh c hs hv ts hts x hX).2
    repeat' (first|refine oN (enc:=eY.enc) x ?_|refine gx ?_|fail)
    refine yY (xs:=l) (ys:=[x]) (hr:=QU D) (h2:=?_)
    repeat' (first|refine ad V ?_|refine gx ?_|fail)
    refine ⟨2 * m - (i+1),V,_,_,A6 (j5 rfl) (j5 rfl),i+1,q3,l++[x],_,seq+(1+a),day+b,V,rfl,λy hy=>?_,D,kM,hp,V,V,V,V,rfl,rfl⟩
    rcases G4.1 hy with hy|hy
    .exact hl y hy
    .rw [List.mem_singleton.1 hy]
     exact hX
   .repeat' (first|refine ad V ?_|refine gx ?_|fail)
    exact ⟨2 * m - (i+1),V,_,_,A6 (j5 rfl) (j5 rfl),i+1,q3,l,ts,seq+(1+a),day+b,V,rfl,hl,PK,kM,hts,V,V,V,V,rfl,rfl⟩
  .refine gr ?_
   exact ⟨_,_,rfl,l,q,hl,PK,hq,rfl,rfl⟩
 obtain ⟨_,_,⟨l,q',hl,PK,ON,rfl,rfl⟩,p⟩:=key;exact ⟨l,q',hl,PK,ON,p⟩
end
section
def YY (xs:List Int)(h:O xs<=17592186043904):Pq A 12 [.d (ints xs)] [zO] N9 λv H1=>v= .ptr 1 0/\H1=[zO,tp xs 0]:=by
 refine Pq.go (b:=1) 1 ?_;have e:ints xs=x3 (λn=>[Z n]) xs:=by simp [ints,x3,List.flatMap_singleton']
 rw [e];refine gr ?_;refine gr ?_;exact ⟨_,_,rfl,rfl,by simp [splice,tp,rq,Fi,lk];exact ⟨rfl,rfl⟩⟩
structure Full (c:p7):Prop where
 val:C4 c=W
 sm:D9 c
 t0:1<=O c.j7
 t1:O c.j7<=3
 vw:O c.views<=3
def Pc {xs:List Int}(hx:O xs<=17592186043904){q:Nat}(hq:q<=4 * O xs):∃(c:p7) (q' :Nat),Full c/\q' <=4 * O xs/\Pm A 65 [.ptr 1 0] [zO,tp xs q] l1 (cat c) [zO,tp xs q']:=by
 obtain ⟨_,q',h,⟨c,rfl,hv,hs,ht⟩,p⟩:=q65 (o0:=zO) V hq;exact ⟨c,q',⟨hv,hs.small (by decide) (by decide) (by decide),ht,hs.tl,hs.vl⟩,h,p⟩
def p28 {xs:List Int}(hx:O xs<=17592186043904):∃(c:p7) (l:List eY) (ts:List (List S5)),Full c/\(∀x∈l,IL c x)/\O l<=10/\kQ c ts/\Pf A 28 [.d (ints xs)] (.tuple [cat c,.d (x3 eY.enc l),.d (R6 ts)]):=by
 obtain ⟨_,_,⟨rfl,rfl⟩,p12⟩:=YY xs hx;obtain ⟨c,q,hc,hq,p65⟩:=Pc hx (q:=0) V;obtain ⟨l,q1,hl,PK,hq1,p66⟩:=p66 V hq c hc.sm hc.val (by have:=hc.t0;omega) 10 V;obtain ⟨ts,hts,p67⟩:=p67 c hc.sm hc.val (by have:=hc.t0;omega) l V hl;refine ⟨c,l,ts,hc,hl,PK,hts,?_⟩;refine Pf.gr 6 ?_;refine cp p12 U ?_;refine gr ?_;refine c0 p65 rfl (HD:=[]) (h2:=?_);refine gr ?_;refine c0 p66 rfl (HD:=[.cells (c.enc.map .d)]) (h2:=?_);refine gx ?_;refine gx ?_;refine Ex.seq ?_;refine Ex.region (Rn.yP 3 [zO,tp xs q1,.cells (c.enc.map .d)] [] rfl rfl rfl ?_);refine yp _ (Gp (vs:=c.enc.map .d) rfl rfl rfl) ?_;refine ym ?_;refine yp _ (Gp (vs:=c.enc.map .d) rfl rfl rfl) ?_;refine ym ?_;refine yl p67 ?_;refine ys (v:=cat c) (cs:=c.enc.map .d) (H2:=[.cells (c.enc.map .d),tp xs q1,.cells (c.enc.map .d)]) rfl ⟨rfl,rfl⟩ rfl rfl rfl (.inl (s8 _)) rfl ?_;refine ymT [.d (ints xs),.ptr 0 0,.d (x3 eY.enc l),.own 1 0 [],.ptr 1 0,.ptr 2 0,.d (x3 eY.enc l)] U rfl ?_;refine ymT [.d (ints xs),.ptr 0 0,.d (x3 eY.enc l),.d (R6 ts),.ptr 1 0,.ptr 2 0,.d (x3 eY.enc l)] U rfl ?_;refine yn ?_ (by simp [br,F3,Touch.F1,F6.makes,F6.y3]);refine gr ?_;exact ⟨_,rfl,rfl⟩
end
end Go.Proofs.YtibjocmpkoepoaaGreat
namespace Go.Proofs.YtibjocmpkoepoaaGreat
open Go.z6 Go.z6.S
attribute [local irreducible] Rx Ry Rn Ex Pf
def av1 (n:Int)(p:C8):Pf A 127 [.d (Z n),qC p] (.d (.bool (s7 p.1 n))):=by
 refine Pf.go 2 ?_;unfold qC;refine gr ?_;exact ⟨_,rfl,by simp [j4]⟩
def av8 (n:Int)(l:List C8)(hl:O l<=1000000):∃r:Int,(0<=r↔∃q∈l,q.1=n)/\Pf A 185 [.d (E4 l),.func 127 [.d (Z n)] []] (.d (Z r)):=by
 have h1:=Pe.go (A:=A) (f:=185) (args:=[.d (E4 l),.func 127 [.d (Z n)] []]) (P:=λw=>∃r:Int,(0<=r↔∃q∈l,q.1=n)/\w= .d (Z r)) 4 ?_
 .obtain ⟨_,⟨r,h,rfl⟩,hp⟩:=h1
  exact ⟨r,h,hp⟩
 unfold E4;refine gr ?_;refine Ex.J1 (λk T' H' =>∃i:Nat,i<=O l/\k=O l - i/\T' =[.d (x3 E8 l),.func 127 [.d (Z n)] [],.any,.any,.d (Z (O l)),.d (Z i)]/\H' =[]/\∀j,j<i->(Y l j).1≠n) ?_ (k:=O l) ⟨0,V,V,rfl,rfl,λ_ h=>V⟩;rintro k T' H' ⟨i,hi,rfl,rfl,rfl,hb⟩;refine Ex.seq ?_;refine tl (i:Int) (O l:Int) (λh1=>?_) (λh1=>?_)
 .have g1:i<O l:=V
  refine Ex.skip ?_;refine Ex.seq ?_;refine Ex.block ?_;refine gr ?_;have p1:=av1 n (Y l i);unfold qC at p1;refine tB (s7 (Y l i).1 n) ?_ (λh5=>?_) (λh5=>?_)
  .repeat' (first|refine Tc p1 ?_|refine gx ?_|refine fq (λhw=>?_) λhw=>?_|refine ⟨rfl,rfl,_,rfl,?_⟩|refine ⟨rfl,rfl⟩|fail)
   rfl
  .have h5:(Y l i).1=n:=by simpa [o6] using h5
   refine gr ?_;exact ⟨_,rfl,i,⟨λ_=>⟨_,E7 g1,h5⟩,λ_=>V⟩,rfl⟩
  .have h5:(Y l i).1≠n:=by simpa [o6] using h5
   refine gr ?_;refine ⟨O l - (i+1),V,i+1,V,rfl,rfl,rfl,λj hj=>?_⟩
   rcases y8 j i with h2|h2
   .exact hb j h2
   .rwa [show j=i by omega]
 .refine gr ?_
  refine ⟨_,rfl, -1,⟨λh=>V,λ⟨q,h,e⟩=>?_⟩,rfl⟩;obtain ⟨j,hj,rfl⟩:=E0 h;exact absurd ((congrArg Prod.fst (A7 hj)).trans e) (hb j V)
def iO (l:List C8)(n:Int):Bool:=l.any λq=>s7 q.1 n
def AD {l:List C8}{n:Int}:iO l n=W↔∃q∈l,q.1=n:=by simp [iO,o6]
def av0 (n:Int)(l:List C8)(hl:O l<=1000000):Pf A 126 [.d (E4 l),.func 127 [.d (Z n)] []] (.d (.bool (iO l n))):=by
 obtain ⟨r,h,p1⟩:=av8 n l hl;refine Pf.go 1 ?_;refine gc p1 ?_;refine ⟨_,rfl,?_⟩;have:U4 0 r=iO l n:=by rw [Bool.eq_iff_iff,AD,<- h,r7];simp
 simp [j4,this]
def VF (u v:Nat)(n:Int)(l:List C8)(hl:O l<=1000000):Pm A 72 [.d (Z n),.d (E4 l)] [] ⟨u,v,0,0⟩ (.d (.bool (iO l n))) []:=by
 have p1:=av0 n l hl;have h1:Pq A 72 [.d (Z n),.d (E4 l)] [] ⟨u,v,0,0⟩ λw H=>w= .d (.bool (iO l n))/\H=[]:=by
  refine Pq.go (b:=0) 1 ?_;refine gc p1 ?_;exact ⟨_,_,rfl,by simp [j4],rfl⟩
 obtain ⟨_,_,⟨rfl,rfl⟩,p⟩:=h1;exact p
def BD (a b:C8):(a.1==b.1&&(a.2==b.2&&W))=decide (a=b):=by
 rw [Bool.eq_iff_iff];simp [Prod.ext_iff]
def av2 (p:C8)(l:List C8)(hl:O l<=1000000):∃r:Int,(0<=r↔p∈l)/\Pf A 128 [.d (E4 l),qC p] (.d (Z r)):=by
 have h1:=Pe.go (A:=A) (f:=128) (args:=[.d (E4 l),qC p]) (P:=λw=>∃r:Int,(0<=r↔p∈l)/\w= .d (Z r)) 5 ?_
 .obtain ⟨_,⟨r,h,rfl⟩,hp⟩:=h1
  exact ⟨r,h,hp⟩
 unfold E4 qC;refine gr ?_;refine Ex.J1 (λk T' H' =>∃i:Nat,i<=O l/\k=O l - i/\T' =[.d (x3 E8 l),.any,.ptr 0 0,.any,.any,.d (Z (O l)),.d (Z i)]/\H' =[.cells [.d (Z p.1),.d (Z p.2)]]/\∀j,j<i->Y l j≠p) ?_ (k:=O l) ⟨0,V,V,rfl,rfl,λ_ h=>V⟩;rintro k T' H' ⟨i,hi,rfl,rfl,rfl,hb⟩;refine Ex.seq ?_;refine tl (i:Int) (O l:Int) (λh1=>?_) (λh1=>?_)
 .have g1:i<O l:=V
  refine Ex.skip ?_;refine Ex.seq ?_;refine Ex.block ?_;refine gr ?_;refine tB (decide (Y l i=p)) ?_ (λh5=>?_) (λh5=>?_)
  .repeat' (first|refine gx ?_|refine fq (λhw=>?_) λhw=>?_|refine ⟨rfl,rfl,_,rfl,?_⟩|refine ⟨rfl,rfl⟩|fail)
   rw [BD];simp [eq_comm]
  .have h5:Y l i=p:=by simpa using h5
   refine gr ?_;exact ⟨_,rfl,i,⟨λ_=>h5 ▸ E7 g1,λ_=>V⟩,rfl⟩
  .have h5:Y l i≠p:=by simpa using h5
   refine gr ?_;refine ⟨O l - (i+1),V,i+1,V,rfl,rfl,rfl,λj hj=>?_⟩
   rcases y8 j i with h2|h2
   .exact hb j h2
   .rwa [show j=i by omega]
 .refine gr ?_
  refine ⟨_,rfl, -1,⟨λh=>V,λh=>?_⟩,rfl⟩;obtain ⟨j,hj,e⟩:=E0 h;exact absurd ((A7 hj).trans e) (hb j V)
def p75 (p:C8)(l:List C8)(hl:O l<=1000000):Pf A 75 [.d (E4 l),qC p] (.d (.bool (decide (p∈l)))):=by
 obtain ⟨r,h,p1⟩:=av2 p l hl;unfold qC at *
 refine Pf.go 2 ?_;refine gc p1 ?_;refine ⟨_,rfl,?_⟩;have:U4 0 r=decide (p∈l):=by rw [Bool.eq_iff_iff,decide_eq_true_iff,<- h,r7];simp
 simp [j4,this]
def mT (l:List C8):x6:= .cells [A8 2 E8 l]
def kE (l:List C8):x6:= .cells [.d (E4 l)]
def uD (l:List C8):(kE l).H7=0:=rfl
def Hg (l:List C8):(mT l).H7=0:=rfl
def cN0 (H:k8)(s:Nat):D7 H s 8 0=0:=by simp [D7]
def jU {n:Nat}(h:n<=100000):roomFor n 16=W:=by
 refine decide_eq_true ?_;exact o5 (F8 _ (show 2 * n+512<=200512 by omega)) (by decide)
def p70 (c:p7)(hs:D9 c)(u v st:Nat)(s:I4)(g l:List C8)(hl:O l<=1000000):Pm A 70 [.d (.str s),.ptr 0 0,.ptr 2 0] [.cells (c.enc.map .d),kE g,mT l] ⟨u,v,3,st⟩ (.d (.bool (iO l (M4 c s)))) [.cells (c.enc.map .d),kE g,mT l]:=by
 have XR:=QE c hs s;have VF:=VF u v (M4 c s) l hl;have h1:Pq A 70 [.d (.str s),.ptr 0 0,.ptr 2 0] [.cells (c.enc.map .d),kE g,mT l] ⟨u,v,3,st⟩ λw H=>w= .d (.bool (iO l (M4 c s)))/\H=[.cells (c.enc.map .d),kE g,mT l]:=by
  refine Pq.go (b:=3) 1 ?_;unfold mT kE E4
  repeat' (first|refine cl (XR) ?_|refine c0 (m:=0) (H0:=[]) VF rfl (fe:=by simp [C9]) (hcl:=cN0 _ _) (iZ:=by simp [B1]) (h2:=?_)|refine gx ?_|fail)
  exact ⟨_,_,rfl,by simp [j4],rfl⟩
 obtain ⟨_,_,⟨rfl,rfl⟩,p⟩:=h1;exact p
def p73 (c:p7)(hs:D9 c)(u v st:Nat)(s:I4)(l:List C8)(hl:O l<=1000000):Pm A 73 [.d (.str s),.ptr 0 0,.ptr 1 0] [.cells (c.enc.map .d),kE l] ⟨u,v,2,st⟩ (.d (.bool (iO l (M4 c s)))) [.cells (c.enc.map .d),kE l]:=by
 have XR:=QE c hs s;have VF:=VF u v (M4 c s) l hl;have h1:Pq A 73 [.d (.str s),.ptr 0 0,.ptr 1 0] [.cells (c.enc.map .d),kE l] ⟨u,v,2,st⟩ λw H=>w= .d (.bool (iO l (M4 c s)))/\H=[.cells (c.enc.map .d),kE l]:=by
  refine Pq.go (b:=2) 1 ?_;unfold kE E4
  repeat' (first|refine cl (XR) ?_|refine c0 (m:=0) (H0:=[]) VF rfl (fe:=by simp [C9]) (hcl:=cN0 _ _) (iZ:=by simp [B1]) (h2:=?_)|refine gx ?_|fail)
  exact ⟨_,_,rfl,by simp [j4],rfl⟩
 obtain ⟨_,_,⟨rfl,rfl⟩,p⟩:=h1;exact p
def fG (f:List C8)(k i:Int)(t:Bool):List C8:=if t then f++[(k,i)] else f
def p74 (st:Nat)(c:p7)(g r f:List C8)(hf:O f<=50000)(k i:Int)(t:Bool):Pm A 74 [.ptr 3 0,.d (Z k),.d (Z i),.d (.bool t)] [.cells (c.enc.map .d),kE g,mT r,mT f] ⟨0,0,4,st⟩ (.tuple []) [.cells (c.enc.map .d),kE g,mT r,mT (fG f k i t)]:=by
 have h1:Pq A 74 [.ptr 3 0,.d (Z k),.d (Z i),.d (.bool t)] [.cells (c.enc.map .d),kE g,mT r,mT f] ⟨0,0,4,st⟩ λw H=>w= .tuple []/\H=[.cells (c.enc.map .d),kE g,mT r,mT (fG f k i t)]:=by
  refine Pq.go (b:=4) 0 ?_;refine tB t ?_ (λh=>?_) (λh=>?_)
  .repeat' (first|refine gx ?_|refine fq (λhw=>?_) λhw=>?_|refine ⟨rfl,rfl,_,rfl,?_⟩|refine ⟨rfl,rfl⟩|fail)
   rfl
  .rw [h]
   unfold mT kE E4
   repeat' (first|refine mJ (cs:=(E8 (k,i)).map .d) ?_|refine oN (enc:=E8) (k,i) ?_|refine Zy (enc:=E8) (xs:=f) (k,i) (jU V) (h2:=?_)|refine Ce (h2:=?_)|refine gx ?_|fail)
   exact ⟨_,_,rfl,rfl,rfl⟩
  .rw [h]
   refine gr ?_;exact ⟨_,_,rfl,rfl,rfl⟩
 obtain ⟨_,_,⟨rfl,rfl⟩,p⟩:=h1;exact p
end Go.Proofs.YtibjocmpkoepoaaGreat
namespace Go.z6.S
def au1 {A:Prog}{l:G9}{b:Nat}{dr:Bool}{j8 ops:List x9}{T:List c7}{H:k8}{n:Nat}{rl:List c7}{l6:List Touch}{Q:List c7->k8->List c7->Prop}{x:A4}{u:List Nat}{s id sz lo len:Nat}{T2:List c7}
  (hx:rq T n rl x= .s5 id sz lo len:=by rfl) (hs:T[s]?.isSome=W:=by rfl) (hT:T.set s (.d (.int .i64 (len:Int)))=T2:=by simp only [o8,o7]<;>rfl)
  (h2:Ry A l b dr j8 ops T2 H (n+1) (.d (.int .i64 (len:Int))::rl) (.slot s::l6) Q):Ry A l b dr j8 (⟨.len x,J s,K,u⟩::ops) T H n rl l6 Q :=
 Ry.oQ (v:= .d (.int .i64 (len:Int))) (rs:=[]) rfl (by simp only [l5,hx,i64]) rfl rfl hs (by rw [hT];exact h2)
end Go.z6.S
namespace Go.Proofs.YtibjocmpkoepoaaGreat
open Go.z6 Go.z6.S
attribute [local irreducible] Rx Ry Rn Ex Pf
def wz (c:p7)(i:Nat):List Int:=yU c i++c8 (p7.ns c - i) 0
def Ve {c:p7}{i:Nat}(h:i<=p7.ns c):O (wz c i)=p7.ns c:=by
 have:=dw c i;simp [wz];omega
def Vf {c:p7}{i:Nat}(h:i<p7.ns c):(wz c i).set i (O (M3 c i):Int)=wz c (i+1):=by
 have e:=dw c i;obtain ⟨m,hm⟩:∃m,p7.ns c - i=m+1:=⟨p7.ns c - i - 1,V⟩;have h2:p7.ns c - (i+1)=m:=V
 simp only [wz,hm,h2,M0,yU,F5];rw [List.set_append_right _ _ V,e,Nat.sub_self];rfl
def Vd (c:p7):wz c (p7.ns c)=R2 c:=by simp [wz,R2]
def Rr (c:p7):(wz c 0).map iv=(c8 (p7.ns c) [iv 0]).flatten:=by
 have:∀n,(c8 n (0:Int)).map iv=(c8 n [iv 0]).flatten:=λn=>by
  induction n with
  |zero=>rfl
  |succ n ih=>simp only [M0,G7,List.flatten_cons,ih];rfl
 exact this _
def Pb (ws:List Int):(x6.cells (ws.map iv)).H7=0:=by simp [x6.H7,AJ]
def Fv (c:p7)(ws:List Int)(r:k8):C9 (([x6.cells (c.enc.map .d),.cells (ws.map iv)]++r).take 2)<=2:=by simp [C9,P8,Pb]
def toN {i:Int}{n:Nat}(h1:U4 0 i=W)(h2:D0 i n=W):i.toNat<n:=by
 have:=gU h1;have:=A5 h2;omega
def Qp (w:List Int)(i:Nat):w[i]?.getD 0=Y w i:=by simp [Y]
set_option maxHeartbeats 4000000 in
def ZV (c:p7)(hs:D9 c)(hv:C4 c=W)(hn:p7.ns c<=1000)(g:List C8)(hg:O g<=1000):Pf A 69 [cat c,.d (E4 g)] (.d (E4 (g.filter (O3 (R2 c))))):=by
 have aO:p7.ns c=O c.j7+O c.views:=rfl;obtain ⟨f0,f1,_⟩:=id hs.sm.dP;refine Pf.go 11 ?_;have hm:qq 1 [iv 0] (.d (Z (O c.j7+O c.views))) (.d (Z (O c.j7+O c.views)))=J (p7.ns c):=by
  simp only [qq,Z];rw [if_pos ⟨trivial,V,V,by decide,rfl⟩]
  congr 1
 have hH:[x6.cells (c.enc.map .d)]++[.cells (c8 (p7.ns c) [iv 0]).flatten]=[.cells (c.enc.map .d),.cells ((wz c 0).map iv)]:=by rw [Rr];rfl
 unfold E4
 repeat' (first|refine mks hm hH (h2:=?_)|refine au1 (h2:=?_)|refine gx ?_|fail)
 refine Ex.L4 (λq T' H' =>∃(i:Nat),i<=p7.ns c/\q=p7.ns c - i/\T' =[.any,.d (x3 E8 g),.ptr 0 0,.any,.s5 1 1 0 (p7.ns c),.any,.any,.any,.d (Z (p7.ns c)),.d (Z i),.any,.any,.any]/\H' =[.cells (c.enc.map .d),.cells ((wz c i).map iv)]) ?_ (k:=p7.ns c) ⟨0,V,V,rfl,rfl⟩;rintro q T' H' ⟨i,hi,rfl,rfl,rfl⟩;refine Ex.seq ?_;refine tl (i:Int) (p7.ns c:Int) (λh1=>?_) (λh1=>?_)
 .have g1:i<p7.ns c:=V
  have hi:R5 c (i:Int)=W:=by
   unfold R5;rw [hv];simp [r7,s4];omega
  have p1:=Nq c hs (i:Int) hi;rw [G6] at p1;have hw:wr [.cells (c.enc.map .d),.cells ((wz c i).map iv)] 1 (0+i * 1) [.d (Z (O (M3 c i)))]=J [.cells (c.enc.map .d),.cells ((wz c (i+1)).map iv)]:=by
   rw [<- Vf g1];exact Zu rfl (by rw [Ve V];exact g1)
  repeat' (first|refine cl (p1) ?_|refine KN (e:=(i:Int)) ⟨V,V⟩ ?_|refine sox hw (h2:=?_)|refine gx ?_|fail)
  exact ⟨p7.ns c - (i+1),V,_,_,A6 (j5 rfl) (Fv ..),i+1,V,rfl,rfl,rfl⟩
 .obtain rfl:i=p7.ns c:=V
  rw [Vd];have Fg:O (R2 c)=p7.ns c:=dw c _;obtain ⟨w,Vz⟩:∃w,R2 c=w:=⟨_,rfl⟩;rw [Vz] at Fg ⊢;rw [<- Fg];refine gr ?_;refine Ex.L4 (λq T' H' =>∃(i:Nat),i<=O g/\q=O g - i/\T' =[.any,.any,.any,.any,.s5 1 1 0 (O w),.any,A8 2 E8 ((g.take i).filter (O3 w)),.any,.any,.any,.d (x3 E8 g),.d (Z (O g)),.d (Z i)]/\H' =[.cells (c.enc.map .d),.cells (w.map iv)]) ?_ (k:=O g) ⟨0,V,V,rfl,rfl⟩;rintro q T' H' ⟨i,hi,rfl,rfl,rfl⟩;refine Ex.seq ?_;refine tl (i:Int) (O g:Int) (λh2=>?_) (λh2=>?_)
  .have g1:i<O g:=V
   have e1:(g.take (i+1)).filter (O3 w)=(g.take i).filter (O3 w)++(if O3 w (Y g i) then [Y g i] else []):=by
    rw [D2 V,List.filter_append]
    congr 1
    simp only [List.filter_cons,List.filter_nil]
   have e2:O ((g.take i).filter (O3 w))<=1000:=o5 (List.length_filter_le _ _) D;obtain ⟨acc,hacc⟩:∃acc,(g.take i).filter (O3 w)=acc:=⟨_,rfl⟩;obtain ⟨p,hp⟩:∃p,Y g i=p:=⟨_,rfl⟩;rw [hacc,hp] at e1;rw [hacc] at e2 ⊢;refine Ex.skip ?_;refine Ex.seq ?_;refine Ex.block ?_;refine gr ?_;rw [hp];refine tB (O3 w p) ?_ (λh3=>?_) (λh3=>?_)
   .have r1:U4 0 p.1=W->D0 p.1 (O w)=W->rd [.cells (c.enc.map .d),.cells (w.map iv),.cells ((E8 p).map .d)] 1 (0+p.1.toNat * 1) 1=J [iv (Y w p.1.toNat)]:=λh1 h2=>by
     rw [Zc rfl (toN h1 h2),Qp];rfl
    repeat' (first|refine lnS ?_|refine KN (e:=p.1) ⟨gU (by assumption),A5 (by assumption)⟩ ?_|refine KO (r1 (by assumption) (by assumption)) rfl ?_|refine gx ?_|refine fq (λhw=>?_) λhw=>?_|refine ⟨rfl,rfl,_,rfl,?_⟩|refine ⟨rfl,rfl⟩|fail)
    all_goals simp_all [O3]
   .repeat' (first|refine oN (enc:=E8) p ?_|refine yY (ys:=[p]) (h2:=?_)|refine gx ?_|fail)
    exact ⟨O g - (i+1),V,_,_,A6 (j5 rfl) (Fv ..),i+1,V,rfl,by rw [e1,h3];rfl,rfl⟩
   .refine gr ?_
    exact ⟨O g - (i+1),V,_,_,A6 (j5 rfl) (Fv ..),i+1,V,rfl,by rw [e1,h3];simp;rfl,rfl⟩
  .obtain rfl:i=O g:=V
   rw [D3];refine gr ?_;exact ⟨_,rfl,rfl⟩
theorem O0:∀(H:k8) (s:Nat),C9 (H.drop s)<=C9 H
 |[],s=>U
 |a::H,0=>U
 |a::H,s+1=>by
  have:=O0 H s;simp only [List.drop_succ_cons,C9];omega
def AI (st:Nat)(c:p7)(l:List C8):C9 ((List.take 2 [.cells (c.enc.map .d),kE l]).drop st)<=2:=o5 (O0 _ _) (by simp [C9,P8,uD])
def av3 (st:Nat)(c:p7)(hs:D9 c)(ss:List I4)(hn:O ss<=1000000)(l:List C8)(hl:O l<=1000000):∃r:Int,(0<=r↔∃s∈ss,iO l (M4 c s)=W) /\
  Pm A 129 [.d (x3 encS ss),.func 73 [] [.ptr 0 0,.ptr 1 0]] [.cells (c.enc.map .d),kE l] ⟨0,2,2,st⟩ (.d (Z r)) [.cells (c.enc.map .d),kE l]:=by
 have h1:Pq A 129 [.d (x3 encS ss),.func 73 [] [.ptr 0 0,.ptr 1 0]] [.cells (c.enc.map .d),kE l] ⟨0,2,2,st⟩ λw H=>∃r:Int,(0<=r↔∃s∈ss,iO l (M4 c s)=W)/\w= .d (Z r)/\H=[.cells (c.enc.map .d),kE l]:=by
  refine Pq.go (b:=2) 4 ?_;refine gr ?_;refine Ex.J1 (λk T' H' =>∃i:Nat,i<=O ss/\k=O ss - i/\T' =[.d (x3 encS ss),.func 73 [] [.ptr 0 0,.ptr 1 0],.any,.any,.d (Z (O ss)),.d (Z i)]/\H' =[.cells (c.enc.map .d),kE l]/\∀j,j<i->iO l (M4 c (Y ss j))=F) ?_ (k:=O ss) ⟨0,V,V,rfl,rfl,λ_ h=>V⟩;rintro k T' H' ⟨i,hi,rfl,rfl,rfl,hb⟩;refine Ex.seq ?_;refine tl (i:Int) (O ss:Int) (λh1=>?_) (λh1=>?_)
  .have g1:i<O ss:=V
   have p1:=λst=>p73 c hs 0 2 st (Y ss i) l hl
   refine Ex.skip ?_;refine Ex.seq ?_;refine Ex.block ?_;refine gr ?_;refine tB (iO l (M4 c (Y ss i))) ?_ (λh5=>?_) (λh5=>?_)
   .repeat' (first|refine RE (m:=2) (p1 _) rfl (fe:=AI _ c l) (hcl:=I8 (AI _ c l)) (h2:=?_)|refine gx ?_|refine fq (λhw=>?_) λhw=>?_|refine ⟨rfl,rfl,_,rfl,?_⟩|refine ⟨rfl,rfl⟩|fail)
    rfl
   .refine gr ?_
    exact ⟨_,_,rfl,i,⟨λ_=>⟨_,E7 g1,h5⟩,λ_=>V⟩,rfl,rfl⟩
   .refine gr ?_
    refine ⟨O ss - (i+1),V,i+1,V,rfl,rfl,rfl,λj hj=>?_⟩
    rcases y8 j i with h2|h2
    .exact hb j h2
    .rwa [show j=i by omega]
  .refine gr ?_
   refine ⟨_,_,rfl, -1,⟨λh=>V,λ⟨q,h,e⟩=>?_⟩,rfl,rfl⟩;obtain ⟨j,hj,rfl⟩:=E0 h;rw [<- A7 hj,hb j V] at e;cases e
 obtain ⟨_,_,⟨r,h,rfl,rfl⟩,p⟩:=h1;exact ⟨r,h,p⟩
def p76 (st:Nat)(c:p7)(hs:D9 c)(ss:List I4)(hn:O ss<=1000000)(l:List C8)(hl:O l<=1000000) :
  Pm A 76 [.d (x3 encS ss),.func 73 [] [.ptr 0 0,.ptr 1 0]] [.cells (c.enc.map .d),kE l] ⟨0,2,2,st⟩ (.d (.bool (ss.any λs=>iO l (M4 c s)))) [.cells (c.enc.map .d),kE l]:=by
 obtain ⟨r,h,p1⟩:=av3 (B1 [.cells (c.enc.map .d),kE l] st 2) c hs ss hn l hl;have h1:Pq A 76 [.d (x3 encS ss),.func 73 [] [.ptr 0 0,.ptr 1 0]] [.cells (c.enc.map .d),kE l] ⟨0,2,2,st⟩ λw H=>w= .d (.bool (ss.any λs=>iO l (M4 c s)))/\H=[.cells (c.enc.map .d),kE l]:=by
  refine Pq.go (b:=2) 1 ?_
  repeat' (first|refine c1 p1 rfl ?_ (fe:=AI _ c l) (hcl:=I8 (AI _ c l))|refine gx ?_|fail)
  refine ⟨_,_,rfl,?_,rfl⟩;have:U4 0 r=ss.any λs=>iO l (M4 c s):=by rw [Bool.eq_iff_iff,List.any_eq_true,<- h,r7];simp
  simp [j4,this]
 obtain ⟨_,_,⟨rfl,rfl⟩,p⟩:=h1;exact p
def V9 (k:Int)(P:Nat->Bool)(f:List C8):Nat->List C8
 |0=>f
 |i+1=>fG (V9 k P f i) k i (P i)
theorem V1 (k:Int)(P:Nat->Bool)(f:List C8):∀i,O (V9 k P f i)<=O f+i
 |0=>k9 _
 |i+1=>by
  have:=V1 k P f i;unfold V9 fG;split
  .simp;omega
  .omega
theorem Bs {k:Int}{P:Nat->Bool}{f:List C8}{p:C8}:∀{n},p∈V9 k P f n↔p∈f\/∃i:Nat,i<n/\P i=W/\p=(k,(i:Int))
 |0=>by simp [V9]
 |n+1=>by
  have ih:=Bs (k:=k) (P:=P) (f:=f) (p:=p) (n:=n);have e:p∈V9 k P f (n+1)↔p∈V9 k P f n\/P n=W/\p=(k,(n:Int)):=by
   show p∈fG (V9 k P f n) k n (P n)↔_
   unfold fG;cases P n<;>simp
  rw [e,ih,or_assoc];refine or_congr Iff.rfl ⟨?_,?_⟩
  .rintro (⟨i,h1,h2⟩|h)
   .exact ⟨i,V,h2⟩
   .exact ⟨n,V,h⟩
  .rintro ⟨i,h1,h2⟩
   by_cases h:i=n
   .subst h
    exact .inr h2
   .exact .inl ⟨i,V,h2⟩
def N8 (c:p7)(g r:List C8)(k i:Nat):Bool :=
 if k=0 then iO r (M4 c (Y c.j7 i).name) else if k=1 then iO r (M4 c (Y c.views i).name) else if k=2 then iO r (M4 c (Y c.idxs i).source)
 else if k=3 then decide ((M4 c (Y c.F4 i).source,(Y c.F4 i).col)∈r) else if k=4 then iO r (M4 c (Y c.H8 i).source) else if k=5 then iO r (M4 c (Y c.J5 i).source)
 else if k=6 then iO g (M4 c (Y c.J9 i).table) else (Y c.K6 i).tables.any λs=>iO g (M4 c s)
def Na (c:p7)(k:Nat):Nat:=if k=0 then O c.j7 else if k=1 then O c.views else if k=2 then O c.idxs else if k=3 then O c.F4 else if k=4 then O c.H8 else if k=5 then O c.J5 else if k=6 then O c.J9 else O c.K6
def P9 (c:p7)(g r:List C8):Nat->List C8
 |0=>[]
 |k+1=>V9 k (N8 c g r k) (P9 c g r k) (Na c k)
theorem uI (c:p7)(h:c.dP)(g r:List C8):∀k,O (P9 c g r k)<=1000 * k
 |0=>k9 _
 |k+1=>by
  have h1:=uI c h g r k;have h2:=V1 k (N8 c g r k) (P9 c g r k) (Na c k);have h3:Na c k<=1000:=by
   unfold Na;obtain ⟨_,_,_,_,_,_,_,_⟩:=h
   (repeat' split)<;>omega
  unfold P9;omega
theorem Im {c:p7}{g r:List C8}{p:C8}:∀{k},p∈P9 c g r k↔∃j i:Nat,j<k/\i<Na c j/\N8 c g r j i=W/\p=((j:Int),(i:Int))
 |0=>by simp [P9]
 |k+1=>by
  rw [P9,Bs,Im];constructor
  .rintro (⟨j,i,h1,h2⟩|⟨i,h⟩)
   .exact ⟨j,i,V,h2⟩
   .exact ⟨k,i,V,h⟩
  .rintro ⟨j,i,h1,h2⟩
   by_cases h:j=k
   .subst h
    exact .inr ⟨i,h2⟩
   .exact .inl ⟨j,i,V,h2⟩
def AH (st:Nat)(c:p7)(g:List C8)(X:k8):C9 ((List.take 2 (.cells (c.enc.map .d)::kE g::X)).drop st)<=2:=o5 (O0 _ _) (by simp [C9,P8,uD])
def ir (st:Nat)(c:p7)(g r:List C8)(X:k8):C9 ((List.take 3 (.cells (c.enc.map .d)::kE g::mT r::X)).drop st)<=3:=o5 (O0 _ _) (by simp [C9,P8,uD,Hg])
def T8 (st:Nat)(c:p7)(g r f:List C8)(X:k8):C9 ((List.take 4 (.cells (c.enc.map .d)::kE g::mT r::mT f::X)).drop st)<=4:=o5 (O0 _ _) (by simp [C9,P8,uD,Hg])
set_option maxHeartbeats 16000000 in
def p29 (c:p7)(hs:D9 c)(hv:C4 c=W)(ht:O c.j7<=8)(hw:O c.views<=12)(l:List C8)(hl:O l<=1000) :
  ∃g r,g=l.filter (O3 (R2 c))/\r=sj (dN c) g/\Pf A 29 [cat c,.d (E4 l)] (.d (E4 (P9 c g r 8))):=by
 have aO:p7.ns c=O c.j7+O c.views:=rfl;have XP:=Ut c hs;rw [hv] at XP;have ZV:=ZV c hs hv V l hl;have ff:∀x:C8,O3 (R2 c) x=W->O3 (R2 c) x=W:=λ_ h=>h
 have hgl:O (l.filter (O3 (R2 c)))<=1000:=o5 (List.length_filter_le _ _) hl;have p23:=at2 c hs hv ht hw (l.filter (O3 (R2 c))) V;rw [List.filter_filter,show (λa=>O3 (R2 c) a&&O3 (R2 c) a)=O3 (R2 c) from funext λ_=>Bool.and_self _] at p23;have hrl:O (sj (dN c) (l.filter (O3 (R2 c))))<=1000000:=by
  rw [sj,Y6];have:=xe (dN c) (l.filter (O3 (R2 c)));have:=jI hv ht hw;omega
 refine ⟨_,_,rfl,rfl,?_⟩;generalize l.filter (O3 (R2 c))=g at *
 generalize sj (dN c) g=r at *
 have Wq:=λst s=>p70 c hs 0 0 st s g r hrl
 have h73:=λst s=>p73 c hs 0 0 st s g V
 have RG:=λst f hf=>p74 st c g r f hf
 have hfl:=λk=>uI c hs.sm.dP g r k
 have hfw:=hs.sm.dP;unfold p7.dP at hfw;refine Pf.go 48 ?_;unfold E4 at ZV p23 ⊢;refine gr ?_;refine tc F XP (λh=>by cases h) (λ_=>?_)
 repeat' (first|refine mN ZV ?_|refine mN p23 ?_|refine Ce (h2:=?_)|refine gx ?_|fail)
 refine Ex.L4 (λq T' H' =>∃i:Nat,i<=O c.j7/\q=O c.j7 - i/\T' =[.any,.any,.ptr 0 0,.any,.any,.ptr 2 0,.func 70 [] [.ptr 0 0,.ptr 2 0],.func 73 [] [.ptr 0 0,.ptr 1 0],.ptr 3 0,.any,.any,.any,.any,.any,.any,.any,.any,.any,.any,.any,.any,.any,.any,.any,.any,.any,.d (x3 cI.enc c.j7),.d (Z (O c.j7)),.d (Z i),.any,.any,.any,.any,.any,.any,.any,.any,.any,.any,.any,.any,.any,.any,.any,.any,.any,.any,.any,.any,.any]/\H' =[.cells (c.enc.map .d),kE g,mT r,mT (V9 0 (N8 c g r 0) (P9 c g r 0) i)]) ?_ (k:=O c.j7) ⟨0,V,V,rfl,rfl⟩;rintro q T' H' ⟨i,hi,rfl,rfl,rfl⟩;refine Ex.seq ?_;refine tl (i:Int) (O c.j7:Int) (λh1=>?_) (λh1=>?_)
 .have g1:i<O c.j7:=V
  have g2:=V1 0 (N8 c g r 0) (P9 c g r 0) i;have g3:=hfl 0;have g4:=λst=>RG st (V9 0 (N8 c g r 0) (P9 c g r 0) i) V 0 i (N8 c g r 0 i)
  have ge:fG (V9 0 (N8 c g r 0) (P9 c g r 0) i) 0 i (N8 c g r 0 i)=V9 0 (N8 c g r 0) (P9 c g r 0) (i+1):=rfl;rw [ge] at g4
  repeat' (first|refine RE (m:=3) (Wq _ _) rfl (fe:=ir ..) (hcl:=I8 (ir ..)) (h2:=?_)|refine c0 (m:=4) (g4 _) rfl (fe:=T8 ..) (hcl:=I8 (T8 ..)) (h2:=?_)|refine gx ?_|fail)
  exact ⟨O c.j7 - (i+1),V,_,_,A6 (j5 rfl) (T8 ..),i+1,V,rfl,rfl,rfl⟩
 obtain rfl:i=O c.j7:=V
 clear h1 hi;have ge:V9 0 (N8 c g r 0) (P9 c g r 0) (O c.j7)=P9 c g r 1:=rfl;rw [ge];refine gr ?_;refine Ex.L4 (λq T' H' =>∃i:Nat,i<=O c.views/\q=O c.views - i/\T' =[.any,.any,.ptr 0 0,.any,.any,.ptr 2 0,.func 70 [] [.ptr 0 0,.ptr 2 0],.func 73 [] [.ptr 0 0,.ptr 1 0],.ptr 3 0,.any,.any,.any,.any,.any,.any,.any,.any,.any,.any,.any,.any,.any,.any,.any,.any,.any,.any,.any,.any,.d (x3 Vw.enc c.views),.d (Z (O c.views)),.d (Z i),.any,.any,.any,.any,.any,.any,.any,.any,.any,.any,.any,.any,.any,.any,.any,.any,.any,.any]/\H' =[.cells (c.enc.map .d),kE g,mT r,mT (V9 1 (N8 c g r 1) (P9 c g r 1) i)]) ?_ (k:=O c.views) ⟨0,V,V,rfl,rfl⟩;rintro q T' H' ⟨i,hi,rfl,rfl,rfl⟩;refine Ex.seq ?_;refine tl (i:Int) (O c.views:Int) (λh1=>?_) (λh1=>?_)
 .have g1:i<O c.views:=V
  have g2:=V1 1 (N8 c g r 1) (P9 c g r 1) i;have g3:=hfl 1;have g4:=λst=>RG st (V9 1 (N8 c g r 1) (P9 c g r 1) i) V 1 i (N8 c g r 1 i)
  have ge:fG (V9 1 (N8 c g r 1) (P9 c g r 1) i) 1 i (N8 c g r 1 i)=V9 1 (N8 c g r 1) (P9 c g r 1) (i+1):=rfl;rw [ge] at g4
  repeat' (first|refine RE (m:=3) (Wq _ _) rfl (fe:=ir ..) (hcl:=I8 (ir ..)) (h2:=?_)|refine c0 (m:=4) (g4 _) rfl (fe:=T8 ..) (hcl:=I8 (T8 ..)) (h2:=?_)|refine gx ?_|fail)
  exact ⟨O c.views - (i+1),V,_,_,A6 (j5 rfl) (T8 ..),i+1,V,rfl,rfl,rfl⟩
 obtain rfl:i=O c.views:=V
 clear h1 hi;have ge:V9 1 (N8 c g r 1) (P9 c g r 1) (O c.views)=P9 c g r 2:=rfl;rw [ge];refine gr ?_;refine Ex.L4 (λq T' H' =>∃i:Nat,i<=O c.idxs/\q=O c.idxs - i/\T' =[.any,.any,.ptr 0 0,.any,.any,.ptr 2 0,.func 70 [] [.ptr 0 0,.ptr 2 0],.func 73 [] [.ptr 0 0,.ptr 1 0],.ptr 3 0,.any,.any,.any,.any,.any,.any,.any,.any,.any,.any,.any,.any,.any,.any,.any,.any,.any,.any,.any,.any,.any,.any,.any,.d (x3 iL.enc c.idxs),.d (Z (O c.idxs)),.d (Z i),.any,.any,.any,.any,.any,.any,.any,.any,.any,.any,.any,.any,.any,.any,.any]/\H' =[.cells (c.enc.map .d),kE g,mT r,mT (V9 2 (N8 c g r 2) (P9 c g r 2) i)]) ?_ (k:=O c.idxs) ⟨0,V,V,rfl,rfl⟩;rintro q T' H' ⟨i,hi,rfl,rfl,rfl⟩;refine Ex.seq ?_;refine tl (i:Int) (O c.idxs:Int) (λh1=>?_) (λh1=>?_)
 .have g1:i<O c.idxs:=V
  have g2:=V1 2 (N8 c g r 2) (P9 c g r 2) i;have g3:=hfl 2;have g4:=λst=>RG st (V9 2 (N8 c g r 2) (P9 c g r 2) i) V 2 i (N8 c g r 2 i)
  have ge:fG (V9 2 (N8 c g r 2) (P9 c g r 2) i) 2 i (N8 c g r 2 i)=V9 2 (N8 c g r 2) (P9 c g r 2) (i+1):=rfl;rw [ge] at g4
  repeat' (first|refine RE (m:=3) (Wq _ _) rfl (fe:=ir ..) (hcl:=I8 (ir ..)) (h2:=?_)|refine c0 (m:=4) (g4 _) rfl (fe:=T8 ..) (hcl:=I8 (T8 ..)) (h2:=?_)|refine gx ?_|fail)
  exact ⟨O c.idxs - (i+1),V,_,_,A6 (j5 rfl) (T8 ..),i+1,V,rfl,rfl,rfl⟩
 obtain rfl:i=O c.idxs:=V
 clear h1 hi;have ge:V9 2 (N8 c g r 2) (P9 c g r 2) (O c.idxs)=P9 c g r 3:=rfl;rw [ge];refine gr ?_;refine Ex.L4 (λq T' H' =>∃i:Nat,i<=O c.F4/\q=O c.F4 - i/\T' =[.any,.any,.ptr 0 0,.any,.any,.ptr 2 0,.func 70 [] [.ptr 0 0,.ptr 2 0],.func 73 [] [.ptr 0 0,.ptr 1 0],.ptr 3 0,.any,.any,.any,.any,.any,.any,.any,.any,.any,.any,.any,.any,.any,.any,.any,.any,.any,.any,.any,.any,.any,.any,.any,.any,.any,.any,.d (x3 iI.enc c.F4),.d (Z (O c.F4)),.d (Z i),.any,.any,.any,.any,.any,.any,.any,.any,.any,.any,.any,.any]/\H' =[.cells (c.enc.map .d),kE g,mT r,mT (V9 3 (N8 c g r 3) (P9 c g r 3) i)]) ?_ (k:=O c.F4) ⟨0,V,V,rfl,rfl⟩;rintro q T' H' ⟨i,hi,rfl,rfl,rfl⟩;refine Ex.seq ?_;refine tl (i:Int) (O c.F4:Int) (λh1=>?_) (λh1=>?_)
 .have g1:i<O c.F4:=V
  have g2:=V1 3 (N8 c g r 3) (P9 c g r 3) i;have g3:=hfl 3;have g4:=λst=>RG st (V9 3 (N8 c g r 3) (P9 c g r 3) i) V 3 i (N8 c g r 3 i)
  have ge:fG (V9 3 (N8 c g r 3) (P9 c g r 3) i) 3 i (N8 c g r 3 i)=V9 3 (N8 c g r 3) (P9 c g r 3) (i+1):=rfl;rw [ge] at g4;have XR:=QE c hs (Y c.F4 i).source;refine gr ?_;refine Ex.region (rg 1 (h:=?_));refine gm ?_;refine yl XR ?_;refine gm ?_
  repeat' (first|refine cl (p75 (M4 c (Y c.F4 i).source,(Y c.F4 i).col) r hrl) ?_|refine c0 (m:=4) (g4 _) rfl (fe:=T8 ..) (hcl:=I8 (T8 ..)) (h2:=?_)|refine gx ?_|fail)
  exact ⟨O c.F4 - (i+1),V,_,_,A6 (j5 rfl) (T8 ..),i+1,V,rfl,rfl,rfl⟩
 obtain rfl:i=O c.F4:=V
 clear h1 hi;have ge:V9 3 (N8 c g r 3) (P9 c g r 3) (O c.F4)=P9 c g r 4:=rfl;rw [ge];refine gr ?_;refine Ex.L4 (λq T' H' =>∃i:Nat,i<=O c.H8/\q=O c.H8 - i/\T' =[.any,.any,.ptr 0 0,.any,.any,.any,.func 70 [] [.ptr 0 0,.ptr 2 0],.func 73 [] [.ptr 0 0,.ptr 1 0],.ptr 3 0,.any,.any,.any,.any,.any,.any,.any,.any,.any,.any,.any,.any,.any,.any,.any,.any,.any,.any,.any,.any,.any,.any,.any,.any,.any,.any,.any,.any,.any,.d (x3 kG.enc c.H8),.d (Z (O c.H8)),.d (Z i),.any,.any,.any,.any,.any,.any,.any,.any,.any]/\H' =[.cells (c.enc.map .d),kE g,mT r,mT (V9 4 (N8 c g r 4) (P9 c g r 4) i)]) ?_ (k:=O c.H8) ⟨0,V,V,rfl,rfl⟩;rintro q T' H' ⟨i,hi,rfl,rfl,rfl⟩;refine Ex.seq ?_;refine tl (i:Int) (O c.H8:Int) (λh1=>?_) (λh1=>?_)
 .have g1:i<O c.H8:=V
  have g2:=V1 4 (N8 c g r 4) (P9 c g r 4) i;have g3:=hfl 4;have g4:=λst=>RG st (V9 4 (N8 c g r 4) (P9 c g r 4) i) V 4 i (N8 c g r 4 i)
  have ge:fG (V9 4 (N8 c g r 4) (P9 c g r 4) i) 4 i (N8 c g r 4 i)=V9 4 (N8 c g r 4) (P9 c g r 4) (i+1):=rfl;rw [ge] at g4
  repeat' (first|refine RE (m:=3) (Wq _ _) rfl (fe:=ir ..) (hcl:=I8 (ir ..)) (h2:=?_)|refine c0 (m:=4) (g4 _) rfl (fe:=T8 ..) (hcl:=I8 (T8 ..)) (h2:=?_)|refine gx ?_|fail)
  exact ⟨O c.H8 - (i+1),V,_,_,A6 (j5 rfl) (T8 ..),i+1,V,rfl,rfl,rfl⟩
 obtain rfl:i=O c.H8:=V
 clear h1 hi;have ge:V9 4 (N8 c g r 4) (P9 c g r 4) (O c.H8)=P9 c g r 5:=rfl;rw [ge];refine gr ?_;refine Ex.L4 (λq T' H' =>∃i:Nat,i<=O c.J5/\q=O c.J5 - i/\T' =[.any,.any,.ptr 0 0,.any,.any,.any,.func 70 [] [.ptr 0 0,.ptr 2 0],.func 73 [] [.ptr 0 0,.ptr 1 0],.ptr 3 0,.any,.any,.any,.any,.any,.any,.any,.any,.any,.any,.any,.any,.any,.any,.any,.any,.any,.any,.any,.any,.any,.any,.any,.any,.any,.any,.any,.any,.any,.any,.any,.any,.d (x3 kA.enc c.J5),.d (Z (O c.J5)),.d (Z i),.any,.any,.any,.any,.any,.any]/\H' =[.cells (c.enc.map .d),kE g,mT r,mT (V9 5 (N8 c g r 5) (P9 c g r 5) i)]) ?_ (k:=O c.J5) ⟨0,V,V,rfl,rfl⟩;rintro q T' H' ⟨i,hi,rfl,rfl,rfl⟩;refine Ex.seq ?_;refine tl (i:Int) (O c.J5:Int) (λh1=>?_) (λh1=>?_)
 .have g1:i<O c.J5:=V
  have g2:=V1 5 (N8 c g r 5) (P9 c g r 5) i;have g3:=hfl 5;have g4:=λst=>RG st (V9 5 (N8 c g r 5) (P9 c g r 5) i) V 5 i (N8 c g r 5 i)
  have ge:fG (V9 5 (N8 c g r 5) (P9 c g r 5) i) 5 i (N8 c g r 5 i)=V9 5 (N8 c g r 5) (P9 c g r 5) (i+1):=rfl;rw [ge] at g4
  repeat' (first|refine RE (m:=3) (Wq _ _) rfl (fe:=ir ..) (hcl:=I8 (ir ..)) (h2:=?_)|refine c0 (m:=4) (g4 _) rfl (fe:=T8 ..) (hcl:=I8 (T8 ..)) (h2:=?_)|refine gx ?_|fail)
  exact ⟨O c.J5 - (i+1),V,_,_,A6 (j5 rfl) (T8 ..),i+1,V,rfl,rfl,rfl⟩
 obtain rfl:i=O c.J5:=V
 clear h1 hi;have ge:V9 5 (N8 c g r 5) (P9 c g r 5) (O c.J5)=P9 c g r 6:=rfl;rw [ge];refine gr ?_;refine Ex.L4 (λq T' H' =>∃i:Nat,i<=O c.J9/\q=O c.J9 - i/\T' =[.any,.any,.ptr 0 0,.any,.any,.any,.any,.func 73 [] [.ptr 0 0,.ptr 1 0],.ptr 3 0,.any,.any,.any,.any,.any,.any,.any,.any,.any,.any,.any,.any,.any,.any,.any,.any,.any,.any,.any,.any,.any,.any,.any,.any,.any,.any,.any,.any,.any,.any,.any,.any,.any,.any,.any,.d (x3 nr.enc c.J9),.d (Z (O c.J9)),.d (Z i),.any,.any,.any]/\H' =[.cells (c.enc.map .d),kE g,mT r,mT (V9 6 (N8 c g r 6) (P9 c g r 6) i)]) ?_ (k:=O c.J9) ⟨0,V,V,rfl,rfl⟩;rintro q T' H' ⟨i,hi,rfl,rfl,rfl⟩;refine Ex.seq ?_;refine tl (i:Int) (O c.J9:Int) (λh1=>?_) (λh1=>?_)
 .have g1:i<O c.J9:=V
  have g2:=V1 6 (N8 c g r 6) (P9 c g r 6) i;have g3:=hfl 6;have g4:=λst=>RG st (V9 6 (N8 c g r 6) (P9 c g r 6) i) V 6 i (N8 c g r 6 i)
  have ge:fG (V9 6 (N8 c g r 6) (P9 c g r 6) i) 6 i (N8 c g r 6 i)=V9 6 (N8 c g r 6) (P9 c g r 6) (i+1):=rfl;rw [ge] at g4
  repeat' (first|refine RE (m:=2) (h73 _ _) rfl (fe:=AH ..) (hcl:=I8 (AH ..)) (h2:=?_)|refine c0 (m:=4) (g4 _) rfl (fe:=T8 ..) (hcl:=I8 (T8 ..)) (h2:=?_)|refine gx ?_|fail)
  exact ⟨O c.J9 - (i+1),V,_,_,A6 (j5 rfl) (T8 ..),i+1,V,rfl,rfl,rfl⟩
 obtain rfl:i=O c.J9:=V
 clear h1 hi;have ge:V9 6 (N8 c g r 6) (P9 c g r 6) (O c.J9)=P9 c g r 7:=rfl;rw [ge];refine gr ?_;refine Ex.L4 (λq T' H' =>∃i:Nat,i<=O c.K6/\q=O c.K6 - i/\T' =[.any,.any,.any,.any,.any,.any,.any,.func 73 [] [.ptr 0 0,.ptr 1 0],.ptr 3 0,.any,.any,.any,.any,.any,.any,.any,.any,.any,.any,.any,.any,.any,.any,.any,.any,.any,.any,.any,.any,.any,.any,.any,.any,.any,.any,.any,.any,.any,.any,.any,.any,.any,.any,.any,.any,.any,.any,.d (x3 nq.enc c.K6),.d (Z (O c.K6)),.d (Z i)]/\H' =[.cells (c.enc.map .d),kE g,mT r,mT (V9 7 (N8 c g r 7) (P9 c g r 7) i)]) ?_ (k:=O c.K6) ⟨0,V,V,rfl,rfl⟩;rintro q T' H' ⟨i,hi,rfl,rfl,rfl⟩;refine Ex.seq ?_;refine tl (i:Int) (O c.K6:Int) (λh1=>?_) (λh1=>?_)
 .have g1:i<O c.K6:=V
  have g2:=V1 7 (N8 c g r 7) (P9 c g r 7) i;have g3:=hfl 7;have g4:=λst=>RG st (V9 7 (N8 c g r 7) (P9 c g r 7) i) V 7 i (N8 c g r 7 i)
  have ge:fG (V9 7 (N8 c g r 7) (P9 c g r 7) i) 7 i (N8 c g r 7 i)=V9 7 (N8 c g r 7) (P9 c g r 7) (i+1):=rfl;rw [ge] at g4
  repeat' (first|refine c1 (m:=2) (p76 _ c hs (Y c.K6 i).tables (o5 (hs.bk i g1) (by decide)) g V) rfl ?_ (fe:=AH ..) (hcl:=I8 (AH ..))|refine c0 (m:=4) (g4 _) rfl (fe:=T8 ..) (hcl:=I8 (T8 ..)) (h2:=?_)|refine gx ?_|fail)
  exact ⟨O c.K6 - (i+1),V,_,_,A6 (j5 rfl) (T8 ..),i+1,V,rfl,rfl,rfl⟩
 obtain rfl:i=O c.K6:=V
 clear h1 hi;have ge:V9 7 (N8 c g r 7) (P9 c g r 7) (O c.K6)=P9 c g r 8:=rfl;rw [ge];refine gr ?_;exact ⟨_,rfl,rfl⟩
end Go.Proofs.YtibjocmpkoepoaaGreat


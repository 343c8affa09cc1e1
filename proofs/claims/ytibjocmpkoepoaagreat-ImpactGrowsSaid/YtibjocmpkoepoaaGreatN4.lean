import Derived.Test.YtibjocmpkoepoaaGreatN1
import Derived.Test.YtibjocmpkoepoaaGreatN2
set_option linter.all false
open Bool renaming and_eq_true→c9,or_eq_false_iff→D5,true→W,false→F
open List renaming append_assoc→K2,getElem_of_mem→L5,map_cons→G4,mem_append→N9,replicate→c8,replicate_succ→O8,set_cons_succ→o6,set_cons_zero→o4,length→O
open Nat renaming le_of_ble_eq_true→j6,le_refl→k9,le_trans→s5,lt_or_ge→A7,mul_le_mul_right→I8,zero_le→s9
open Option renaming some→J,none→K
namespace Go.Proofs.YtibjocmpkoepoaaGreat
open Go.A5 Go.A5.S
attribute [local irreducible] Rx Ry Rn Ex Pf Rl
def zO:x4:= .cells [.own 4 0 [],.own 9 0 [],.own 3 0 [],.own 6 0 [],.own 4 0 [],.own 3 0 [],.own 2 0 [],.own 3 0 []]
section
def jw {xs:List Int}(hx:O xs<=35184372088832){q:Nat}(hq:q<=4 * O xs)(n:Int)(hn:n<=1000000):∃(r:Int) (q' :Nat),q' <=4 * O xs/\0<=r/\(2<=n->r<n)/\(n<2->r=0)/\Pm A 22 [.ptr 1 0,.d (Z n)] [zO,tp xs q] l1 (.d (Z r)) [zO,tp xs q']:=by
 obtain ⟨_,_,⟨r,q',rfl,h1,h2,h3,h4,rfl⟩,p⟩:=ae7 zO xs q n l1 hx hq hn rfl;exact ⟨r,q',h4,h1,h2,h3,p⟩
def TC {c:p9}{ts:List (List W9)}(h:oP c ts){i:Nat}(hi:i<O ts):O (Y ts i)<=64:=(h.t i hi).1
set_option maxHeartbeats 4000000 in
def aH2 {xs:List Int}(hx:O xs<=35184372088832){q:Nat}(hq:q<=4 * O xs)(c:p9)(hs:G8 c)(hv:F1 c=W)(ts:List (List W9))(h:oP c ts)(i k:Nat)(hi:i<O c.j7)(hk:k<O (Y c.j7 i).o7) :
  ∃(v:Vl) (q' :Nat),q' <=4 * O xs/\Pm A 175 [.ptr 1 0,cat c,.d (V6 ts),.agg ((Y (Y c.j7 i).o7 k).enc.map .d)] [zO,tp xs q] l1 (.agg (v.enc.map .d)) [zO,tp xs q']:=by
 have h4:=iG (Y0 ((bW hv).1 i (by have:=V0 c;unfold p9.ns at this;omega)) hi);have ac8:=h4.2.2 _ (H6 hk);have hrf:=Pr hv hi hk;have hn:=h.n;generalize Y (Y c.j7 i).o7 k=x at ac8 hrf;have tP:1<=x.type/\x.type<=2:=by rcases ac8 with e|e<;>omega
 have p1:=ar4 c hs x.refs;obtain ⟨r,q1,hq1,r1,r2,r3,pN⟩:=jw hx hq 8 V;obtain ⟨_,qa,hqa,⟨va,rfl⟩,pa⟩:=as4 (o0:=zO) hx hq1 x.type;obtain ⟨_,qb,hqb,⟨vb,rfl⟩,pb⟩:=bw1 (o0:=zO) hx hq1 x.type;have key:Pq A 175 [.ptr 1 0,cat c,.d (V6 ts),.agg (x.enc.map .d)] [zO,tp xs q] l1 λw H1=>∃(v:Vl) (q' :Nat),q' <=4 * O xs/\w= .agg (v.enc.map .d)/\H1=[zO,tp xs q']:=by
  refine Pq.go (b:=2) 4 ?_;refine gr ?_;refine Ex.test (Rn.text ?_)
  repeat' (first|refine c0 pN rfl (HD:=[.cells (c.enc.map .d),.cells (x.enc.map .d),.cells [.d (Z 0),.d (Z 0),.d (.str [])]]) (h2:=?_)|refine gx ?_|fail)
  refine ⟨_,rfl,λht=>?_,λht=>?_⟩
  .refine gr ?_
   exact ⟨_,_,rfl,⟨0,0,[]⟩,q1,hq1,rfl,rfl⟩
  refine gr ?_
  by_cases hr:O4 x.refs []=F
  .refine tc W trivial (λ_=>?_) (λh=>by cases h)
   obtain ⟨k1,k2⟩:=hrf hr;have hf:(jt c x.refs).toNat<O ts:=V
   have hl:=TC h hf;refine gc p1 ?_;refine tc (x5 (O (Y ts (jt c x.refs).toNat)) 0) trivial (λh1=>?_) (λh1=>?_)
   .refine gr ?_
    exact ⟨_,_,rfl,⟨0,0,[]⟩,q1,hq1,rfl,rfl⟩
   have h1:=ot h1;obtain ⟨j,q2,lJ,j1,j2,j3,pN2⟩:=jw hx hq1 (O (Y ts (jt c x.refs).toNat)) V;have hj:j.toNat<O (Y ts (jt c x.refs).toNat):=V
   have Sh:=(h.row hv hf hj).2.1
   repeat' (first|refine c0 pN2 rfl (HD:=[.cells (c.enc.map .d),.cells (x.enc.map .d),.cells [.d (Z 0),.d (Z 0),.d (.str [])]]) (h2:=?_)|refine gx ?_|fail)
   exact ⟨_,_,rfl,Y (Y (Y ts (jt c x.refs).toNat) j.toNat).row 0,q2,lJ,rfl,rfl⟩
  .have hr:O4 x.refs []=W:=by simpa using hr
   refine tc F trivial (λh=>by cases h) (λh=>?_);refine gr ?_;refine Ex.test (Rn.text ?_);refine gr ?_;refine ⟨_,rfl,λht=>?_,λht=>?_⟩
   .repeat' (first|refine c0 pa rfl (HD:=[.cells (c.enc.map .d),.cells (x.enc.map .d),.cells [.d (Z 0),.d (Z 0),.d (.str [])]]) (h2:=?_)|refine gx ?_|fail)
    exact ⟨_,_,rfl,va,qa,hqa,rfl,rfl⟩
   .repeat' (first|refine c0 pb rfl (HD:=[.cells (c.enc.map .d),.cells (x.enc.map .d),.cells [.d (Z 0),.d (Z 0),.d (.str [])]]) (h2:=?_)|refine gx ?_|fail)
    exact ⟨_,_,rfl,vb,qb,hqb,rfl,rfl⟩
 obtain ⟨_,_,⟨v,q',XU,rfl,rfl⟩,p⟩:=key;exact ⟨v,q',XU,p⟩
end
def aU (x:iN)(r:c7):List c7:=[.d (Z x.op),.d (Z x.seq),.d (Z x.day),.d (Z x.U1),r,.d (Z x.key.k),.d (Z x.key.n),.d (.str x.key.t),.d (Z x.col),.d (Z x.val.k),.d (Z x.val.n),.d (.str x.val.t)]
def z12:List c7:=[.d (Z 0),.d (Z 0),.d (Z 0),.d (Z 0),.own 3 0 [],.d (Z 0),.d (Z 0),.d (.str []),.d (Z 0),.d (Z 0),.d (Z 0),.d (.str [])]
def kinds:List Int:=[1,1,1,2,2,3]
def as9 {n:Nat}(h:n<=1000):roomFor n 32=W:=by
 refine decide_eq_true ?_;exact s5 (I8 _ (show 2 * n+512<=2512 by omega)) (by decide)
def UX {r:Int}(h0:0<=r)(h1:r<6):Y kinds r.toNat=1\/Y kinds r.toNat=2\/Y kinds r.toNat=3:=by
 have:r=0\/r=1\/r=2\/r=3\/r=4\/r=5:=V
 rcases this with rfl|rfl|rfl|rfl|rfl|rfl<;>(rw [F9 (by simp [kinds])];simp [kinds])
section
def HY (xs:List Int)(q:Nat)(X:j9):E6 ([zO,tp xs q]++X) 2 8 2=2:=K6 (by simp [F3])
def be9 {xs:List Int}(hx:O xs<=35184372088832){q:Nat}(hq:q<=4 * O xs)(c:p9)(hn:O c.j7<=1000)(h0:0<O c.j7)(ts:List (List W9))(seq day:Int)(w1 w7 w8 w9 xb Mt:c7)(Q:J6->St->Prop)
  (lJ:∀(op U1:Int) (q' :Nat),(op=1\/op=2\/op=3)->0<=U1->U1<O c.j7->q' <=4 * O xs->Q .normal ⟨[.ptr 1 0,w1,.d (V6 ts),.d (Z seq),.d (Z day),.ptr 2 0,.ptr 3 0,.ptr 4 0,w8,w9,xb,Mt],[zO,tp xs q',.cells (c.enc.map .d),.cells z12,.cells (aU ⟨op,seq,day,U1,[],⟨0,0,[]⟩,0,⟨0,0,[]⟩⟩ (.own 3 0 []))]⟩) :
  Ex A l1 2 (match az6.body with| .seq _ (.seq r _)=>r|c=>c) ⟨[.ptr 1 0,w1,.d (V6 ts),.d (Z seq),.d (Z day),.ptr 2 0,.ptr 3 0,w7,w8,w9,xb,Mt],[zO,tp xs q,.cells (c.enc.map .d),.cells z12]⟩ Q:=by
 obtain ⟨r,q1,hq1,r1,r2,_,pN⟩:=jw hx hq 6 V;obtain ⟨j,q2,hqq,j1,j2,j3,pN2⟩:=jw hx hq1 (O c.j7:Int) V;have hr6:r<6:=r2 V;show Ex A l1 2 (.region _ W) _ _
 refine Ex.region (Rn.DI 4 [zO,tp xs q,.cells (c.enc.map .d),.cells z12,.dead] [.slot 7] rfl rfl rfl ?_);refine yp (rs:=[]) (.own 1 6 [Z 1,Z 1,Z 1,Z 2,Z 2,Z 3]) rfl ?_;refine ym ?_;refine yc [.cells (c.enc.map .d),.cells z12,.dead] [zO,tp xs q1,.cells (c.enc.map .d),.cells z12,.dead] pN rfl (s9 _) (HY _ _ _) rfl U rfl rfl rfl ?_;refine yp _ (Zx (enc:=λn:Int=>[Z n]) (xs:=kinds) (λ_=>rfl) rfl rfl r1 hr6) ?_;refine yp _ (aH8 rfl) ?_;refine ym ?_;refine ym ?_;refine ym ?_;refine yp _ (wO rfl) ?_;refine yp _ (SF (v:= .d (y6 fR.enc c.j7)) rfl rfl rfl) ?_;refine yp _ (aH9 rfl) ?_;refine yc [.cells (c.enc.map .d),.cells z12,.dead] [zO,tp xs q2,.cells (c.enc.map .d),.cells z12,.dead] pN2 rfl (s9 _) (HY _ _ _) rfl U rfl rfl rfl ?_;refine yp (rs:=[]) (.agg (aU ⟨Y kinds r.toNat,seq,day,j,[],⟨0,0,[]⟩,0,⟨0,0,[]⟩⟩ (.own 3 0 []))) rfl ?_;refine yal 5 [.ptr 1 0,w1,.d (V6 ts),.d (Z seq),.d (Z day),.ptr 2 0,.ptr 3 0,.ptr 4 0,w8,w9,xb,Mt] [zO,tp xs q2,.cells (c.enc.map .d),.cells z12,.cells z12] U rfl rfl rfl rfl ?_;refine ys rfl ⟨rfl,rfl⟩ rfl rfl rfl (.inl (s9 _)) rfl ?_;refine yn (lJ _ _ _ (UX r1 hr6) j1 V hqq) ?_;simp [dN,G6,Touch.F7,s8.makes,s8.y7]
set_option maxHeartbeats 8000000 in
def aq4 {xs:List Int}(hx:O xs<=35184372088832){q:Nat}(hq:q<=4 * O xs)(c:p9)(hs:G8 c)(hv:F1 c=W)(h0:0<O c.j7)(ts:List (List W9))(h:oP c ts)(seq day:Int) :
  ∃(x:iN) (q' :Nat),Rv c x/\q' <=4 * O xs/\Pm A 120 [.ptr 1 0,cat c,.d (V6 ts),.d (Z seq),.d (Z day)] [zO,tp xs q] l1 (.agg (x.enc.map .d)) [zO,tp xs q']:=by
 have hn:=h.n;have DC:=hs.sm.iC.1;have key:Pq A 120 [.ptr 1 0,cat c,.d (V6 ts),.d (Z seq),.d (Z day)] [zO,tp xs q] l1 λw H1=>∃(x:iN) (q' :Nat),Rv c x/\q' <=4 * O xs/\w= .agg (x.enc.map .d)/\H1=[zO,tp xs q']:=by
  refine Pq.go (b:=2) 7 ?_;refine Ex.seq ?_;refine gr ?_;refine be9 hx hq c DC h0 ts seq day _ _ _ _ _ _ _ (λop U1 q1 ho t0 t1 hq1=>?_);have ht:U1.toNat<O c.j7:=V
  have hw:=ae4 hv U1.toNat ht;have hcl:=(gV hv ht).1;obtain ⟨t,hT⟩:∃t,Y c.j7 U1.toNat=t:=⟨_,rfl⟩;refine gr ?_;rw [hT];rw [hT] at hw hcl;refine tc (x5 op 1) trivial (λh1=>?_) (λh1=>?_)
  .have ho1:=br h1
   subst ho1;refine Ex.seq ?_;refine gr ?_;refine Ex.S4 (λk T' H' =>∃(j:Nat) (q:Nat) (row:List Vl),j<=O t.o7/\k=O t.o7 - j/\O row=j/\q<=4 * O xs/\T' =[.ptr 1 0,.any,.d (V6 ts),.any,.any,.ptr 2 0,.ptr 3 0,.ptr 4 0,.d (y6 U4.enc t.o7),.d (Z j),.any,.any]/\H' =[zO,tp xs q,.cells (c.enc.map .d),.cells z12,.cells (aU ⟨1,seq,day,U1,[],⟨0,0,[]⟩,0,⟨0,0,[]⟩⟩ (B9 3 Vl.enc row))]) ?_ (k:=O t.o7) ⟨0,q1,[],V,V,rfl,hq1,rfl,rfl⟩;rintro k T' H' ⟨j,q2,row,hj,rfl,hrl,lJ,rfl,rfl⟩;refine Ex.seq ?_;refine tl (j:Int) (O t.o7:Int) (λh2=>?_) (λh2=>?_)
   .have hj2:j<O t.o7:=V
    obtain ⟨v,q3,oK,pv⟩:=aH2 hx lJ c hs hv ts h U1.toNat j ht (by rw [hT];exact hj2);rw [hT] at pv;have hg:=(iG (Y0 ((bW hv).1 U1.toNat (by have:=V0 c;unfold p9.ns at this;omega)) ht)).2.2;rw [hT] at hg;have XR:=hg _ (H6 (show 0<O t.o7 by omega));obtain ⟨_,q4,vW,⟨kv,rfl⟩,pK⟩:=as4 (o0:=zO) hx oK (Y t.o7 0).type;refine Ex.skip ?_;refine Ex.seq ?_;refine Ex.block ?_;refine Ex.seq ?_;generalize hX:x4.cells (aU ⟨1,seq,day,U1,[],⟨0,0,[]⟩,0,⟨0,0,[]⟩⟩ (B9 3 Vl.enc row))=X;refine Ex.region (Rn.DI 5 [zO,tp xs q2,.cells (c.enc.map .d),.cells z12,X,.dead] [.slot 10] rfl rfl rfl ?_);refine ym ?_;refine yp _ (Nu (vs:=c.enc.map .d) rfl rfl rfl) ?_;refine ym ?_;refine ym ?_;refine ym ?_;refine yp _ (Zx (enc:=U4.enc) (λ_=>rfl) rfl rfl (Int.natCast_nonneg j) h2) ?_;refine yp _ (Vq (cs:=(Y t.o7 j).enc) rfl rfl) ?_;refine yc [.cells (c.enc.map .d),.cells z12,X,.dead] [zO,tp xs q3,.cells (c.enc.map .d),.cells z12,X,.dead] pv rfl (s9 _) (HY _ _ _) rfl U rfl rfl rfl ?_;refine yal 6 [.ptr 1 0,.any,.d (V6 ts),.any,.any,.ptr 2 0,.ptr 3 0,.ptr 4 0,.d (y6 U4.enc t.o7),.d (Z j),.ptr 5 0,.any] [zO,tp xs q3,.cells (c.enc.map .d),.cells z12,X,.cells [.d (Z 0),.d (Z 0),.d (.str [])]] U rfl rfl rfl rfl ?_;refine ys (v:= .agg (v.enc.map .d)) (cs:=v.enc.map .d) (H2:=[zO,tp xs q3,.cells (c.enc.map .d),.cells z12,X,.cells (v.enc.map .d)]) rfl ⟨rfl,rfl⟩ rfl rfl rfl (.inl (s9 _)) rfl ?_;refine yn ?_ (by simp [dN,G6,Touch.F7,s8.makes,s8.y7]);subst hX;refine Ex.seq ?_;refine Ex.DO (λst=>∃(u:Vl) (q:Nat),q<=4 * O xs/\st=⟨[.ptr 1 0,.any,.d (V6 ts),.any,.any,.ptr 2 0,.ptr 3 0,.ptr 4 0,.d (y6 U4.enc t.o7),.d (Z j),.ptr 5 0,.any],[zO,tp xs q,.cells (c.enc.map .d),.cells z12,.cells (aU ⟨1,seq,day,U1,[],⟨0,0,[]⟩,0,⟨0,0,[]⟩⟩ (B9 3 Vl.enc row)),.cells (u.enc.map .d)]⟩) ?_ ?_
    .refine te trivial ?_ ?_
     .repeat' (first|refine c0 pK rfl (HD:=[.cells (c.enc.map .d),.cells z12,.cells (aU ⟨1,seq,day,U1,[],⟨0,0,[]⟩,0,⟨0,0,[]⟩⟩ (B9 3 Vl.enc row)),.cells (v.enc.map .d)]) (h2:=?_)|refine gx ?_|fail)
      exact ⟨kv,q4,vW,rfl⟩
     .refine gr ?_
      exact ⟨v,q3,oK,rfl⟩
    .rintro _ ⟨u,q5,Bl,rfl⟩
     repeat' (first|refine oN (enc:=Vl.enc) u ?_|refine acN (enc:=Vl.enc) (xs:=row) u (as9 V) (h2:=?_)|refine Ik (h2:=?_)|refine ad V ?_|refine gx ?_|fail)
     refine ⟨O t.o7 - (j+1),V,_,_,G5 (j6 rfl) (j6 rfl),j+1,q5,row++[u],V,rfl,by simp [hrl],Bl,rfl,rfl⟩
   .refine Ex.exit ?_
    refine Ex.seq ?_;refine Ex.region (Rn.text ?_);refine DE (vs:=aU ⟨1,seq,day,U1,[],⟨0,0,[]⟩,0,⟨0,0,[]⟩⟩ (B9 3 Vl.enc row)) rfl rfl ?_;refine gr ?_;have hjl:O row=O t.o7:=V
    refine ⟨_,_,rfl,⟨1,seq,day,U1,row,⟨0,0,[]⟩,0,⟨0,0,[]⟩⟩,q2,⟨t0,t1,.inl rfl,?_,Int.le_refl _,?_⟩,lJ,rfl,rfl⟩
    .simp only [if_true,hT,hjl]
    .simp only [hT]
     omega
  .have hg:=(iG (Y0 ((bW hv).1 U1.toNat (by have:=V0 c;unfold p9.ns at this;omega)) ht)).2.2
   rw [hT] at hg;have XR:=hg _ (H6 (show 0<O t.o7 by omega));have htn:U1.toNat<O ts:=V
   have hfl:=TC h htn;have ho1:=ot h1;obtain ⟨_,q2,lJ,⟨kv,rfl⟩,pK⟩:=as4 (o0:=zO) hx hq1 (Y t.o7 0).type;refine Ex.skip ?_;refine Ex.seq ?_;refine Ex.region (Rn.text ?_);refine gr ?_;refine c0 pK rfl (HD:=[.cells (c.enc.map .d),.cells z12,.cells (aU ⟨op,seq,day,U1,[],⟨0,0,[]⟩,0,⟨0,0,[]⟩⟩ (.own 3 0 []))]) (h2:=?_);refine gr ?_;refine soy (cs:=kv.enc.map .d) (H2:=[zO,tp xs q2,.cells (c.enc.map .d),.cells z12,.cells (aU ⟨op,seq,day,U1,[],kv,0,⟨0,0,[]⟩⟩ (.own 3 0 []))]) rfl ⟨rfl,rfl⟩ rfl rfl rfl (.inl (s9 _)) rfl ?_;refine gr ?_;refine Ex.DO (λst=>∃(kv:Vl) (q:Nat),q<=4 * O xs/\st=⟨[.ptr 1 0,cat c,.d (V6 ts),.d (Z seq),.d (Z day),.ptr 2 0,.ptr 3 0,.ptr 4 0,.d (y6 U4.enc t.o7),.any,.any,.d (zQ (Y ts U1.toNat))],[zO,tp xs q,.cells (c.enc.map .d),.cells z12,.cells (aU ⟨op,seq,day,U1,[],kv,0,⟨0,0,[]⟩⟩ (.own 3 0 []))]⟩) ?_ ?_
   .obtain ⟨r8,q4,vW,_,_,_,p8⟩:=jw hx lJ 8 V
    refine Ex.test (Rn.text ?_);refine gr ?_;refine fk (h1:=λhw=>?_) (h2:=λhw=>?_)
    .have hl0:=C8 hw
     obtain ⟨j,q5,Bl,j1,j2,j3,pj⟩:=jw hx vW (O (Y ts U1.toNat)) V;have hj:j.toNat<O (Y ts U1.toNat):=V
     have Sh:=(h.row hv htn hj).2.1;refine gr ?_;refine c0 p8 rfl (HD:=[.cells (c.enc.map .d),.cells z12,.cells (aU ⟨op,seq,day,U1,[],kv,0,⟨0,0,[]⟩⟩ (.own 3 0 []))]) (h2:=?_);refine gr ?_;refine ⟨_,rfl,λ_=>?_,λ_=>?_⟩
     .refine gr ?_
      refine c0 pj rfl (HD:=[.cells (c.enc.map .d),.cells z12,.cells (aU ⟨op,seq,day,U1,[],kv,0,⟨0,0,[]⟩⟩ (.own 3 0 []))]) (h2:=?_);refine gr ?_;refine soy (cs:=(Y (Y (Y ts U1.toNat) j.toNat).row 0).enc.map .d) (H2:=[zO,tp xs q5,.cells (c.enc.map .d),.cells z12,.cells (aU ⟨op,seq,day,U1,[],Y (Y (Y ts U1.toNat) j.toNat).row 0,0,⟨0,0,[]⟩⟩ (.own 3 0 []))]) rfl ⟨rfl,rfl⟩ rfl rfl rfl (.inl (s9 _)) rfl ?_;refine gx ?_;exact ⟨_,q5,Bl,rfl⟩
     .refine Ex.skip ?_
      exact ⟨kv,q4,vW,rfl⟩
    .refine gr ?_
     refine ⟨_,rfl,λhf=>?_,λ_=>?_⟩
     .cases hf
     .refine Ex.skip ?_
      exact ⟨kv,q2,lJ,rfl⟩
   rintro _ ⟨key,q3,oK,rfl⟩;refine Ex.seq ?_;refine tc (x5 op 2) trivial (λh2=>?_) (λh2=>?_)
   .obtain ⟨col,q4,vW,k1,k2,k3,pc⟩:=jw hx oK (O t.o7:Int) V
    have YF:col<O t.o7:=V
    obtain ⟨v,q5,Bl,pv⟩:=aH2 hx vW c hs hv ts h U1.toNat col.toNat ht (by rw [hT];omega);rw [hT] at pv;refine Ex.seq ?_;refine Ex.region (Rn.text ?_);refine gr ?_;refine c0 pc rfl (HD:=[.cells (c.enc.map .d),.cells z12,.cells (aU ⟨op,seq,day,U1,[],key,0,⟨0,0,[]⟩⟩ (.own 3 0 []))]) (h2:=?_);refine gx ?_;refine soy (cs:=[.d (Z col)]) (H2:=[zO,tp xs q4,.cells (c.enc.map .d),.cells z12,.cells (aU ⟨op,seq,day,U1,[],key,col,⟨0,0,[]⟩⟩ (.own 3 0 []))]) rfl ⟨rfl,rfl⟩ rfl rfl rfl (.inl (s9 _)) rfl ?_;refine gx ?_;refine Ex.region (Rn.DI 5 [zO,tp xs q4,.cells (c.enc.map .d),.cells z12,.cells (aU ⟨op,seq,day,U1,[],key,col,⟨0,0,[]⟩⟩ (.own 3 0 []))] [] rfl rfl rfl ?_);refine ym ?_;refine yp _ (Nu (vs:=c.enc.map .d) rfl rfl rfl) ?_;refine ym ?_;refine ym ?_;refine yp _ (wO rfl) ?_;refine yp _ (SF (v:= .d (Z col)) rfl rfl rfl) ?_;refine yp _ (Zx (enc:=U4.enc) (λ_=>rfl) rfl rfl k1 YF) ?_;refine yp _ (Vq (cs:=(Y t.o7 col.toNat).enc) rfl rfl) ?_;refine yc [.cells (c.enc.map .d),.cells z12,.cells (aU ⟨op,seq,day,U1,[],key,col,⟨0,0,[]⟩⟩ (.own 3 0 []))] [zO,tp xs q5,.cells (c.enc.map .d),.cells z12,.cells (aU ⟨op,seq,day,U1,[],key,col,⟨0,0,[]⟩⟩ (.own 3 0 []))] pv rfl (s9 _) (HY _ _ _) rfl U rfl rfl rfl ?_;refine yp _ (wO rfl) ?_;refine ys (v:= .agg (v.enc.map .d)) (cs:=v.enc.map .d) (H2:=[zO,tp xs q5,.cells (c.enc.map .d),.cells z12,.cells (aU ⟨op,seq,day,U1,[],key,col,v⟩ (.own 3 0 []))]) rfl ⟨rfl,rfl⟩ rfl rfl rfl (.inl (s9 _)) rfl ?_;refine yn ?_ (by simp [dN,G6,Touch.F7,s8.makes,s8.y7]);refine Ex.seq ?_;refine Ex.region (Rn.text ?_);refine DE (vs:=aU ⟨op,seq,day,U1,[],key,col,v⟩ (.own 3 0 [])) rfl rfl ?_;refine gr ?_;refine ⟨_,_,rfl,⟨op,seq,day,U1,[],key,col,v⟩,q5,⟨t0,t1,ho,?_,k1,?_⟩,Bl,rfl,rfl⟩
    .simp [ho1]
    .simpa only [hT] using YF
   .refine Ex.skip ?_
    refine Ex.seq ?_;refine Ex.region (Rn.text ?_);refine DE (vs:=aU ⟨op,seq,day,U1,[],key,0,⟨0,0,[]⟩⟩ (.own 3 0 [])) rfl rfl ?_;refine gr ?_;refine ⟨_,_,rfl,⟨op,seq,day,U1,[],key,0,⟨0,0,[]⟩⟩,q3,⟨t0,t1,ho,?_,Int.le_refl _,?_⟩,oK,rfl,rfl⟩
    .simp [ho1]
    .simp only [hT]
     omega
 obtain ⟨_,_,⟨x,q',hx',XU,rfl,rfl⟩,p⟩:=key;exact ⟨x,q',hx',XU,p⟩
end
def ZK {n:Nat}(h:n<=1000):roomFor n 128=W:=by
 refine decide_eq_true ?_;exact s5 (I8 _ (show 2 * n+512<=2512 by omega)) (by decide)
section
set_option maxHeartbeats 8000000 in
def p66 {xs:List Int}(hx:O xs<=35184372088832){q:Nat}(hq:q<=4 * O xs)(c:p9)(hs:G8 c)(hv:F1 c=W)(h0:0<O c.j7)(m:Nat)(hm:m<=100) :
  ∃(l:List iN) (q' :Nat),(∀x∈l,Rv c x)/\O l<=m/\q' <=4 * O xs/\Pm A 66 [.ptr 1 0,cat c,.d (Z (m:Int))] [zO,tp xs q] l1 (.d (y6 iN.enc l)) [zO,tp xs q']:=by
 have p1:=aH0 c hs hv;have key:Pq A 66 [.ptr 1 0,cat c,.d (Z (m:Int))] [zO,tp xs q] l1 λw H1=>∃(l:List iN) (q' :Nat),(∀x∈l,Rv c x)/\O l<=m/\q' <=4 * O xs/\w= .d (y6 iN.enc l)/\H1=[zO,tp xs q']:=by
  refine Pq.go (b:=2) 10 ?_;refine gc p1 ?_;refine Ex.S4 (λk T' H' =>∃(i q:Nat) (l:List iN) (ts:List (List W9)) (seq day:Int),i<=2 * m/\k=2 * m - i/\(∀x∈l,Rv c x)/\O l<=m/\q<=4 * O xs/\oP c ts/\0<=seq/\seq<=3 * i/\0<=day/\day<=2 * i /\
   T' =[.ptr 1 0,.any,.d (Z (m:Int)),.ptr 2 0,.any,.d (V6 ts),B9 12 iN.enc l,.d (Z seq),.d (Z day),.d (Z i),.any,.any,.any]/\H' =[zO,tp xs q,.cells (c.enc.map .d)]) ?_ (k:=2 * m) ⟨0,q,[],_,0,0,V,V,U,U,hq,Vg c,V,V,V,V,rfl,rfl⟩
  rintro k T' H' ⟨i,q,l,ts,seq,day,hi,rfl,hl,YK,hq,hts,s0,s1,d0,d1,rfl,rfl⟩;refine Ex.seq ?_;have hmu: -9223372036854775808<=(2:Int) * m/\(2:Int) * m<9223372036854775808:=V
  refine Ex.gw (F0 (i:Int) (2 * m)&&F0 (O l) m) ?_ (λh=>?_) (λh=>?_)
  .refine Rn.text ?_
   repeat' (first|refine mu ?_ hmu|refine ls ?_|refine gx ?_|refine fq (λhw=>?_) λhw=>?_|refine ⟨rfl,rfl,_,rfl,?_⟩|refine ⟨rfl,rfl⟩|fail)
   all_goals first|(simp [*,j4];done)|(simp_all [j4];done)
  .rw [c9] at h
   have hi2:=C8 h.1;have ov:=C8 h.2;obtain ⟨a,q1,hq1,a0,a1,_,pA⟩:=jw hx hq 3 V;obtain ⟨b,q2,lJ,b0,b1,_,pB⟩:=jw hx hq1 3 V;obtain ⟨x,q3,hX,oK,pC⟩:=aq4 hx lJ c hs hv h0 ts hts (seq+(1+a)) (day+b);obtain ⟨w,e,pD,hD⟩:=Nt c hs hv ts hts x hX;have a1:=a1 V;have b1:=b1 V;refine gr ?_;refine c0 pA rfl (HD:=[.cells (c.enc.map .d)]) (h2:=?_);refine gr ?_;refine c0 pB rfl (HD:=[.cells (c.enc.map .d)]) (h2:=?_);refine gr ?_;refine c0 pC rfl (HD:=[.cells (c.enc.map .d)]) (h2:=?_);refine gc pD ?_;refine tc (x5 e 0) trivial (λhe=>?_) (λhe=>?_)
   .have he:=br he
    subst he;rw [hD rfl];have hp:=(Vr c hs hv ts hts x hX).2
    repeat' (first|refine oN (enc:=iN.enc) x ?_|refine gx ?_|fail)
    refine Yg (xs:=l) (ys:=[x]) (hr:=ZK D) (h2:=?_)
    repeat' (first|refine ad V ?_|refine gx ?_|fail)
    refine ⟨2 * m - (i+1),V,_,_,G5 (j6 rfl) (j6 rfl),i+1,q3,l++[x],_,seq+(1+a),day+b,V,rfl,λy hy=>?_,D,oK,hp,V,V,V,V,rfl,rfl⟩
    rcases N9.1 hy with hy|hy
    .exact hl y hy
    .rw [List.mem_singleton.1 hy]
     exact hX
   .repeat' (first|refine ad V ?_|refine gx ?_|fail)
    exact ⟨2 * m - (i+1),V,_,_,G5 (j6 rfl) (j6 rfl),i+1,q3,l,ts,seq+(1+a),day+b,V,rfl,hl,YK,oK,hts,V,V,V,V,rfl,rfl⟩
  .refine gr ?_
   exact ⟨_,_,rfl,l,q,hl,YK,hq,rfl,rfl⟩
 obtain ⟨_,_,⟨l,q',hl,YK,XU,rfl,rfl⟩,p⟩:=key;exact ⟨l,q',hl,YK,XU,p⟩
end
section
def aN4 (xs:List Int)(h:O xs<=17592186043904):Pq A 12 [.d (ints xs)] [zO] R5 λv H1=>v= .ptr 1 0/\H1=[zO,tp xs 0]:=by
 refine Pq.go (b:=1) 1 ?_;have e:ints xs=y6 (λn=>[Z n]) xs:=by simp [ints,y6,List.flatMap_singleton']
 rw [e];refine gr ?_;refine gr ?_;exact ⟨_,_,rfl,rfl,by simp [splice,tp,rq,Ms,lk];exact ⟨rfl,rfl⟩⟩
structure Full (c:p9):Prop where
 val:F1 c=W
 sm:G8 c
 t0:1<=O c.j7
 t1:O c.j7<=3
 vw:O c.views<=3
def Ym {xs:List Int}(hx:O xs<=17592186043904){q:Nat}(hq:q<=4 * O xs):∃(c:p9) (q' :Nat),Full c/\q' <=4 * O xs/\Pm A 65 [.ptr 1 0] [zO,tp xs q] l1 (cat c) [zO,tp xs q']:=by
 obtain ⟨_,q',h,⟨c,rfl,hv,hs,ht⟩,p⟩:=q65 (o0:=zO) V hq;exact ⟨c,q',⟨hv,hs.small (by decide) (by decide) (by decide),ht,hs.tl,hs.vl⟩,h,p⟩
def p28 {xs:List Int}(hx:O xs<=17592186043904):∃(c:p9) (l:List iN) (ts:List (List W9)),Full c/\(∀x∈l,Rv c x)/\O l<=10/\oP c ts/\Pf A 28 [.d (ints xs)] (.tuple [cat c,.d (y6 iN.enc l),.d (V6 ts)]):=by
 obtain ⟨_,_,⟨rfl,rfl⟩,p12⟩:=aN4 xs hx;obtain ⟨c,q,hc,hq,p65⟩:=Ym hx (q:=0) V;obtain ⟨l,q1,hl,YK,hq1,p66⟩:=p66 V hq c hc.sm hc.val (by have:=hc.t0;omega) 10 V;obtain ⟨ts,hts,p67⟩:=p67 c hc.sm hc.val (by have:=hc.t0;omega) l V hl;refine ⟨c,l,ts,hc,hl,YK,hts,?_⟩;refine Pf.gr 6 ?_;refine cp p12 U ?_;refine gr ?_;refine c0 p65 rfl (HD:=[]) (h2:=?_);refine gr ?_;refine c0 p66 rfl (HD:=[.cells (c.enc.map .d)]) (h2:=?_);refine gx ?_;refine gx ?_;refine Ex.seq ?_;refine Ex.region (Rn.DI 3 [zO,tp xs q1,.cells (c.enc.map .d)] [] rfl rfl rfl ?_);refine yp _ (Nu (vs:=c.enc.map .d) rfl rfl rfl) ?_;refine ym ?_;refine yp _ (Nu (vs:=c.enc.map .d) rfl rfl rfl) ?_;refine ym ?_;refine yl p67 ?_;refine ys (v:=cat c) (cs:=c.enc.map .d) (H2:=[.cells (c.enc.map .d),tp xs q1,.cells (c.enc.map .d)]) rfl ⟨rfl,rfl⟩ rfl rfl rfl (.inl (s9 _)) rfl ?_;refine ymT [.d (ints xs),.ptr 0 0,.d (y6 iN.enc l),.own 1 0 [],.ptr 1 0,.ptr 2 0,.d (y6 iN.enc l)] U rfl ?_;refine ymT [.d (ints xs),.ptr 0 0,.d (y6 iN.enc l),.d (V6 ts),.ptr 1 0,.ptr 2 0,.d (y6 iN.enc l)] U rfl ?_;refine yn ?_ (by simp [dN,G6,Touch.F7,s8.makes,s8.y7]);refine gr ?_;exact ⟨_,rfl,rfl⟩
end
end Go.Proofs.YtibjocmpkoepoaaGreat
namespace Go.Proofs.YtibjocmpkoepoaaGreat
open Go.A5 Go.A5.S
attribute [local irreducible] Rx Ry Rn Ex Pf
def bp1 (n:Int)(p:J9):Pf A 127 [.d (Z n),Ka p] (.d (.bool (x5 p.1 n))):=by
 refine Pf.go 2 ?_;unfold Ka;refine gr ?_;exact ⟨_,rfl,by simp [j4]⟩
def bp7 (n:Int)(l:List J9)(hl:O l<=1000000):∃r:Int,(0<=r↔∃q∈l,q.1=n)/\Pf A 185 [.d (R4 l),.func 127 [.d (Z n)] []] (.d (Z r)):=by
 have h1:=Pe.go (A:=A) (f:=185) (args:=[.d (R4 l),.func 127 [.d (Z n)] []]) (P:=λw=>∃r:Int,(0<=r↔∃q∈l,q.1=n)/\w= .d (Z r)) 4 ?_
 .obtain ⟨_,⟨r,h,rfl⟩,hp⟩:=h1
  exact ⟨r,h,hp⟩
 unfold R4;refine gr ?_;refine Ex.M4 (λk T' H' =>∃i:Nat,i<=O l/\k=O l - i/\T' =[.d (y6 V5 l),.func 127 [.d (Z n)] [],.any,.any,.d (Z (O l)),.d (Z i)]/\H' =[]/\∀j,j<i->(Y l j).1≠n) ?_ (k:=O l) ⟨0,V,V,rfl,rfl,λ_ h=>V⟩;rintro k T' H' ⟨i,hi,rfl,rfl,rfl,hb⟩;refine Ex.seq ?_;refine tl (i:Int) (O l:Int) (λh1=>?_) (λh1=>?_)
 .have g1:i<O l:=V
  refine Ex.skip ?_;refine Ex.seq ?_;refine Ex.block ?_;refine gr ?_;have p1:=bp1 n (Y l i);unfold Ka at p1;refine tB (x5 (Y l i).1 n) ?_ (λh5=>?_) (λh5=>?_)
  .repeat' (first|refine ak3 p1 ?_|refine gx ?_|refine fq (λhw=>?_) λhw=>?_|refine ⟨rfl,rfl,_,rfl,?_⟩|refine ⟨rfl,rfl⟩|fail)
   rfl
  .have h5:(Y l i).1=n:=by simpa [o9] using h5
   refine gr ?_;exact ⟨_,rfl,i,⟨λ_=>⟨_,H6 g1,h5⟩,λ_=>V⟩,rfl⟩
  .have h5:(Y l i).1≠n:=by simpa [o9] using h5
   refine gr ?_;refine ⟨O l - (i+1),V,i+1,V,rfl,rfl,rfl,λj hj=>?_⟩
   rcases A7 j i with h2|h2
   .exact hb j h2
   .rwa [show j=i by omega]
 .refine gr ?_
  refine ⟨_,rfl, -1,⟨λh=>V,λ⟨q,h,e⟩=>?_⟩,rfl⟩;obtain ⟨j,hj,rfl⟩:=L5 h;exact absurd ((congrArg Prod.fst (F9 hj)).trans e) (hb j V)
def vX (l:List J9)(n:Int):Bool:=l.any λq=>x5 q.1 n
def zX {l:List J9}{n:Int}:vX l n=W↔∃q∈l,q.1=n:=by simp [vX,o9]
def bp0 (n:Int)(l:List J9)(hl:O l<=1000000):Pf A 126 [.d (R4 l),.func 127 [.d (Z n)] []] (.d (.bool (vX l n))):=by
 obtain ⟨r,h,p1⟩:=bp7 n l hl;refine Pf.go 1 ?_;refine gc p1 ?_;refine ⟨_,rfl,?_⟩;have:aH 0 r=vX l n:=by rw [Bool.eq_iff_iff,zX,<- h,x8];simp
 simp [j4,this]
def p72 (u v:Nat)(n:Int)(l:List J9)(hl:O l<=1000000):Pm A 72 [.d (Z n),.d (R4 l)] [] ⟨u,v,0,0⟩ (.d (.bool (vX l n))) []:=by
 have p1:=bp0 n l hl;have h1:Pq A 72 [.d (Z n),.d (R4 l)] [] ⟨u,v,0,0⟩ λw H=>w= .d (.bool (vX l n))/\H=[]:=by
  refine Pq.go (b:=0) 1 ?_;refine gc p1 ?_;exact ⟨_,_,rfl,by simp [j4],rfl⟩
 obtain ⟨_,_,⟨rfl,rfl⟩,p⟩:=h1;exact p
def Pn (a b:J9):(a.1==b.1&&(a.2==b.2&&W))=decide (a=b):=by
 rw [Bool.eq_iff_iff];simp [Prod.ext_iff]
def bp2 (p:J9)(l:List J9)(hl:O l<=1000000):∃r:Int,(0<=r↔p∈l)/\Pf A 128 [.d (R4 l),Ka p] (.d (Z r)):=by
 have h1:=Pe.go (A:=A) (f:=128) (args:=[.d (R4 l),Ka p]) (P:=λw=>∃r:Int,(0<=r↔p∈l)/\w= .d (Z r)) 5 ?_
 .obtain ⟨_,⟨r,h,rfl⟩,hp⟩:=h1
  exact ⟨r,h,hp⟩
 unfold R4 Ka;refine gr ?_;refine Ex.M4 (λk T' H' =>∃i:Nat,i<=O l/\k=O l - i/\T' =[.d (y6 V5 l),.any,.ptr 0 0,.any,.any,.d (Z (O l)),.d (Z i)]/\H' =[.cells [.d (Z p.1),.d (Z p.2)]]/\∀j,j<i->Y l j≠p) ?_ (k:=O l) ⟨0,V,V,rfl,rfl,λ_ h=>V⟩;rintro k T' H' ⟨i,hi,rfl,rfl,rfl,hb⟩;refine Ex.seq ?_;refine tl (i:Int) (O l:Int) (λh1=>?_) (λh1=>?_)
 .have g1:i<O l:=V
  refine Ex.skip ?_;refine Ex.seq ?_;refine Ex.block ?_;refine gr ?_;refine tB (decide (Y l i=p)) ?_ (λh5=>?_) (λh5=>?_)
  .repeat' (first|refine gx ?_|refine fq (λhw=>?_) λhw=>?_|refine ⟨rfl,rfl,_,rfl,?_⟩|refine ⟨rfl,rfl⟩|fail)
   rw [Pn];simp [eq_comm]
  .have h5:Y l i=p:=by simpa using h5
   refine gr ?_;exact ⟨_,rfl,i,⟨λ_=>h5 ▸ H6 g1,λ_=>V⟩,rfl⟩
  .have h5:Y l i≠p:=by simpa using h5
   refine gr ?_;refine ⟨O l - (i+1),V,i+1,V,rfl,rfl,rfl,λj hj=>?_⟩
   rcases A7 j i with h2|h2
   .exact hb j h2
   .rwa [show j=i by omega]
 .refine gr ?_
  refine ⟨_,rfl, -1,⟨λh=>V,λh=>?_⟩,rfl⟩;obtain ⟨j,hj,e⟩:=L5 h;exact absurd ((F9 hj).trans e) (hb j V)
def p75 (p:J9)(l:List J9)(hl:O l<=1000000):Pf A 75 [.d (R4 l),Ka p] (.d (.bool (decide (p∈l)))):=by
 obtain ⟨r,h,p1⟩:=bp2 p l hl;unfold Ka at *
 refine Pf.go 2 ?_;refine gc p1 ?_;refine ⟨_,rfl,?_⟩;have:aH 0 r=decide (p∈l):=by rw [Bool.eq_iff_iff,decide_eq_true_iff,<- h,x8];simp
 simp [j4,this]
def qS (l:List J9):x4:= .cells [B9 2 V5 l]
def ox (l:List J9):x4:= .cells [.d (R4 l)]
def zZ (l:List J9):(ox l).J4=0:=rfl
def Om (l:List J9):(qS l).J4=0:=rfl
def cN0 (H:j9)(s:Nat):E6 H s 8 0=0:=by simp [E6]
def ar6 {n:Nat}(h:n<=100000):roomFor n 16=W:=by
 refine decide_eq_true ?_;exact s5 (I8 _ (show 2 * n+512<=200512 by omega)) (by decide)
def p70 (c:p9)(hs:G8 c)(u v st:Nat)(s:K0)(g l:List J9)(hl:O l<=1000000):Pm A 70 [.d (.str s),.ptr 0 0,.ptr 2 0] [.cells (c.enc.map .d),ox g,qS l] ⟨u,v,3,st⟩ (.d (.bool (vX l (X6 c s)))) [.cells (c.enc.map .d),ox g,qS l]:=by
 have p71:=Zy c hs s;have p72:=p72 u v (X6 c s) l hl;have h1:Pq A 70 [.d (.str s),.ptr 0 0,.ptr 2 0] [.cells (c.enc.map .d),ox g,qS l] ⟨u,v,3,st⟩ λw H=>w= .d (.bool (vX l (X6 c s)))/\H=[.cells (c.enc.map .d),ox g,qS l]:=by
  refine Pq.go (b:=3) 1 ?_;unfold qS ox R4
  repeat' (first|refine cl (p71) ?_|refine c0 (m:=0) (H0:=[]) p72 rfl (iP:=by simp [F3]) (hcl:=cN0 _ _) (ov:=by simp [B5]) (h2:=?_)|refine gx ?_|fail)
  exact ⟨_,_,rfl,by simp [j4],rfl⟩
 obtain ⟨_,_,⟨rfl,rfl⟩,p⟩:=h1;exact p
def p73 (c:p9)(hs:G8 c)(u v st:Nat)(s:K0)(l:List J9)(hl:O l<=1000000):Pm A 73 [.d (.str s),.ptr 0 0,.ptr 1 0] [.cells (c.enc.map .d),ox l] ⟨u,v,2,st⟩ (.d (.bool (vX l (X6 c s)))) [.cells (c.enc.map .d),ox l]:=by
 have p71:=Zy c hs s;have p72:=p72 u v (X6 c s) l hl;have h1:Pq A 73 [.d (.str s),.ptr 0 0,.ptr 1 0] [.cells (c.enc.map .d),ox l] ⟨u,v,2,st⟩ λw H=>w= .d (.bool (vX l (X6 c s)))/\H=[.cells (c.enc.map .d),ox l]:=by
  refine Pq.go (b:=2) 1 ?_;unfold ox R4
  repeat' (first|refine cl (p71) ?_|refine c0 (m:=0) (H0:=[]) p72 rfl (iP:=by simp [F3]) (hcl:=cN0 _ _) (ov:=by simp [B5]) (h2:=?_)|refine gx ?_|fail)
  exact ⟨_,_,rfl,by simp [j4],rfl⟩
 obtain ⟨_,_,⟨rfl,rfl⟩,p⟩:=h1;exact p
def tU (f:List J9)(k i:Int)(t:Bool):List J9:=if t then f++[(k,i)] else f
def p74 (st:Nat)(c:p9)(g r f:List J9)(hf:O f<=50000)(k i:Int)(t:Bool):Pm A 74 [.ptr 3 0,.d (Z k),.d (Z i),.d (.bool t)] [.cells (c.enc.map .d),ox g,qS r,qS f] ⟨0,0,4,st⟩ (.tuple []) [.cells (c.enc.map .d),ox g,qS r,qS (tU f k i t)]:=by
 have h1:Pq A 74 [.ptr 3 0,.d (Z k),.d (Z i),.d (.bool t)] [.cells (c.enc.map .d),ox g,qS r,qS f] ⟨0,0,4,st⟩ λw H=>w= .tuple []/\H=[.cells (c.enc.map .d),ox g,qS r,qS (tU f k i t)]:=by
  refine Pq.go (b:=4) 0 ?_;refine tB t ?_ (λh=>?_) (λh=>?_)
  .repeat' (first|refine gx ?_|refine fq (λhw=>?_) λhw=>?_|refine ⟨rfl,rfl,_,rfl,?_⟩|refine ⟨rfl,rfl⟩|fail)
   rfl
  .rw [h]
   unfold qS ox R4
   repeat' (first|refine Ea (cs:=(V5 (k,i)).map .d) ?_|refine oN (enc:=V5) (k,i) ?_|refine acN (enc:=V5) (xs:=f) (k,i) (ar6 V) (h2:=?_)|refine Ik (h2:=?_)|refine gx ?_|fail)
   exact ⟨_,_,rfl,rfl,rfl⟩
  .rw [h]
   refine gr ?_;exact ⟨_,_,rfl,rfl,rfl⟩
 obtain ⟨_,_,⟨rfl,rfl⟩,p⟩:=h1;exact p
end Go.Proofs.YtibjocmpkoepoaaGreat
namespace Go.A5.S
def bn8 {A:Prog}{l:J2}{b:Nat}{dr:Bool}{j8 ops:List o3}{T:List c7}{H:j9}{n:Nat}{rl:List c7}{l6:List Touch}{Q:List c7->j9->List c7->Prop}{x:y4}{u:List Nat}{s id sz lo len:Nat}{T2:List c7}
  (hx:rq T n rl x= .s6 id sz lo len:=by rfl) (hs:T[s]?.isSome=W:=by rfl) (hT:T.set s (.d (.int .i64 (len:Int)))=T2:=by simp only [o4,o6]<;>rfl)
  (h2:Ry A l b dr j8 ops T2 H (n+1) (.d (.int .i64 (len:Int))::rl) (.slot s::l6) Q):Ry A l b dr j8 (⟨.len x,J s,K,u⟩::ops) T H n rl l6 Q :=
 Ry.tF (v:= .d (.int .i64 (len:Int))) (rs:=[]) rfl (by simp only [k8,hx,i64]) rfl rfl hs (by rw [hT];exact h2)
end Go.A5.S
namespace Go.Proofs.YtibjocmpkoepoaaGreat
open Go.A5 Go.A5.S
attribute [local irreducible] Rx Ry Rn Ex Pf
def wz (c:p9)(i:Nat):List Int:=NU c i++c8 (p9.ns c - i) 0
def au8 {c:p9}{i:Nat}(h:i<=p9.ns c):O (wz c i)=p9.ns c:=by
 have:=mT c i;simp [wz];omega
def au9 {c:p9}{i:Nat}(h:i<p9.ns c):(wz c i).set i (O (T6 c i):Int)=wz c (i+1):=by
 have e:=mT c i;obtain ⟨m,hm⟩:∃m,p9.ns c - i=m+1:=⟨p9.ns c - i - 1,V⟩;have h2:p9.ns c - (i+1)=m:=V
 simp only [wz,hm,h2,O8,NU,K2];rw [List.set_append_right _ _ V,e,Nat.sub_self];rfl
def au7 (c:p9):wz c (p9.ns c)=cT c:=by simp [wz,cT]
def aa2 (c:p9):(wz c 0).map iv=(c8 (p9.ns c) [iv 0]).flatten:=by
 have:∀n,(c8 n (0:Int)).map iv=(c8 n [iv 0]).flatten:=λn=>by
  induction n with
  |zero=>rfl
  |succ n ih=>simp only [O8,G4,List.flatten_cons,ih];rfl
 exact this _
def Yl (ws:List Int):(x4.cells (ws.map iv)).J4=0:=by simp [x4.J4,GK]
def ME (c:p9)(ws:List Int)(r:j9):F3 (([x4.cells (c.enc.map .d),.cells (ws.map iv)]++r).take 2)<=2:=by simp [F3,nC,Yl]
def toN {i:Int}{n:Nat}(h1:aH 0 i=W)(h2:F0 i n=W):i.toNat<n:=by
 have:=kM h1;have:=C8 h2;omega
def Zl (w:List Int)(i:Nat):w[i]?.getD 0=Y w i:=by simp [Y]
set_option maxHeartbeats 4000000 in
def p69 (c:p9)(hs:G8 c)(hv:F1 c=W)(hn:p9.ns c<=1000)(g:List J9)(hg:O g<=1000):Pf A 69 [cat c,.d (R4 g)] (.d (R4 (g.filter (aM (cT c))))):=by
 have eD:p9.ns c=O c.j7+O c.views:=rfl;obtain ⟨f0,f1,_⟩:=id hs.sm.iC;refine Pf.go 11 ?_;have hm:uB 1 [iv 0] (.d (Z (O c.j7+O c.views))) (.d (Z (O c.j7+O c.views)))=J (p9.ns c):=by
  simp only [uB,Z];rw [if_pos ⟨trivial,V,V,by decide,rfl⟩]
  congr 1
 have hH:[x4.cells (c.enc.map .d)]++[.cells (c8 (p9.ns c) [iv 0]).flatten]=[.cells (c.enc.map .d),.cells ((wz c 0).map iv)]:=by rw [aa2];rfl
 unfold R4
 repeat' (first|refine mks hm hH (h2:=?_)|refine bn8 (h2:=?_)|refine gx ?_|fail)
 refine Ex.S4 (λq T' H' =>∃(i:Nat),i<=p9.ns c/\q=p9.ns c - i/\T' =[.any,.d (y6 V5 g),.ptr 0 0,.any,.s6 1 1 0 (p9.ns c),.any,.any,.any,.d (Z (p9.ns c)),.d (Z i),.any,.any,.any]/\H' =[.cells (c.enc.map .d),.cells ((wz c i).map iv)]) ?_ (k:=p9.ns c) ⟨0,V,V,rfl,rfl⟩;rintro q T' H' ⟨i,hi,rfl,rfl,rfl⟩;refine Ex.seq ?_;refine tl (i:Int) (p9.ns c:Int) (λh1=>?_) (λh1=>?_)
 .have g1:i<p9.ns c:=V
  have hi:bG c (i:Int)=W:=by
   unfold bG;rw [hv];simp [x8,A1];omega
  have p1:=Vy c hs (i:Int) hi;rw [Int.toNat_natCast] at p1;have hw:wr [.cells (c.enc.map .d),.cells ((wz c i).map iv)] 1 (0+i * 1) [.d (Z (O (T6 c i)))]=J [.cells (c.enc.map .d),.cells ((wz c (i+1)).map iv)]:=by
   rw [<- au9 g1];exact aP5 rfl (by rw [au8 V];exact g1)
  repeat' (first|refine cl (p1) ?_|refine XV (e:=(i:Int)) ⟨V,V⟩ ?_|refine sox hw (h2:=?_)|refine gx ?_|fail)
  exact ⟨p9.ns c - (i+1),V,_,_,G5 (j6 rfl) (ME ..),i+1,V,rfl,rfl,rfl⟩
 .obtain rfl:i=p9.ns c:=V
  rw [au7];have Mq:O (cT c)=p9.ns c:=mT c _;obtain ⟨w,hwe⟩:∃w,cT c=w:=⟨_,rfl⟩;rw [hwe] at Mq ⊢;rw [<- Mq];refine gr ?_;refine Ex.S4 (λq T' H' =>∃(i:Nat),i<=O g/\q=O g - i/\T' =[.any,.any,.any,.any,.s6 1 1 0 (O w),.any,B9 2 V5 ((g.take i).filter (aM w)),.any,.any,.any,.d (y6 V5 g),.d (Z (O g)),.d (Z i)]/\H' =[.cells (c.enc.map .d),.cells (w.map iv)]) ?_ (k:=O g) ⟨0,V,V,rfl,rfl⟩;rintro q T' H' ⟨i,hi,rfl,rfl,rfl⟩;refine Ex.seq ?_;refine tl (i:Int) (O g:Int) (λh2=>?_) (λh2=>?_)
  .have g1:i<O g:=V
   have e1:(g.take (i+1)).filter (aM w)=(g.take i).filter (aM w)++(if aM w (Y g i) then [Y g i] else []):=by
    rw [H8 V,List.filter_append]
    congr 1
    simp only [List.filter_cons,List.filter_nil]
   have e2:O ((g.take i).filter (aM w))<=1000:=s5 (List.length_filter_le _ _) D;obtain ⟨acc,hacc⟩:∃acc,(g.take i).filter (aM w)=acc:=⟨_,rfl⟩;obtain ⟨p,hp⟩:∃p,Y g i=p:=⟨_,rfl⟩;rw [hacc,hp] at e1;rw [hacc] at e2 ⊢;refine Ex.skip ?_;refine Ex.seq ?_;refine Ex.block ?_;refine gr ?_;rw [hp];refine tB (aM w p) ?_ (λh3=>?_) (λh3=>?_)
   .have r1:aH 0 p.1=W->F0 p.1 (O w)=W->rd [.cells (c.enc.map .d),.cells (w.map iv),.cells ((V5 p).map .d)] 1 (0+p.1.toNat * 1) 1=J [iv (Y w p.1.toNat)]:=λh1 h2=>by
     rw [aN8 rfl (toN h1 h2),Zl];rfl
    repeat' (first|refine lnS ?_|refine XV (e:=p.1) ⟨kM (by assumption),C8 (by assumption)⟩ ?_|refine XX (r1 (by assumption) (by assumption)) rfl ?_|refine gx ?_|refine fq (λhw=>?_) λhw=>?_|refine ⟨rfl,rfl,_,rfl,?_⟩|refine ⟨rfl,rfl⟩|fail)
    all_goals simp_all [aM]
   .repeat' (first|refine oN (enc:=V5) p ?_|refine Yg (ys:=[p]) (h2:=?_)|refine gx ?_|fail)
    exact ⟨O g - (i+1),V,_,_,G5 (j6 rfl) (ME ..),i+1,V,rfl,by rw [e1,h3];rfl,rfl⟩
   .refine gr ?_
    exact ⟨O g - (i+1),V,_,_,G5 (j6 rfl) (ME ..),i+1,V,rfl,by rw [e1,h3];simp;rfl,rfl⟩
  .obtain rfl:i=O g:=V
   rw [List.take_length];refine gr ?_;exact ⟨_,rfl,rfl⟩
theorem oU:∀(H:j9) (s:Nat),F3 (H.drop s)<=F3 H
 |[],s=>U
 |a::H,0=>U
 |a::H,s+1=>by
  have:=oU H s;simp only [List.drop_succ_cons,F3];omega
def GJ (st:Nat)(c:p9)(l:List J9):F3 ((List.take 2 [.cells (c.enc.map .d),ox l]).drop st)<=2:=s5 (oU _ _) (by simp [F3,nC,zZ])
def bp3 (st:Nat)(c:p9)(hs:G8 c)(ss:List K0)(hn:O ss<=1000000)(l:List J9)(hl:O l<=1000000):∃r:Int,(0<=r↔∃s∈ss,vX l (X6 c s)=W) /\
  Pm A 129 [.d (y6 encS ss),.func 73 [] [.ptr 0 0,.ptr 1 0]] [.cells (c.enc.map .d),ox l] ⟨0,2,2,st⟩ (.d (Z r)) [.cells (c.enc.map .d),ox l]:=by
 have h1:Pq A 129 [.d (y6 encS ss),.func 73 [] [.ptr 0 0,.ptr 1 0]] [.cells (c.enc.map .d),ox l] ⟨0,2,2,st⟩ λw H=>∃r:Int,(0<=r↔∃s∈ss,vX l (X6 c s)=W)/\w= .d (Z r)/\H=[.cells (c.enc.map .d),ox l]:=by
  refine Pq.go (b:=2) 4 ?_;refine gr ?_;refine Ex.M4 (λk T' H' =>∃i:Nat,i<=O ss/\k=O ss - i/\T' =[.d (y6 encS ss),.func 73 [] [.ptr 0 0,.ptr 1 0],.any,.any,.d (Z (O ss)),.d (Z i)]/\H' =[.cells (c.enc.map .d),ox l]/\∀j,j<i->vX l (X6 c (Y ss j))=F) ?_ (k:=O ss) ⟨0,V,V,rfl,rfl,λ_ h=>V⟩;rintro k T' H' ⟨i,hi,rfl,rfl,rfl,hb⟩;refine Ex.seq ?_;refine tl (i:Int) (O ss:Int) (λh1=>?_) (λh1=>?_)
  .have g1:i<O ss:=V
   have p1:=λst=>p73 c hs 0 2 st (Y ss i) l hl
   refine Ex.skip ?_;refine Ex.seq ?_;refine Ex.block ?_;refine gr ?_;refine tB (vX l (X6 c (Y ss i))) ?_ (λh5=>?_) (λh5=>?_)
   .repeat' (first|refine cv0 (m:=2) (p1 _) rfl (iP:=GJ _ c l) (hcl:=K6 (GJ _ c l)) (h2:=?_)|refine gx ?_|refine fq (λhw=>?_) λhw=>?_|refine ⟨rfl,rfl,_,rfl,?_⟩|refine ⟨rfl,rfl⟩|fail)
    rfl
   .refine gr ?_
    exact ⟨_,_,rfl,i,⟨λ_=>⟨_,H6 g1,h5⟩,λ_=>V⟩,rfl,rfl⟩
   .refine gr ?_
    refine ⟨O ss - (i+1),V,i+1,V,rfl,rfl,rfl,λj hj=>?_⟩
    rcases A7 j i with h2|h2
    .exact hb j h2
    .rwa [show j=i by omega]
  .refine gr ?_
   refine ⟨_,_,rfl, -1,⟨λh=>V,λ⟨q,h,e⟩=>?_⟩,rfl,rfl⟩;obtain ⟨j,hj,rfl⟩:=L5 h;rw [<- F9 hj,hb j V] at e;cases e
 obtain ⟨_,_,⟨r,h,rfl,rfl⟩,p⟩:=h1;exact ⟨r,h,p⟩
def p76 (st:Nat)(c:p9)(hs:G8 c)(ss:List K0)(hn:O ss<=1000000)(l:List J9)(hl:O l<=1000000) :
  Pm A 76 [.d (y6 encS ss),.func 73 [] [.ptr 0 0,.ptr 1 0]] [.cells (c.enc.map .d),ox l] ⟨0,2,2,st⟩ (.d (.bool (ss.any λs=>vX l (X6 c s)))) [.cells (c.enc.map .d),ox l]:=by
 obtain ⟨r,h,p1⟩:=bp3 (B5 [.cells (c.enc.map .d),ox l] st 2) c hs ss hn l hl;have h1:Pq A 76 [.d (y6 encS ss),.func 73 [] [.ptr 0 0,.ptr 1 0]] [.cells (c.enc.map .d),ox l] ⟨0,2,2,st⟩ λw H=>w= .d (.bool (ss.any λs=>vX l (X6 c s)))/\H=[.cells (c.enc.map .d),ox l]:=by
  refine Pq.go (b:=2) 1 ?_
  repeat' (first|refine c1 p1 rfl ?_ (iP:=GJ _ c l) (hcl:=K6 (GJ _ c l))|refine gx ?_|fail)
  refine ⟨_,_,rfl,?_,rfl⟩;have:aH 0 r=ss.any λs=>vX l (X6 c s):=by rw [Bool.eq_iff_iff,List.any_eq_true,<- h,x8];simp
  simp [j4,this]
 obtain ⟨_,_,⟨rfl,rfl⟩,p⟩:=h1;exact p
def p30 (l:List J9)(p:J9)(hl:O l<=100000):Pf A 30 [.d (R4 l),Ka p] (.d (.bool (decide (p∈l)))):=by
 refine Pf.go 3 ?_;unfold Ka R4;refine gr ?_;refine Ex.M4 (λk T' H' =>∃i:Nat,i<=O l/\k=O l - i/\T' =[.d (R4 l),.any,.ptr 0 0,.any,.d (Z i)]/\H' =[.cells [.d (Z p.1),.d (Z p.2)]]/\∀j,j<i->Y l j≠p) ?_ (k:=O l) ⟨0,V,V,rfl,rfl,λ_ h=>V⟩;rintro k T' H' ⟨i,hi,rfl,rfl,rfl,hb⟩;refine Ex.seq ?_;unfold R4;refine tl (i:Int) (O l:Int) (λh1=>?_) (λh1=>?_)
 .have g1:i<O l:=V
  refine Ex.skip ?_;refine Ex.seq ?_;refine Ex.block ?_;refine tB (decide (Y l i=p)) ?_ (λh5=>?_) (λh5=>?_)
  .repeat' (first|refine gx ?_|refine fq (λhw=>?_) λhw=>?_|refine ⟨rfl,rfl,_,rfl,?_⟩|refine ⟨rfl,rfl⟩|fail)
   rw [Pn];simp
  .have h5:Y l i=p:=by simpa using h5
   have:p∈l:=h5 ▸ H6 g1;refine gr ?_;exact ⟨_,rfl,by simp [this,j4]⟩
  .have h5:Y l i≠p:=by simpa using h5
   refine gr ?_;refine ⟨O l - (i+1),V,i+1,V,rfl,rfl,rfl,λj hj=>?_⟩
   rcases A7 j i with h2|h2
   .exact hb j h2
   .rwa [show j=i by omega]
 .have:p∉l:=λh=>by
   obtain ⟨j,hj,e⟩:=L5 h;exact hb j V ((F9 hj).trans e)
  refine gr ?_;exact ⟨_,rfl,by simp [this,j4]⟩
def jy (k:Int)(P:Nat->Bool)(f:List J9):Nat->List J9
 |0=>f
 |i+1=>tU (jy k P f i) k i (P i)
theorem iq (k:Int)(P:Nat->Bool)(f:List J9):∀i,O (jy k P f i)<=O f+i
 |0=>k9 _
 |i+1=>by
  have:=iq k P f i;unfold jy tU;split
  .simp;omega
  .omega
theorem Pb {k:Int}{P:Nat->Bool}{f:List J9}{p:J9}:∀{n},p∈jy k P f n↔p∈f\/∃i:Nat,i<n/\P i=W/\p=(k,(i:Int))
 |0=>by simp [jy]
 |n+1=>by
  have ih:=Pb (k:=k) (P:=P) (f:=f) (p:=p) (n:=n);have e:p∈jy k P f (n+1)↔p∈jy k P f n\/P n=W/\p=(k,(n:Int)):=by
   show p∈tU (jy k P f n) k n (P n)↔_
   unfold tU;cases P n<;>simp
  rw [e,ih,or_assoc];refine or_congr Iff.rfl ⟨?_,?_⟩
  .rintro (⟨i,h1,h2⟩|h)
   .exact ⟨i,V,h2⟩
   .exact ⟨n,V,h⟩
  .rintro ⟨i,h1,h2⟩
   by_cases h:i=n
   .subst h
    exact .inr h2
   .exact .inl ⟨i,V,h2⟩
def cL (c:p9)(g r:List J9)(k i:Nat):Bool :=
 if k=0 then vX r (X6 c (Y c.j7 i).name) else if k=1 then vX r (X6 c (Y c.views i).name) else if k=2 then vX r (X6 c (Y c.idxs i).source)
 else if k=3 then decide ((X6 c (Y c.J7 i).source,(Y c.J7 i).col)∈r) else if k=4 then vX r (X6 c (Y c.L0 i).source) else if k=5 then vX r (X6 c (Y c.M7 i).source)
 else if k=6 then vX g (X6 c (Y c.O0 i).table) else (Y c.Q3 i).tables.any λs=>vX g (X6 c s)
def Vm (c:p9)(k:Nat):Nat:=if k=0 then O c.j7 else if k=1 then O c.views else if k=2 then O c.idxs else if k=3 then O c.J7 else if k=4 then O c.L0 else if k=5 then O c.M7 else if k=6 then O c.O0 else O c.Q3
def dc (c:p9)(g r:List J9):Nat->List J9
 |0=>[]
 |k+1=>jy k (cL c g r k) (dc c g r k) (Vm c k)
theorem uo (c:p9)(h:c.iC)(g r:List J9):∀k,O (dc c g r k)<=1000 * k
 |0=>k9 _
 |k+1=>by
  have h1:=uo c h g r k;have h2:=iq k (cL c g r k) (dc c g r k) (Vm c k);have h3:Vm c k<=1000:=by
   unfold Vm;obtain ⟨_,_,_,_,_,_,_,_⟩:=h
   (repeat' split)<;>omega
  unfold dc;omega
theorem Ae {c:p9}{g r:List J9}{p:J9}:∀{k},p∈dc c g r k↔∃j i:Nat,j<k/\i<Vm c j/\cL c g r j i=W/\p=((j:Int),(i:Int))
 |0=>by simp [dc]
 |k+1=>by
  rw [dc,Pb,Ae];constructor
  .rintro (⟨j,i,h1,h2⟩|⟨i,h⟩)
   .exact ⟨j,i,V,h2⟩
   .exact ⟨k,i,V,h⟩
  .rintro ⟨j,i,h1,h2⟩
   by_cases h:j=k
   .subst h
    exact .inr ⟨i,h2⟩
   .exact .inl ⟨j,i,V,h2⟩
def GI (st:Nat)(c:p9)(g:List J9)(X:j9):F3 ((List.take 2 (.cells (c.enc.map .d)::ox g::X)).drop st)<=2:=s5 (oU _ _) (by simp [F3,nC,zZ])
def lF (st:Nat)(c:p9)(g r:List J9)(X:j9):F3 ((List.take 3 (.cells (c.enc.map .d)::ox g::qS r::X)).drop st)<=3:=s5 (oU _ _) (by simp [F3,nC,zZ,Om])
def Z3 (st:Nat)(c:p9)(g r f:List J9)(X:j9):F3 ((List.take 4 (.cells (c.enc.map .d)::ox g::qS r::qS f::X)).drop st)<=4:=s5 (oU _ _) (by simp [F3,nC,zZ,Om])
set_option maxHeartbeats 16000000 in
def p29 (c:p9)(hs:G8 c)(hv:F1 c=W)(ht:O c.j7<=8)(hw:O c.views<=12)(l:List J9)(hl:O l<=1000) :
  ∃g r,g=l.filter (aM (cT c))/\r=rG (rE c) g/\Pf A 29 [cat c,.d (R4 l)] (.d (R4 (dc c g r 8))):=by
 have eD:p9.ns c=O c.j7+O c.views:=rfl;have p46:=ar3 c hs;rw [hv] at p46;have p69:=p69 c hs hv V l hl;have ff:∀x:J9,aM (cT c) x=W->aM (cT c) x=W:=λ_ h=>h
 have hgl:O (l.filter (aM (cT c)))<=1000:=s5 (List.length_filter_le _ _) hl;have p23:=bn2 c hs hv ht hw (l.filter (aM (cT c))) V;rw [List.filter_filter,show (λa=>aM (cT c) a&&aM (cT c) a)=aM (cT c) from funext λ_=>Bool.and_self _] at p23;have hrl:O (rG (rE c) (l.filter (aM (cT c))))<=1000000:=by
  rw [rG,wV];have:=Kj (rE c) (l.filter (aM (cT c)));have:=AS hv ht hw;omega
 refine ⟨_,_,rfl,rfl,?_⟩;generalize l.filter (aM (cT c))=g at *
 generalize rG (rE c) g=r at *
 have h70:=λst s=>p70 c hs 0 0 st s g r hrl
 have h73:=λst s=>p73 c hs 0 0 st s g V
 have h74:=λst f hf=>p74 st c g r f hf
 have hfl:=λk=>uo c hs.sm.iC g r k
 have hfw:=hs.sm.iC;unfold p9.iC at hfw;refine Pf.go 48 ?_;unfold R4 at p69 p23 ⊢;refine gr ?_;refine tc F p46 (λh=>by cases h) (λ_=>?_)
 repeat' (first|refine sO p69 ?_|refine sO p23 ?_|refine Ik (h2:=?_)|refine gx ?_|fail)
 refine Ex.S4 (λq T' H' =>∃i:Nat,i<=O c.j7/\q=O c.j7 - i/\T' =[.any,.any,.ptr 0 0,.any,.any,.ptr 2 0,.func 70 [] [.ptr 0 0,.ptr 2 0],.func 73 [] [.ptr 0 0,.ptr 1 0],.ptr 3 0,.any,.any,.any,.any,.any,.any,.any,.any,.any,.any,.any,.any,.any,.any,.any,.any,.any,.d (y6 fR.enc c.j7),.d (Z (O c.j7)),.d (Z i),.any,.any,.any,.any,.any,.any,.any,.any,.any,.any,.any,.any,.any,.any,.any,.any,.any,.any,.any,.any,.any]/\H' =[.cells (c.enc.map .d),ox g,qS r,qS (jy 0 (cL c g r 0) (dc c g r 0) i)]) ?_ (k:=O c.j7) ⟨0,V,V,rfl,rfl⟩;rintro q T' H' ⟨i,hi,rfl,rfl,rfl⟩;refine Ex.seq ?_;refine tl (i:Int) (O c.j7:Int) (λh1=>?_) (λh1=>?_)
 .have g1:i<O c.j7:=V
  have g2:=iq 0 (cL c g r 0) (dc c g r 0) i;have g3:=hfl 0;have g4:=λst=>h74 st (jy 0 (cL c g r 0) (dc c g r 0) i) V 0 i (cL c g r 0 i)
  have ge:tU (jy 0 (cL c g r 0) (dc c g r 0) i) 0 i (cL c g r 0 i)=jy 0 (cL c g r 0) (dc c g r 0) (i+1):=rfl;rw [ge] at g4
  repeat' (first|refine cv0 (m:=3) (h70 _ _) rfl (iP:=lF ..) (hcl:=K6 (lF ..)) (h2:=?_)|refine c0 (m:=4) (g4 _) rfl (iP:=Z3 ..) (hcl:=K6 (Z3 ..)) (h2:=?_)|refine gx ?_|fail)
  exact ⟨O c.j7 - (i+1),V,_,_,G5 (j6 rfl) (Z3 ..),i+1,V,rfl,rfl,rfl⟩
 obtain rfl:i=O c.j7:=V
 clear h1 hi;have ge:jy 0 (cL c g r 0) (dc c g r 0) (O c.j7)=dc c g r 1:=rfl;rw [ge];refine gr ?_;refine Ex.S4 (λq T' H' =>∃i:Nat,i<=O c.views/\q=O c.views - i/\T' =[.any,.any,.ptr 0 0,.any,.any,.ptr 2 0,.func 70 [] [.ptr 0 0,.ptr 2 0],.func 73 [] [.ptr 0 0,.ptr 1 0],.ptr 3 0,.any,.any,.any,.any,.any,.any,.any,.any,.any,.any,.any,.any,.any,.any,.any,.any,.any,.any,.any,.any,.d (y6 Vw.enc c.views),.d (Z (O c.views)),.d (Z i),.any,.any,.any,.any,.any,.any,.any,.any,.any,.any,.any,.any,.any,.any,.any,.any,.any,.any]/\H' =[.cells (c.enc.map .d),ox g,qS r,qS (jy 1 (cL c g r 1) (dc c g r 1) i)]) ?_ (k:=O c.views) ⟨0,V,V,rfl,rfl⟩;rintro q T' H' ⟨i,hi,rfl,rfl,rfl⟩;refine Ex.seq ?_;refine tl (i:Int) (O c.views:Int) (λh1=>?_) (λh1=>?_)
 .have g1:i<O c.views:=V
  have g2:=iq 1 (cL c g r 1) (dc c g r 1) i;have g3:=hfl 1;have g4:=λst=>h74 st (jy 1 (cL c g r 1) (dc c g r 1) i) V 1 i (cL c g r 1 i)
  have ge:tU (jy 1 (cL c g r 1) (dc c g r 1) i) 1 i (cL c g r 1 i)=jy 1 (cL c g r 1) (dc c g r 1) (i+1):=rfl;rw [ge] at g4
  repeat' (first|refine cv0 (m:=3) (h70 _ _) rfl (iP:=lF ..) (hcl:=K6 (lF ..)) (h2:=?_)|refine c0 (m:=4) (g4 _) rfl (iP:=Z3 ..) (hcl:=K6 (Z3 ..)) (h2:=?_)|refine gx ?_|fail)
  exact ⟨O c.views - (i+1),V,_,_,G5 (j6 rfl) (Z3 ..),i+1,V,rfl,rfl,rfl⟩
 obtain rfl:i=O c.views:=V
 clear h1 hi;have ge:jy 1 (cL c g r 1) (dc c g r 1) (O c.views)=dc c g r 2:=rfl;rw [ge];refine gr ?_;refine Ex.S4 (λq T' H' =>∃i:Nat,i<=O c.idxs/\q=O c.idxs - i/\T' =[.any,.any,.ptr 0 0,.any,.any,.ptr 2 0,.func 70 [] [.ptr 0 0,.ptr 2 0],.func 73 [] [.ptr 0 0,.ptr 1 0],.ptr 3 0,.any,.any,.any,.any,.any,.any,.any,.any,.any,.any,.any,.any,.any,.any,.any,.any,.any,.any,.any,.any,.any,.any,.any,.d (y6 mg.enc c.idxs),.d (Z (O c.idxs)),.d (Z i),.any,.any,.any,.any,.any,.any,.any,.any,.any,.any,.any,.any,.any,.any,.any]/\H' =[.cells (c.enc.map .d),ox g,qS r,qS (jy 2 (cL c g r 2) (dc c g r 2) i)]) ?_ (k:=O c.idxs) ⟨0,V,V,rfl,rfl⟩;rintro q T' H' ⟨i,hi,rfl,rfl,rfl⟩;refine Ex.seq ?_;refine tl (i:Int) (O c.idxs:Int) (λh1=>?_) (λh1=>?_)
 .have g1:i<O c.idxs:=V
  have g2:=iq 2 (cL c g r 2) (dc c g r 2) i;have g3:=hfl 2;have g4:=λst=>h74 st (jy 2 (cL c g r 2) (dc c g r 2) i) V 2 i (cL c g r 2 i)
  have ge:tU (jy 2 (cL c g r 2) (dc c g r 2) i) 2 i (cL c g r 2 i)=jy 2 (cL c g r 2) (dc c g r 2) (i+1):=rfl;rw [ge] at g4
  repeat' (first|refine cv0 (m:=3) (h70 _ _) rfl (iP:=lF ..) (hcl:=K6 (lF ..)) (h2:=?_)|refine c0 (m:=4) (g4 _) rfl (iP:=Z3 ..) (hcl:=K6 (Z3 ..)) (h2:=?_)|refine gx ?_|fail)
  exact ⟨O c.idxs - (i+1),V,_,_,G5 (j6 rfl) (Z3 ..),i+1,V,rfl,rfl,rfl⟩
 obtain rfl:i=O c.idxs:=V
 clear h1 hi;have ge:jy 2 (cL c g r 2) (dc c g r 2) (O c.idxs)=dc c g r 3:=rfl;rw [ge];refine gr ?_;refine Ex.S4 (λq T' H' =>∃i:Nat,i<=O c.J7/\q=O c.J7 - i/\T' =[.any,.any,.ptr 0 0,.any,.any,.ptr 2 0,.func 70 [] [.ptr 0 0,.ptr 2 0],.func 73 [] [.ptr 0 0,.ptr 1 0],.ptr 3 0,.any,.any,.any,.any,.any,.any,.any,.any,.any,.any,.any,.any,.any,.any,.any,.any,.any,.any,.any,.any,.any,.any,.any,.any,.any,.any,.d (y6 mb.enc c.J7),.d (Z (O c.J7)),.d (Z i),.any,.any,.any,.any,.any,.any,.any,.any,.any,.any,.any,.any]/\H' =[.cells (c.enc.map .d),ox g,qS r,qS (jy 3 (cL c g r 3) (dc c g r 3) i)]) ?_ (k:=O c.J7) ⟨0,V,V,rfl,rfl⟩;rintro q T' H' ⟨i,hi,rfl,rfl,rfl⟩;refine Ex.seq ?_;refine tl (i:Int) (O c.J7:Int) (λh1=>?_) (λh1=>?_)
 .have g1:i<O c.J7:=V
  have g2:=iq 3 (cL c g r 3) (dc c g r 3) i;have g3:=hfl 3;have g4:=λst=>h74 st (jy 3 (cL c g r 3) (dc c g r 3) i) V 3 i (cL c g r 3 i)
  have ge:tU (jy 3 (cL c g r 3) (dc c g r 3) i) 3 i (cL c g r 3 i)=jy 3 (cL c g r 3) (dc c g r 3) (i+1):=rfl;rw [ge] at g4;have p71:=Zy c hs (Y c.J7 i).source;refine gr ?_;refine Ex.region (rg 1 (h:=?_));refine gm ?_;refine yl p71 ?_;refine gm ?_
  repeat' (first|refine cl (p75 (X6 c (Y c.J7 i).source,(Y c.J7 i).col) r hrl) ?_|refine c0 (m:=4) (g4 _) rfl (iP:=Z3 ..) (hcl:=K6 (Z3 ..)) (h2:=?_)|refine gx ?_|fail)
  exact ⟨O c.J7 - (i+1),V,_,_,G5 (j6 rfl) (Z3 ..),i+1,V,rfl,rfl,rfl⟩
 obtain rfl:i=O c.J7:=V
 clear h1 hi;have ge:jy 3 (cL c g r 3) (dc c g r 3) (O c.J7)=dc c g r 4:=rfl;rw [ge];refine gr ?_;refine Ex.S4 (λq T' H' =>∃i:Nat,i<=O c.L0/\q=O c.L0 - i/\T' =[.any,.any,.ptr 0 0,.any,.any,.any,.func 70 [] [.ptr 0 0,.ptr 2 0],.func 73 [] [.ptr 0 0,.ptr 1 0],.ptr 3 0,.any,.any,.any,.any,.any,.any,.any,.any,.any,.any,.any,.any,.any,.any,.any,.any,.any,.any,.any,.any,.any,.any,.any,.any,.any,.any,.any,.any,.any,.d (y6 oF.enc c.L0),.d (Z (O c.L0)),.d (Z i),.any,.any,.any,.any,.any,.any,.any,.any,.any]/\H' =[.cells (c.enc.map .d),ox g,qS r,qS (jy 4 (cL c g r 4) (dc c g r 4) i)]) ?_ (k:=O c.L0) ⟨0,V,V,rfl,rfl⟩;rintro q T' H' ⟨i,hi,rfl,rfl,rfl⟩;refine Ex.seq ?_;refine tl (i:Int) (O c.L0:Int) (λh1=>?_) (λh1=>?_)
 .have g1:i<O c.L0:=V
  have g2:=iq 4 (cL c g r 4) (dc c g r 4) i;have g3:=hfl 4;have g4:=λst=>h74 st (jy 4 (cL c g r 4) (dc c g r 4) i) V 4 i (cL c g r 4 i)
  have ge:tU (jy 4 (cL c g r 4) (dc c g r 4) i) 4 i (cL c g r 4 i)=jy 4 (cL c g r 4) (dc c g r 4) (i+1):=rfl;rw [ge] at g4
  repeat' (first|refine cv0 (m:=3) (h70 _ _) rfl (iP:=lF ..) (hcl:=K6 (lF ..)) (h2:=?_)|refine c0 (m:=4) (g4 _) rfl (iP:=Z3 ..) (hcl:=K6 (Z3 ..)) (h2:=?_)|refine gx ?_|fail)
  exact ⟨O c.L0 - (i+1),V,_,_,G5 (j6 rfl) (Z3 ..),i+1,V,rfl,rfl,rfl⟩
 obtain rfl:i=O c.L0:=V
 clear h1 hi;have ge:jy 4 (cL c g r 4) (dc c g r 4) (O c.L0)=dc c g r 5:=rfl;rw [ge];refine gr ?_;refine Ex.S4 (λq T' H' =>∃i:Nat,i<=O c.M7/\q=O c.M7 - i/\T' =[.any,.any,.ptr 0 0,.any,.any,.any,.func 70 [] [.ptr 0 0,.ptr 2 0],.func 73 [] [.ptr 0 0,.ptr 1 0],.ptr 3 0,.any,.any,.any,.any,.any,.any,.any,.any,.any,.any,.any,.any,.any,.any,.any,.any,.any,.any,.any,.any,.any,.any,.any,.any,.any,.any,.any,.any,.any,.any,.any,.any,.d (y6 oo.enc c.M7),.d (Z (O c.M7)),.d (Z i),.any,.any,.any,.any,.any,.any]/\H' =[.cells (c.enc.map .d),ox g,qS r,qS (jy 5 (cL c g r 5) (dc c g r 5) i)]) ?_ (k:=O c.M7) ⟨0,V,V,rfl,rfl⟩;rintro q T' H' ⟨i,hi,rfl,rfl,rfl⟩;refine Ex.seq ?_;refine tl (i:Int) (O c.M7:Int) (λh1=>?_) (λh1=>?_)
 .have g1:i<O c.M7:=V
  have g2:=iq 5 (cL c g r 5) (dc c g r 5) i;have g3:=hfl 5;have g4:=λst=>h74 st (jy 5 (cL c g r 5) (dc c g r 5) i) V 5 i (cL c g r 5 i)
  have ge:tU (jy 5 (cL c g r 5) (dc c g r 5) i) 5 i (cL c g r 5 i)=jy 5 (cL c g r 5) (dc c g r 5) (i+1):=rfl;rw [ge] at g4
  repeat' (first|refine cv0 (m:=3) (h70 _ _) rfl (iP:=lF ..) (hcl:=K6 (lF ..)) (h2:=?_)|refine c0 (m:=4) (g4 _) rfl (iP:=Z3 ..) (hcl:=K6 (Z3 ..)) (h2:=?_)|refine gx ?_|fail)
  exact ⟨O c.M7 - (i+1),V,_,_,G5 (j6 rfl) (Z3 ..),i+1,V,rfl,rfl,rfl⟩
 obtain rfl:i=O c.M7:=V
 clear h1 hi;have ge:jy 5 (cL c g r 5) (dc c g r 5) (O c.M7)=dc c g r 6:=rfl;rw [ge];refine gr ?_;refine Ex.S4 (λq T' H' =>∃i:Nat,i<=O c.O0/\q=O c.O0 - i/\T' =[.any,.any,.ptr 0 0,.any,.any,.any,.any,.func 73 [] [.ptr 0 0,.ptr 1 0],.ptr 3 0,.any,.any,.any,.any,.any,.any,.any,.any,.any,.any,.any,.any,.any,.any,.any,.any,.any,.any,.any,.any,.any,.any,.any,.any,.any,.any,.any,.any,.any,.any,.any,.any,.any,.any,.any,.d (y6 rA.enc c.O0),.d (Z (O c.O0)),.d (Z i),.any,.any,.any]/\H' =[.cells (c.enc.map .d),ox g,qS r,qS (jy 6 (cL c g r 6) (dc c g r 6) i)]) ?_ (k:=O c.O0) ⟨0,V,V,rfl,rfl⟩;rintro q T' H' ⟨i,hi,rfl,rfl,rfl⟩;refine Ex.seq ?_;refine tl (i:Int) (O c.O0:Int) (λh1=>?_) (λh1=>?_)
 .have g1:i<O c.O0:=V
  have g2:=iq 6 (cL c g r 6) (dc c g r 6) i;have g3:=hfl 6;have g4:=λst=>h74 st (jy 6 (cL c g r 6) (dc c g r 6) i) V 6 i (cL c g r 6 i)
  have ge:tU (jy 6 (cL c g r 6) (dc c g r 6) i) 6 i (cL c g r 6 i)=jy 6 (cL c g r 6) (dc c g r 6) (i+1):=rfl;rw [ge] at g4
  repeat' (first|refine cv0 (m:=2) (h73 _ _) rfl (iP:=GI ..) (hcl:=K6 (GI ..)) (h2:=?_)|refine c0 (m:=4) (g4 _) rfl (iP:=Z3 ..) (hcl:=K6 (Z3 ..)) (h2:=?_)|refine gx ?_|fail)
  exact ⟨O c.O0 - (i+1),V,_,_,G5 (j6 rfl) (Z3 ..),i+1,V,rfl,rfl,rfl⟩
 obtain rfl:i=O c.O0:=V
 clear h1 hi;have ge:jy 6 (cL c g r 6) (dc c g r 6) (O c.O0)=dc c g r 7:=rfl;rw [ge];refine gr ?_;refine Ex.S4 (λq T' H' =>∃i:Nat,i<=O c.Q3/\q=O c.Q3 - i/\T' =[.any,.any,.any,.any,.any,.any,.any,.func 73 [] [.ptr 0 0,.ptr 1 0],.ptr 3 0,.any,.any,.any,.any,.any,.any,.any,.any,.any,.any,.any,.any,.any,.any,.any,.any,.any,.any,.any,.any,.any,.any,.any,.any,.any,.any,.any,.any,.any,.any,.any,.any,.any,.any,.any,.any,.any,.any,.d (y6 ru.enc c.Q3),.d (Z (O c.Q3)),.d (Z i)]/\H' =[.cells (c.enc.map .d),ox g,qS r,qS (jy 7 (cL c g r 7) (dc c g r 7) i)]) ?_ (k:=O c.Q3) ⟨0,V,V,rfl,rfl⟩;rintro q T' H' ⟨i,hi,rfl,rfl,rfl⟩;refine Ex.seq ?_;refine tl (i:Int) (O c.Q3:Int) (λh1=>?_) (λh1=>?_)
 .have g1:i<O c.Q3:=V
  have g2:=iq 7 (cL c g r 7) (dc c g r 7) i;have g3:=hfl 7;have g4:=λst=>h74 st (jy 7 (cL c g r 7) (dc c g r 7) i) V 7 i (cL c g r 7 i)
  have ge:tU (jy 7 (cL c g r 7) (dc c g r 7) i) 7 i (cL c g r 7 i)=jy 7 (cL c g r 7) (dc c g r 7) (i+1):=rfl;rw [ge] at g4
  repeat' (first|refine c1 (m:=2) (p76 _ c hs (Y c.Q3 i).tables (s5 (hs.bk i g1) (by decide)) g V) rfl ?_ (iP:=GI ..) (hcl:=K6 (GI ..))|refine c0 (m:=4) (g4 _) rfl (iP:=Z3 ..) (hcl:=K6 (Z3 ..)) (h2:=?_)|refine gx ?_|fail)
  exact ⟨O c.Q3 - (i+1),V,_,_,G5 (j6 rfl) (Z3 ..),i+1,V,rfl,rfl,rfl⟩
 obtain rfl:i=O c.Q3:=V
 clear h1 hi;have ge:jy 7 (cL c g r 7) (dc c g r 7) (O c.Q3)=dc c g r 8:=rfl;rw [ge];refine gr ?_;exact ⟨_,rfl,rfl⟩
def as5 {fs:List O1}{l m:List J9}{p:J9}:Mk fs (l++m) p↔Mk fs l p\/Mk fs m p:=by
 constructor
 .intro h
  induction h with
  |base h=>exact (N9.1 h).imp (λh=> .base h) λh=> .base h
  |step h1 h2 ih=>exact ih.imp (λh=> .step h1 h) λh=> .step h1 h
 .rintro (h|h)
  .exact h.mono λq hq=> .base (List.mem_append_left _ hq)
  .exact h.mono λq hq=> .base (List.mem_append_right _ hq)
def MA {l m x:List J9}(h:∀p,p∈x↔p∈l\/p∈m)(n:Int):vX x n=(vX l n||vX m n):=by
 rw [Bool.eq_iff_iff,Bool.or_eq_true,zX,zX,zX];simp only [h,or_and_right,exists_or]
def ak2 {c:p9}{g1 g2 g r1 r2 r:List J9}(hg:∀p,p∈g↔p∈g1\/p∈g2)(hr:∀p,p∈r↔p∈r1\/p∈r2)(k i:Nat):cL c g r k i=(cL c g1 r1 k i||cL c g2 r2 k i):=by
 unfold cL
 (repeat' split)<;>first
  |exact MA hr _
  |exact MA hg _
  |simp only [hr,Bool.decide_or]
  |(rw [Bool.eq_iff_iff];simp only [Bool.or_eq_true,List.any_eq_true,MA hg,and_or_left,exists_or])
def ak7 {c:p9}{fs:List O1}{v g:List J9}(ok:J9->Bool)(p:J9) :
  p∈dc c ((v++g).filter ok) (rG fs ((v++g).filter ok)) 8↔p∈dc c (v.filter ok) (rG fs (v.filter ok)) 8\/p∈dc c (g.filter ok) (rG fs (g.filter ok)) 8:=by
 have hg:∀q,q∈(v++g).filter ok↔q∈v.filter ok\/q∈g.filter ok:=λq=>by rw [List.filter_append,N9]
 have hr:∀q,q∈rG fs ((v++g).filter ok)↔q∈rG fs (v.filter ok)\/q∈rG fs (g.filter ok):=λq=>by rw [List.filter_append,Bz,Bz,Bz,as5]
 rw [Ae,Ae,Ae];simp only [ak2 hg hr,Bool.or_eq_true,and_or_left,or_and_right,exists_or]
set_option maxHeartbeats 8000000 in
def lf7 (hK:Pf A 27 [] (.d (.bool W))){xs:List Int}(hx:O xs<=17592186043904)(v g:List J9):Pf A 7 [.d (ints xs),.d (R4 v),.d (R4 g)] (.d (.bool W)):=by
 obtain ⟨c,l,ts,hc,_,_,_,pM⟩:=p28 hx;have e:ints xs=y6 (λn=>[Z n]) xs:=by simp [ints,y6,List.flatMap_singleton']
 rw [e] at pM ⊢;unfold R4;refine Pf.gr 8 ?_;refine tc (F0 100 (O xs)||(F0 10 (O v)||F0 10 (O g))) trivial (λh=>?_) (λh=>?_)
 .refine gc hK ?_
  exact ⟨_,rfl,rfl⟩
 simp only [D5] at h;have h1:=D4 h.1;have h2:=D4 h.2.1;have h3:=D4 h.2.2;have ht1:=hc.t1;have hvw:=hc.vw;have p29:=λl hl=>p29 c hc.sm hc.val V V l hl
 obtain ⟨_,_,rfl,rfl,pA⟩:=p29 v V;obtain ⟨_,_,rfl,rfl,pB⟩:=p29 g V;obtain ⟨_,_,rfl,rfl,pC⟩:=p29 (v++g) D;have hor:=ak7 (c:=c) (fs:=rE c) (v:=v) (g:=g) (aM (cT c));have DB:=uo c hc.sm.sm.iC (v.filter (aM (cT c))) (rG (rE c) (v.filter (aM (cT c)))) 8;have hbl:=uo c hc.sm.sm.iC (g.filter (aM (cT c))) (rG (rE c) (g.filter (aM (cT c)))) 8;have hcl:=uo c hc.sm.sm.iC ((v++g).filter (aM (cT c))) (rG (rE c) ((v++g).filter (aM (cT c)))) 8;generalize dc c (v.filter (aM (cT c))) _ 8=a at *
 generalize dc c (g.filter (aM (cT c))) _ 8=b at *
 generalize dc c ((v++g).filter (aM (cT c))) _ 8=s at *
 have h30:∀(l:List J9) (p:J9),O l<=8000->Pf A 30 [.d (y6 V5 l),.agg [.d (Z p.1),.d (Z p.2)]] (.d (.bool (decide (p∈l)))):=λl p h=>p30 l p V
 have pa:=λp=>h30 a p DB
 have pb:=λp=>h30 b p hbl
 have ps:=λp=>h30 s p hcl
 unfold R4 at pA pB pC
 repeat' (first|refine cl (pM) ?_|refine sO pA ?_|refine sO pB ?_|refine sO pC ?_|refine eN ?_|refine alE (enc:=V5) (ys:=v) (h2:=?_)|refine XN (enc:=V5) (xs:=v) (ys:=g) (h2:=?_)|refine gx ?_|fail)
 refine Ex.M4 (λq T' H' =>∃(j:Nat),j<=O s/\q=O s - j/\T' =[.any,.any,.any,.any,.any,.d (y6 V5 a),.d (y6 V5 b),.d (y6 V5 s),.d (Z j),.any,.any]/\H' =[.cells (c.enc.map .d)]) ?_ (k:=O s) ⟨0,V,V,rfl,rfl⟩;rintro q T' H' ⟨j,hj,rfl,rfl,rfl⟩;refine Ex.seq ?_;refine tl (j:Int) (O s:Int) (λh4=>?_) (λh4=>?_)
 .have gj:j<O s:=V
  have hm:=(hor (Y s j)).1 (H6 gj);refine Ex.skip ?_;refine Ex.seq ?_;refine Ex.block ?_;refine tB F ?_ (λh5=>by cases h5) (λh5=>?_)
  .repeat' (first|refine cl (pa _) ?_|refine cl (pb _) ?_|refine gx ?_|refine fq (λhw=>?_) λhw=>?_|refine ⟨rfl,rfl,_,rfl,?_⟩|refine ⟨rfl,rfl⟩|fail)
   all_goals simp_all
  .refine gr ?_
   exact ⟨O s - (j+1),V,j+1,V,rfl,rfl,rfl⟩
 refine gr ?_;refine Ex.M4 (λq T' H' =>∃(j:Nat),j<=O a/\q=O a - j/\T' =[.any,.any,.any,.any,.any,.d (y6 V5 a),.d (y6 V5 b),.d (y6 V5 s),.any,.d (Z j),.any]/\H' =[.cells (c.enc.map .d)]) ?_ (k:=O a) ⟨0,V,V,rfl,rfl⟩;rintro q T' H' ⟨j,hj,rfl,rfl,rfl⟩;refine Ex.seq ?_;refine tl (j:Int) (O a:Int) (λh4=>?_) (λh4=>?_)
 .have gj:j<O a:=V
  have hm:=(hor (Y a j)).2 (.inl (H6 gj));refine Ex.skip ?_;refine Ex.seq ?_;refine Ex.block ?_;refine tB F ?_ (λh5=>by cases h5) (λh5=>?_)
  .repeat' (first|refine cl (ps _) ?_|refine gx ?_|refine fq (λhw=>?_) λhw=>?_|refine ⟨rfl,rfl,_,rfl,?_⟩|refine ⟨rfl,rfl⟩|fail)
   all_goals simp_all
  .refine gr ?_
   exact ⟨O a - (j+1),V,j+1,V,rfl,rfl,rfl⟩
 refine gr ?_;refine Ex.M4 (λq T' H' =>∃(j:Nat),j<=O b/\q=O b - j/\T' =[.any,.any,.any,.any,.any,.any,.d (y6 V5 b),.d (y6 V5 s),.any,.any,.d (Z j)]/\H' =[.cells (c.enc.map .d)]) ?_ (k:=O b) ⟨0,V,V,rfl,rfl⟩;rintro q T' H' ⟨j,hj,rfl,rfl,rfl⟩;refine Ex.seq ?_;refine tl (j:Int) (O b:Int) (λh4=>?_) (λh4=>?_)
 .have gj:j<O b:=V
  have hm:=(hor (Y b j)).2 (.inr (H6 gj));refine Ex.skip ?_;refine Ex.seq ?_;refine Ex.block ?_;refine tB F ?_ (λh5=>by cases h5) (λh5=>?_)
  .repeat' (first|refine cl (ps _) ?_|refine gx ?_|refine fq (λhw=>?_) λhw=>?_|refine ⟨rfl,rfl,_,rfl,?_⟩|refine ⟨rfl,rfl⟩|fail)
   all_goals simp_all
  .refine gr ?_
   exact ⟨O b - (j+1),V,j+1,V,rfl,rfl,rfl⟩
 refine gc hK ?_;exact ⟨_,rfl,rfl⟩
end Go.Proofs.YtibjocmpkoepoaaGreat


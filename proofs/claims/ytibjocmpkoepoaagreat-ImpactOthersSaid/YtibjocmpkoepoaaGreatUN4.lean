import Derived.Test.YtibjocmpkoepoaaGreatUN1
import Derived.Test.YtibjocmpkoepoaaGreatUN2
set_option linter.all false
open Bool renaming and_eq_true→c9,true→W,false→F
open List renaming append_assoc→G8,getElem_of_mem→E9,map_cons→E8,mem_append→A5,mem_singleton→L1,replicate→c8,replicate_succ→L3,set_cons_succ→o4,set_cons_zero→o5,take_length→I8,length→O
open Nat renaming le_of_ble_eq_true→j4,le_refl→j9,le_trans→p7,lt_or_ge→y7,mul_le_mul_right→E1,zero_le→x3
open Option renaming some→J,none→K
namespace Go.Proofs.YtibjocmpkoepoaaGreat
open Go.y9 Go.y9.S
attribute [local irreducible] Rx Ry Rn Ex Pf Rl
def zO:s6:= .cells [.own 4 0 [],.own 9 0 [],.own 3 0 [],.own 6 0 [],.own 4 0 [],.own 3 0 [],.own 2 0 [],.own 3 0 []]
section
def eX {xs:List Int}(hx:O xs<=35184372088832){q:Nat}(hq:q<=4 * O xs)(n:Int)(hn:n<=1000000):∃(r:Int) (q' :Nat),q' <=4 * O xs/\0<=r/\(2<=n->r<n)/\(n<2->r=0)/\Pm A 22 [.ptr 1 0,.d (Z n)] [zO,tp xs q] l1 (.d (Z r)) [zO,tp xs q']:=by
 obtain ⟨_,_,⟨r,q',rfl,h1,h2,h3,h4,rfl⟩,p⟩:=QI zO xs q n l1 hx hq hn rfl;exact ⟨r,q',h4,h1,h2,h3,p⟩
def JP {c:o9}{ts:List (List R7)}(h:jT c ts){i:Nat}(hi:i<O ts):O (Y ts i)<=64:=(h.t i hi).1
set_option maxHeartbeats 4000000 in
def Wf {xs:List Int}(hx:O xs<=35184372088832){q:Nat}(hq:q<=4 * O xs)(c:o9)(hs:E7 c)(hv:D0 c=W)(ts:List (List R7))(h:jT c ts)(i k:Nat)(hi:i<O c.j7)(hk:k<O (Y c.j7 i).o7) :
  ∃(v:Vl) (q' :Nat),q' <=4 * O xs/\Pm A 175 [.ptr 1 0,cat c,.d (Q5 ts),.agg ((Y (Y c.j7 i).o7 k).enc.map .d)] [zO,tp xs q] l1 (.agg (v.enc.map .d)) [zO,tp xs q']:=by
 have h4:=ep (S1 ((Z1 hv).1 i (by have:=Q1 c;unfold o9.ns at this;omega)) hi);have Qk:=h4.2.2 _ (C5 hk);have hrf:=Hp hv hi hk;have hn:=h.n;generalize Y (Y c.j7 i).o7 k=x at Qk hrf;have nU:1<=x.type/\x.type<=2:=by rcases Qk with e|e<;>omega
 have p1:=Td c hs x.refs;obtain ⟨r,q1,hq1,r1,r2,r3,pN⟩:=eX hx hq 8 V;obtain ⟨_,qa,hqa,⟨va,rfl⟩,pa⟩:=Tp (o0:=zO) hx hq1 x.type;obtain ⟨_,qb,hqb,⟨vb,rfl⟩,pb⟩:=au9 (o0:=zO) hx hq1 x.type;have key:Pq A 175 [.ptr 1 0,cat c,.d (Q5 ts),.agg (x.enc.map .d)] [zO,tp xs q] l1 λw H1=>∃(v:Vl) (q' :Nat),q' <=4 * O xs/\w= .agg (v.enc.map .d)/\H1=[zO,tp xs q']:=by
  refine Pq.go (b:=2) 4 ?_;refine gr ?_;refine Ex.test (Rn.text ?_)
  repeat' (first|refine c0 pN rfl (HD:=[.cells (c.enc.map .d),.cells (x.enc.map .d),.cells [.d (Z 0),.d (Z 0),.d (.str [])]]) (h2:=?_)|refine gx ?_|fail)
  refine ⟨_,rfl,λht=>?_,λht=>?_⟩
  .refine gr ?_
   exact ⟨_,_,rfl,⟨0,0,[]⟩,q1,hq1,rfl,rfl⟩
  refine gr ?_
  by_cases hr:K3 x.refs []=F
  .refine tc W trivial (λ_=>?_) (λh=>by cases h)
   obtain ⟨k1,k2⟩:=hrf hr;have hf:(eV c x.refs).toNat<O ts:=V
   have hl:=JP h hf;refine gc p1 ?_;refine tc (x4 (O (Y ts (eV c x.refs).toNat)) 0) trivial (λh1=>?_) (λh1=>?_)
   .refine gr ?_
    exact ⟨_,_,rfl,⟨0,0,[]⟩,q1,hq1,rfl,rfl⟩
   have h1:=jF h1;obtain ⟨j,q2,gM,j1,j2,j3,pN2⟩:=eX hx hq1 (O (Y ts (eV c x.refs).toNat)) V;have hj:j.toNat<O (Y ts (eV c x.refs).toNat):=V
   have Fb:=(h.row hv hf hj).2.1
   repeat' (first|refine c0 pN2 rfl (HD:=[.cells (c.enc.map .d),.cells (x.enc.map .d),.cells [.d (Z 0),.d (Z 0),.d (.str [])]]) (h2:=?_)|refine gx ?_|fail)
   exact ⟨_,_,rfl,Y (Y (Y ts (eV c x.refs).toNat) j.toNat).row 0,q2,gM,rfl,rfl⟩
  .have hr:K3 x.refs []=W:=by simpa using hr
   refine tc F trivial (λh=>by cases h) (λh=>?_);refine gr ?_;refine Ex.test (Rn.text ?_);refine gr ?_;refine ⟨_,rfl,λht=>?_,λht=>?_⟩
   .repeat' (first|refine c0 pa rfl (HD:=[.cells (c.enc.map .d),.cells (x.enc.map .d),.cells [.d (Z 0),.d (Z 0),.d (.str [])]]) (h2:=?_)|refine gx ?_|fail)
    exact ⟨_,_,rfl,va,qa,hqa,rfl,rfl⟩
   .repeat' (first|refine c0 pb rfl (HD:=[.cells (c.enc.map .d),.cells (x.enc.map .d),.cells [.d (Z 0),.d (Z 0),.d (.str [])]]) (h2:=?_)|refine gx ?_|fail)
    exact ⟨_,_,rfl,vb,qb,hqb,rfl,rfl⟩
 obtain ⟨_,_,⟨v,q',Nl,rfl,rfl⟩,p⟩:=key;exact ⟨v,q',Nl,p⟩
end
def V3 (x:cR)(r:c7):List c7:=[.d (Z x.op),.d (Z x.seq),.d (Z x.day),.d (Z x.M6),r,.d (Z x.key.k),.d (Z x.key.n),.d (.str x.key.t),.d (Z x.col),.d (Z x.val.k),.d (Z x.val.n),.d (.str x.val.t)]
def z12:List c7:=[.d (Z 0),.d (Z 0),.d (Z 0),.d (Z 0),.own 3 0 [],.d (Z 0),.d (Z 0),.d (.str []),.d (Z 0),.d (Z 0),.d (Z 0),.d (.str [])]
def kinds:List Int:=[1,1,1,2,2,3]
def Tv {n:Nat}(h:n<=1000):roomFor n 32=W:=by
 refine decide_eq_true ?_;exact p7 (E1 _ (show 2 * n+512<=2512 by omega)) (by decide)
def Lq {r:Int}(h0:0<=r)(h1:r<6):Y kinds r.toNat=1\/Y kinds r.toNat=2\/Y kinds r.toNat=3:=by
 have:r=0\/r=1\/r=2\/r=3\/r=4\/r=5:=V
 rcases this with rfl|rfl|rfl|rfl|rfl|rfl<;>(rw [D6 (by simp [kinds])];simp [kinds])
section
def Bf (xs:List Int)(q:Nat)(X:k9):D4 ([zO,tp xs q]++X) 2 8 2=2:=G9 (by simp [D3])
def ac8 {xs:List Int}(hx:O xs<=35184372088832){q:Nat}(hq:q<=4 * O xs)(c:o9)(hn:O c.j7<=1000)(h0:0<O c.j7)(ts:List (List R7))(seq day:Int)(w1 w7 w8 w9 rG El:c7)(Q:G6->St->Prop)
  (gM:∀(op M6:Int) (q' :Nat),(op=1\/op=2\/op=3)->0<=M6->M6<O c.j7->q' <=4 * O xs->Q .normal ⟨[.ptr 1 0,w1,.d (Q5 ts),.d (Z seq),.d (Z day),.ptr 2 0,.ptr 3 0,.ptr 4 0,w8,w9,rG,El],[zO,tp xs q',.cells (c.enc.map .d),.cells z12,.cells (V3 ⟨op,seq,day,M6,[],⟨0,0,[]⟩,0,⟨0,0,[]⟩⟩ (.own 3 0 []))]⟩) :
  Ex A l1 2 (match UA.body with| .seq _ (.seq r _)=>r|c=>c) ⟨[.ptr 1 0,w1,.d (Q5 ts),.d (Z seq),.d (Z day),.ptr 2 0,.ptr 3 0,w7,w8,w9,rG,El],[zO,tp xs q,.cells (c.enc.map .d),.cells z12]⟩ Q:=by
 obtain ⟨r,q1,hq1,r1,r2,_,pN⟩:=eX hx hq 6 V;obtain ⟨j,q2,hqq,j1,j2,j3,pN2⟩:=eX hx hq1 (O c.j7:Int) V;have hr6:r<6:=r2 V;show Ex A l1 2 (.region _ W) _ _
 refine Ex.region (Rn.xK 4 [zO,tp xs q,.cells (c.enc.map .d),.cells z12,.dead] [.slot 7] rfl rfl rfl ?_);refine yp (rs:=[]) (.own 1 6 [Z 1,Z 1,Z 1,Z 2,Z 2,Z 3]) rfl ?_;refine ym ?_;refine yc [.cells (c.enc.map .d),.cells z12,.dead] [zO,tp xs q1,.cells (c.enc.map .d),.cells z12,.dead] pN rfl (x3 _) (Bf _ _ _) rfl U rfl rfl rfl ?_;refine yp _ (OT (enc:=λn:Int=>[Z n]) (xs:=kinds) (λ_=>rfl) rfl rfl r1 hr6) ?_;refine yp _ (Wk rfl) ?_;refine ym ?_;refine ym ?_;refine ym ?_;refine yp _ (qQ rfl) ?_;refine yp _ (IV (v:= .d (s7 cw.enc c.j7)) rfl rfl rfl) ?_;refine yp _ (Wl rfl) ?_;refine yc [.cells (c.enc.map .d),.cells z12,.dead] [zO,tp xs q2,.cells (c.enc.map .d),.cells z12,.dead] pN2 rfl (x3 _) (Bf _ _ _) rfl U rfl rfl rfl ?_;refine yp (rs:=[]) (.agg (V3 ⟨Y kinds r.toNat,seq,day,j,[],⟨0,0,[]⟩,0,⟨0,0,[]⟩⟩ (.own 3 0 []))) rfl ?_;refine Yz 5 [.ptr 1 0,w1,.d (Q5 ts),.d (Z seq),.d (Z day),.ptr 2 0,.ptr 3 0,.ptr 4 0,w8,w9,rG,El] [zO,tp xs q2,.cells (c.enc.map .d),.cells z12,.cells z12] U rfl rfl rfl rfl ?_;refine ys rfl ⟨rfl,rfl⟩ rfl rfl rfl (.inl (x3 _)) rfl ?_;refine yn (gM _ _ _ (Lq r1 hr6) j1 V hqq) ?_;simp [aT,E6,Touch.E3,F0.makes,F0.y3]
set_option maxHeartbeats 8000000 in
def SQ {xs:List Int}(hx:O xs<=35184372088832){q:Nat}(hq:q<=4 * O xs)(c:o9)(hs:E7 c)(hv:D0 c=W)(h0:0<O c.j7)(ts:List (List R7))(h:jT c ts)(seq day:Int) :
  ∃(x:cR) (q' :Nat),FX c x/\q' <=4 * O xs/\Pm A 120 [.ptr 1 0,cat c,.d (Q5 ts),.d (Z seq),.d (Z day)] [zO,tp xs q] l1 (.agg (x.enc.map .d)) [zO,tp xs q']:=by
 have hn:=h.n;have vj:=hs.sm.eD.1;have key:Pq A 120 [.ptr 1 0,cat c,.d (Q5 ts),.d (Z seq),.d (Z day)] [zO,tp xs q] l1 λw H1=>∃(x:cR) (q' :Nat),FX c x/\q' <=4 * O xs/\w= .agg (x.enc.map .d)/\H1=[zO,tp xs q']:=by
  refine Pq.go (b:=2) 7 ?_;refine Ex.seq ?_;refine gr ?_;refine ac8 hx hq c vj h0 ts seq day _ _ _ _ _ _ _ (λop M6 q1 ho t0 t1 hq1=>?_);have ht:M6.toNat<O c.j7:=V
  have hw:=QF hv M6.toNat ht;have hcl:=(au hv ht).1;obtain ⟨t,hT⟩:∃t,Y c.j7 M6.toNat=t:=⟨_,rfl⟩;refine gr ?_;rw [hT];rw [hT] at hw hcl;refine tc (x4 op 1) trivial (λh1=>?_) (λh1=>?_)
  .have Qq:=W6 h1
   subst Qq;refine Ex.seq ?_;refine gr ?_;refine Ex.L9 (λk T' H' =>∃(j:Nat) (q:Nat) (row:List Vl),j<=O t.o7/\k=O t.o7 - j/\O row=j/\q<=4 * O xs/\T' =[.ptr 1 0,.any,.d (Q5 ts),.any,.any,.ptr 2 0,.ptr 3 0,.ptr 4 0,.d (s7 P4.enc t.o7),.d (Z j),.any,.any]/\H' =[zO,tp xs q,.cells (c.enc.map .d),.cells z12,.cells (V3 ⟨1,seq,day,M6,[],⟨0,0,[]⟩,0,⟨0,0,[]⟩⟩ (A8 3 Vl.enc row))]) ?_ (k:=O t.o7) ⟨0,q1,[],V,V,rfl,hq1,rfl,rfl⟩;rintro k T' H' ⟨j,q2,row,hj,rfl,hrl,gM,rfl,rfl⟩;refine Ex.seq ?_;refine tl (j:Int) (O t.o7:Int) (λh2=>?_) (λh2=>?_)
   .have hj2:j<O t.o7:=V
    obtain ⟨v,q3,jQ,pv⟩:=Wf hx gM c hs hv ts h M6.toNat j ht (by rw [hT];exact hj2);rw [hT] at pv;have hg:=(ep (S1 ((Z1 hv).1 M6.toNat (by have:=Q1 c;unfold o9.ns at this;omega)) ht)).2.2;rw [hT] at hg;have Ni:=hg _ (C5 (show 0<O t.o7 by omega));obtain ⟨_,q4,qn,⟨kv,rfl⟩,pK⟩:=Tp (o0:=zO) hx jQ (Y t.o7 0).type;refine Ex.skip ?_;refine Ex.seq ?_;refine Ex.block ?_;refine Ex.seq ?_;generalize hX:s6.cells (V3 ⟨1,seq,day,M6,[],⟨0,0,[]⟩,0,⟨0,0,[]⟩⟩ (A8 3 Vl.enc row))=X;refine Ex.region (Rn.xK 5 [zO,tp xs q2,.cells (c.enc.map .d),.cells z12,X,.dead] [.slot 10] rfl rfl rfl ?_);refine ym ?_;refine yp _ (Ft (vs:=c.enc.map .d) rfl rfl rfl) ?_;refine ym ?_;refine ym ?_;refine ym ?_;refine yp _ (OT (enc:=P4.enc) (λ_=>rfl) rfl rfl (Int.natCast_nonneg j) h2) ?_;refine yp _ (LP (cs:=(Y t.o7 j).enc) rfl rfl) ?_;refine yc [.cells (c.enc.map .d),.cells z12,X,.dead] [zO,tp xs q3,.cells (c.enc.map .d),.cells z12,X,.dead] pv rfl (x3 _) (Bf _ _ _) rfl U rfl rfl rfl ?_;refine Yz 6 [.ptr 1 0,.any,.d (Q5 ts),.any,.any,.ptr 2 0,.ptr 3 0,.ptr 4 0,.d (s7 P4.enc t.o7),.d (Z j),.ptr 5 0,.any] [zO,tp xs q3,.cells (c.enc.map .d),.cells z12,X,.cells [.d (Z 0),.d (Z 0),.d (.str [])]] U rfl rfl rfl rfl ?_;refine ys (v:= .agg (v.enc.map .d)) (cs:=v.enc.map .d) (H2:=[zO,tp xs q3,.cells (c.enc.map .d),.cells z12,X,.cells (v.enc.map .d)]) rfl ⟨rfl,rfl⟩ rfl rfl rfl (.inl (x3 _)) rfl ?_;refine yn ?_ (by simp [aT,E6,Touch.E3,F0.makes,F0.y3]);subst hX;refine Ex.seq ?_;refine Ex.xR (λst=>∃(u:Vl) (q:Nat),q<=4 * O xs/\st=⟨[.ptr 1 0,.any,.d (Q5 ts),.any,.any,.ptr 2 0,.ptr 3 0,.ptr 4 0,.d (s7 P4.enc t.o7),.d (Z j),.ptr 5 0,.any],[zO,tp xs q,.cells (c.enc.map .d),.cells z12,.cells (V3 ⟨1,seq,day,M6,[],⟨0,0,[]⟩,0,⟨0,0,[]⟩⟩ (A8 3 Vl.enc row)),.cells (u.enc.map .d)]⟩) ?_ ?_
    .refine te trivial ?_ ?_
     .repeat' (first|refine c0 pK rfl (HD:=[.cells (c.enc.map .d),.cells z12,.cells (V3 ⟨1,seq,day,M6,[],⟨0,0,[]⟩,0,⟨0,0,[]⟩⟩ (A8 3 Vl.enc row)),.cells (v.enc.map .d)]) (h2:=?_)|refine gx ?_|fail)
      exact ⟨kv,q4,qn,rfl⟩
     .refine gr ?_
      exact ⟨v,q3,jQ,rfl⟩
    .rintro _ ⟨u,q5,vm,rfl⟩
     repeat' (first|refine oN (enc:=Vl.enc) u ?_|refine XS (enc:=Vl.enc) (xs:=row) u (Tv V) (h2:=?_)|refine Bp (h2:=?_)|refine ad V ?_|refine gx ?_|fail)
     refine ⟨O t.o7 - (j+1),V,_,_,B2 (j4 rfl) (j4 rfl),j+1,q5,row++[u],V,rfl,by simp [hrl],vm,rfl,rfl⟩
   .refine Ex.exit ?_
    refine Ex.seq ?_;refine Ex.region (Rn.text ?_);refine xF (vs:=V3 ⟨1,seq,day,M6,[],⟨0,0,[]⟩,0,⟨0,0,[]⟩⟩ (A8 3 Vl.enc row)) rfl rfl ?_;refine gr ?_;have hjl:O row=O t.o7:=V
    refine ⟨_,_,rfl,⟨1,seq,day,M6,row,⟨0,0,[]⟩,0,⟨0,0,[]⟩⟩,q2,⟨t0,t1,.inl rfl,?_,Int.le_refl _,?_⟩,gM,rfl,rfl⟩
    .simp only [if_true,hT,hjl]
    .simp only [hT]
     omega
  .have hg:=(ep (S1 ((Z1 hv).1 M6.toNat (by have:=Q1 c;unfold o9.ns at this;omega)) ht)).2.2
   rw [hT] at hg;have Ni:=hg _ (C5 (show 0<O t.o7 by omega));have htn:M6.toNat<O ts:=V
   have hfl:=JP h htn;have Qq:=jF h1;obtain ⟨_,q2,gM,⟨kv,rfl⟩,pK⟩:=Tp (o0:=zO) hx hq1 (Y t.o7 0).type;refine Ex.skip ?_;refine Ex.seq ?_;refine Ex.region (Rn.text ?_);refine gr ?_;refine c0 pK rfl (HD:=[.cells (c.enc.map .d),.cells z12,.cells (V3 ⟨op,seq,day,M6,[],⟨0,0,[]⟩,0,⟨0,0,[]⟩⟩ (.own 3 0 []))]) (h2:=?_);refine gr ?_;refine Rc (cs:=kv.enc.map .d) (H2:=[zO,tp xs q2,.cells (c.enc.map .d),.cells z12,.cells (V3 ⟨op,seq,day,M6,[],kv,0,⟨0,0,[]⟩⟩ (.own 3 0 []))]) rfl ⟨rfl,rfl⟩ rfl rfl rfl (.inl (x3 _)) rfl ?_;refine gr ?_;refine Ex.xR (λst=>∃(kv:Vl) (q:Nat),q<=4 * O xs/\st=⟨[.ptr 1 0,cat c,.d (Q5 ts),.d (Z seq),.d (Z day),.ptr 2 0,.ptr 3 0,.ptr 4 0,.d (s7 P4.enc t.o7),.any,.any,.d (tL (Y ts M6.toNat))],[zO,tp xs q,.cells (c.enc.map .d),.cells z12,.cells (V3 ⟨op,seq,day,M6,[],kv,0,⟨0,0,[]⟩⟩ (.own 3 0 []))]⟩) ?_ ?_
   .obtain ⟨r8,q4,qn,_,_,_,p8⟩:=eX hx gM 8 V
    refine Ex.test (Rn.text ?_);refine gr ?_;refine fk (h1:=λhw=>?_) (h2:=λhw=>?_)
    .have hl0:=A7 hw
     obtain ⟨j,q5,vm,j1,j2,j3,pj⟩:=eX hx qn (O (Y ts M6.toNat)) V;have hj:j.toNat<O (Y ts M6.toNat):=V
     have Fb:=(h.row hv htn hj).2.1;refine gr ?_;refine c0 p8 rfl (HD:=[.cells (c.enc.map .d),.cells z12,.cells (V3 ⟨op,seq,day,M6,[],kv,0,⟨0,0,[]⟩⟩ (.own 3 0 []))]) (h2:=?_);refine gr ?_;refine ⟨_,rfl,λ_=>?_,λ_=>?_⟩
     .refine gr ?_
      refine c0 pj rfl (HD:=[.cells (c.enc.map .d),.cells z12,.cells (V3 ⟨op,seq,day,M6,[],kv,0,⟨0,0,[]⟩⟩ (.own 3 0 []))]) (h2:=?_);refine gr ?_;refine Rc (cs:=(Y (Y (Y ts M6.toNat) j.toNat).row 0).enc.map .d) (H2:=[zO,tp xs q5,.cells (c.enc.map .d),.cells z12,.cells (V3 ⟨op,seq,day,M6,[],Y (Y (Y ts M6.toNat) j.toNat).row 0,0,⟨0,0,[]⟩⟩ (.own 3 0 []))]) rfl ⟨rfl,rfl⟩ rfl rfl rfl (.inl (x3 _)) rfl ?_;refine gx ?_;exact ⟨_,q5,vm,rfl⟩
     .refine Ex.skip ?_
      exact ⟨kv,q4,qn,rfl⟩
    .refine gr ?_
     refine ⟨_,rfl,λhf=>?_,λ_=>?_⟩
     .cases hf
     .refine Ex.skip ?_
      exact ⟨kv,q2,gM,rfl⟩
   rintro _ ⟨key,q3,jQ,rfl⟩;refine Ex.seq ?_;refine tc (x4 op 2) trivial (λh2=>?_) (λh2=>?_)
   .obtain ⟨col,q4,qn,k1,k2,k3,pc⟩:=eX hx jQ (O t.o7:Int) V
    have NZ:col<O t.o7:=V
    obtain ⟨v,q5,vm,pv⟩:=Wf hx qn c hs hv ts h M6.toNat col.toNat ht (by rw [hT];omega);rw [hT] at pv;refine Ex.seq ?_;refine Ex.region (Rn.text ?_);refine gr ?_;refine c0 pc rfl (HD:=[.cells (c.enc.map .d),.cells z12,.cells (V3 ⟨op,seq,day,M6,[],key,0,⟨0,0,[]⟩⟩ (.own 3 0 []))]) (h2:=?_);refine gx ?_;refine Rc (cs:=[.d (Z col)]) (H2:=[zO,tp xs q4,.cells (c.enc.map .d),.cells z12,.cells (V3 ⟨op,seq,day,M6,[],key,col,⟨0,0,[]⟩⟩ (.own 3 0 []))]) rfl ⟨rfl,rfl⟩ rfl rfl rfl (.inl (x3 _)) rfl ?_;refine gx ?_;refine Ex.region (Rn.xK 5 [zO,tp xs q4,.cells (c.enc.map .d),.cells z12,.cells (V3 ⟨op,seq,day,M6,[],key,col,⟨0,0,[]⟩⟩ (.own 3 0 []))] [] rfl rfl rfl ?_);refine ym ?_;refine yp _ (Ft (vs:=c.enc.map .d) rfl rfl rfl) ?_;refine ym ?_;refine ym ?_;refine yp _ (qQ rfl) ?_;refine yp _ (IV (v:= .d (Z col)) rfl rfl rfl) ?_;refine yp _ (OT (enc:=P4.enc) (λ_=>rfl) rfl rfl k1 NZ) ?_;refine yp _ (LP (cs:=(Y t.o7 col.toNat).enc) rfl rfl) ?_;refine yc [.cells (c.enc.map .d),.cells z12,.cells (V3 ⟨op,seq,day,M6,[],key,col,⟨0,0,[]⟩⟩ (.own 3 0 []))] [zO,tp xs q5,.cells (c.enc.map .d),.cells z12,.cells (V3 ⟨op,seq,day,M6,[],key,col,⟨0,0,[]⟩⟩ (.own 3 0 []))] pv rfl (x3 _) (Bf _ _ _) rfl U rfl rfl rfl ?_;refine yp _ (qQ rfl) ?_;refine ys (v:= .agg (v.enc.map .d)) (cs:=v.enc.map .d) (H2:=[zO,tp xs q5,.cells (c.enc.map .d),.cells z12,.cells (V3 ⟨op,seq,day,M6,[],key,col,v⟩ (.own 3 0 []))]) rfl ⟨rfl,rfl⟩ rfl rfl rfl (.inl (x3 _)) rfl ?_;refine yn ?_ (by simp [aT,E6,Touch.E3,F0.makes,F0.y3]);refine Ex.seq ?_;refine Ex.region (Rn.text ?_);refine xF (vs:=V3 ⟨op,seq,day,M6,[],key,col,v⟩ (.own 3 0 [])) rfl rfl ?_;refine gr ?_;refine ⟨_,_,rfl,⟨op,seq,day,M6,[],key,col,v⟩,q5,⟨t0,t1,ho,?_,k1,?_⟩,vm,rfl,rfl⟩
    .simp [Qq]
    .simpa only [hT] using NZ
   .refine Ex.skip ?_
    refine Ex.seq ?_;refine Ex.region (Rn.text ?_);refine xF (vs:=V3 ⟨op,seq,day,M6,[],key,0,⟨0,0,[]⟩⟩ (.own 3 0 [])) rfl rfl ?_;refine gr ?_;refine ⟨_,_,rfl,⟨op,seq,day,M6,[],key,0,⟨0,0,[]⟩⟩,q3,⟨t0,t1,ho,?_,Int.le_refl _,?_⟩,jQ,rfl,rfl⟩
    .simp [Qq]
    .simp only [hT]
     omega
 obtain ⟨_,_,⟨x,q',hx',Nl,rfl,rfl⟩,p⟩:=key;exact ⟨x,q',hx',Nl,p⟩
end
def Pp {n:Nat}(h:n<=1000):roomFor n 128=W:=by
 refine decide_eq_true ?_;exact p7 (E1 _ (show 2 * n+512<=2512 by omega)) (by decide)
section
set_option maxHeartbeats 8000000 in
def p66 {xs:List Int}(hx:O xs<=35184372088832){q:Nat}(hq:q<=4 * O xs)(c:o9)(hs:E7 c)(hv:D0 c=W)(h0:0<O c.j7)(m:Nat)(hm:m<=100) :
  ∃(l:List cR) (q' :Nat),(∀x∈l,FX c x)/\O l<=m/\q' <=4 * O xs/\Pm A 66 [.ptr 1 0,cat c,.d (Z (m:Int))] [zO,tp xs q] l1 (.d (s7 cR.enc l)) [zO,tp xs q']:=by
 have p1:=Wd c hs hv;have key:Pq A 66 [.ptr 1 0,cat c,.d (Z (m:Int))] [zO,tp xs q] l1 λw H1=>∃(l:List cR) (q' :Nat),(∀x∈l,FX c x)/\O l<=m/\q' <=4 * O xs/\w= .d (s7 cR.enc l)/\H1=[zO,tp xs q']:=by
  refine Pq.go (b:=2) 10 ?_;refine gc p1 ?_;refine Ex.L9 (λk T' H' =>∃(i q:Nat) (l:List cR) (ts:List (List R7)) (seq day:Int),i<=2 * m/\k=2 * m - i/\(∀x∈l,FX c x)/\O l<=m/\q<=4 * O xs/\jT c ts/\0<=seq/\seq<=3 * i/\0<=day/\day<=2 * i /\
   T' =[.ptr 1 0,.any,.d (Z (m:Int)),.ptr 2 0,.any,.d (Q5 ts),A8 12 cR.enc l,.d (Z seq),.d (Z day),.d (Z i),.any,.any,.any]/\H' =[zO,tp xs q,.cells (c.enc.map .d)]) ?_ (k:=2 * m) ⟨0,q,[],_,0,0,V,V,U,U,hq,LG c,V,V,V,V,rfl,rfl⟩
  rintro k T' H' ⟨i,q,l,ts,seq,day,hi,rfl,hl,Nj,hq,hts,s0,s1,d0,d1,rfl,rfl⟩;refine Ex.seq ?_;have hmu: -9223372036854775808<=(2:Int) * m/\(2:Int) * m<9223372036854775808:=V
  refine Ex.cM (D5 (i:Int) (2 * m)&&D5 (O l) m) ?_ (λh=>?_) (λh=>?_)
  .refine Rn.text ?_
   repeat' (first|refine mu ?_ hmu|refine ls ?_|refine gx ?_|refine fq (λhw=>?_) λhw=>?_|refine ⟨rfl,rfl,_,rfl,?_⟩|refine ⟨rfl,rfl⟩|fail)
   all_goals first|(simp [*,j5];done)|(simp_all [j5];done)
  .rw [c9] at h
   have hi2:=A7 h.1;have jH:=A7 h.2;obtain ⟨a,q1,hq1,a0,a1,_,pA⟩:=eX hx hq 3 V;obtain ⟨b,q2,gM,b0,b1,_,pB⟩:=eX hx hq1 3 V;obtain ⟨x,q3,hX,jQ,pC⟩:=SQ hx gM c hs hv h0 ts hts (seq+(1+a)) (day+b);obtain ⟨w,e,pD,hD⟩:=Fs c hs hv ts hts x hX;have a1:=a1 V;have b1:=b1 V;refine gr ?_;refine c0 pA rfl (HD:=[.cells (c.enc.map .d)]) (h2:=?_);refine gr ?_;refine c0 pB rfl (HD:=[.cells (c.enc.map .d)]) (h2:=?_);refine gr ?_;refine c0 pC rfl (HD:=[.cells (c.enc.map .d)]) (h2:=?_);refine gc pD ?_;refine tc (x4 e 0) trivial (λhe=>?_) (λhe=>?_)
   .have he:=W6 he
    subst he;rw [hD rfl];have hp:=(LQ c hs hv ts hts x hX).2
    repeat' (first|refine oN (enc:=cR.enc) x ?_|refine gx ?_|fail)
    refine Ew (xs:=l) (ys:=[x]) (hr:=Pp D) (h2:=?_)
    repeat' (first|refine ad V ?_|refine gx ?_|fail)
    refine ⟨2 * m - (i+1),V,_,_,B2 (j4 rfl) (j4 rfl),i+1,q3,l++[x],_,seq+(1+a),day+b,V,rfl,λy hy=>?_,D,jQ,hp,V,V,V,V,rfl,rfl⟩
    rcases A5.1 hy with hy|hy
    .exact hl y hy
    .rw [L1.1 hy]
     exact hX
   .repeat' (first|refine ad V ?_|refine gx ?_|fail)
    exact ⟨2 * m - (i+1),V,_,_,B2 (j4 rfl) (j4 rfl),i+1,q3,l,ts,seq+(1+a),day+b,V,rfl,hl,Nj,jQ,hts,V,V,V,V,rfl,rfl⟩
  .refine gr ?_
   exact ⟨_,_,rfl,l,q,hl,Nj,hq,rfl,rfl⟩
 obtain ⟨_,_,⟨l,q',hl,Nj,Nl,rfl,rfl⟩,p⟩:=key;exact ⟨l,q',hl,Nj,Nl,p⟩
end
section
def Xs (xs:List Int)(h:O xs<=17592186043904):Pq A 12 [.d (ints xs)] [zO] N6 λv H1=>v= .ptr 1 0/\H1=[zO,tp xs 0]:=by
 refine Pq.go (b:=1) 1 ?_;have e:ints xs=s7 (λn=>[Z n]) xs:=by simp [ints,s7,List.flatMap_singleton']
 rw [e];refine gr ?_;refine gr ?_;exact ⟨_,_,rfl,rfl,by simp [splice,tp,rq,Ek,lk];exact ⟨rfl,rfl⟩⟩
structure Full (c:o9):Prop where
 val:D0 c=W
 sm:E7 c
 t0:1<=O c.j7
 t1:O c.j7<=3
 vw:O c.views<=3
def NB {xs:List Int}(hx:O xs<=17592186043904){q:Nat}(hq:q<=4 * O xs):∃(c:o9) (q' :Nat),Full c/\q' <=4 * O xs/\Pm A 65 [.ptr 1 0] [zO,tp xs q] l1 (cat c) [zO,tp xs q']:=by
 obtain ⟨_,q',h,⟨c,rfl,hv,hs,ht⟩,p⟩:=q65 (o0:=zO) V hq;exact ⟨c,q',⟨hv,hs.small (by decide) (by decide) (by decide),ht,hs.tl,hs.vl⟩,h,p⟩
def p28 {xs:List Int}(hx:O xs<=17592186043904):∃(c:o9) (l:List cR) (ts:List (List R7)),Full c/\(∀x∈l,FX c x)/\O l<=10/\jT c ts/\Pf A 28 [.d (ints xs)] (.tuple [cat c,.d (s7 cR.enc l),.d (Q5 ts)]):=by
 obtain ⟨_,_,⟨rfl,rfl⟩,p12⟩:=Xs xs hx;obtain ⟨c,q,hc,hq,p65⟩:=NB hx (q:=0) V;obtain ⟨l,q1,hl,Nj,hq1,p66⟩:=p66 V hq c hc.sm hc.val (by have:=hc.t0;omega) 10 V;obtain ⟨ts,hts,p67⟩:=p67 c hc.sm hc.val (by have:=hc.t0;omega) l V hl;refine ⟨c,l,ts,hc,hl,Nj,hts,?_⟩;refine Pf.gr 6 ?_;refine cp p12 U ?_;refine gr ?_;refine c0 p65 rfl (HD:=[]) (h2:=?_);refine gr ?_;refine c0 p66 rfl (HD:=[.cells (c.enc.map .d)]) (h2:=?_);refine gx ?_;refine gx ?_;refine Ex.seq ?_;refine Ex.region (Rn.xK 3 [zO,tp xs q1,.cells (c.enc.map .d)] [] rfl rfl rfl ?_);refine yp _ (Ft (vs:=c.enc.map .d) rfl rfl rfl) ?_;refine ym ?_;refine yp _ (Ft (vs:=c.enc.map .d) rfl rfl rfl) ?_;refine ym ?_;refine yl p67 ?_;refine ys (v:=cat c) (cs:=c.enc.map .d) (H2:=[.cells (c.enc.map .d),tp xs q1,.cells (c.enc.map .d)]) rfl ⟨rfl,rfl⟩ rfl rfl rfl (.inl (x3 _)) rfl ?_;refine YA [.d (ints xs),.ptr 0 0,.d (s7 cR.enc l),.own 1 0 [],.ptr 1 0,.ptr 2 0,.d (s7 cR.enc l)] U rfl ?_;refine YA [.d (ints xs),.ptr 0 0,.d (s7 cR.enc l),.d (Q5 ts),.ptr 1 0,.ptr 2 0,.d (s7 cR.enc l)] U rfl ?_;refine yn ?_ (by simp [aT,E6,Touch.E3,F0.makes,F0.y3]);refine gr ?_;exact ⟨_,rfl,rfl⟩
end
end Go.Proofs.YtibjocmpkoepoaaGreat
namespace Go.Proofs.YtibjocmpkoepoaaGreat
open Go.y9 Go.y9.S
attribute [local irreducible] Rx Ry Rn Ex Pf
def an4 (n:Int)(p:D7):Pf A 127 [.d (Z n),Fv p] (.d (.bool (x4 p.1 n))):=by
 refine Pf.go 2 ?_;unfold Fv;refine gr ?_;exact ⟨_,rfl,by simp [j5]⟩
def ao0 (n:Int)(l:List D7)(hl:O l<=1000000):∃r:Int,(0<=r↔∃q∈l,q.1=n)/\Pf A 185 [.d (N7 l),.func 127 [.d (Z n)] []] (.d (Z r)):=by
 have h1:=Pe.go (A:=A) (f:=185) (args:=[.d (N7 l),.func 127 [.d (Z n)] []]) (P:=λw=>∃r:Int,(0<=r↔∃q∈l,q.1=n)/\w= .d (Z r)) 4 ?_
 .obtain ⟨_,⟨r,h,rfl⟩,hp⟩:=h1
  exact ⟨r,h,hp⟩
 unfold N7;refine gr ?_;refine Ex.J4 (λk T' H' =>∃i:Nat,i<=O l/\k=O l - i/\T' =[.d (s7 K6 l),.func 127 [.d (Z n)] [],.any,.any,.d (Z (O l)),.d (Z i)]/\H' =[]/\∀j,j<i->(Y l j).1≠n) ?_ (k:=O l) ⟨0,V,V,rfl,rfl,λ_ h=>V⟩;rintro k T' H' ⟨i,hi,rfl,rfl,rfl,hb⟩;refine Ex.seq ?_;refine tl (i:Int) (O l:Int) (λh1=>?_) (λh1=>?_)
 .have g1:i<O l:=V
  refine Ex.skip ?_;refine Ex.seq ?_;refine Ex.block ?_;refine gr ?_;have p1:=an4 n (Y l i);unfold Fv at p1;refine tB (x4 (Y l i).1 n) ?_ (λh5=>?_) (λh5=>?_)
  .repeat' (first|refine RD p1 ?_|refine gx ?_|refine fq (λhw=>?_) λhw=>?_|refine ⟨rfl,rfl,_,rfl,?_⟩|refine ⟨rfl,rfl⟩|fail)
   rfl
  .have h5:(Y l i).1=n:=by simpa [o6] using h5
   refine gr ?_;exact ⟨_,rfl,i,⟨λ_=>⟨_,C5 g1,h5⟩,λ_=>V⟩,rfl⟩
  .have h5:(Y l i).1≠n:=by simpa [o6] using h5
   refine gr ?_;refine ⟨O l - (i+1),V,i+1,V,rfl,rfl,rfl,λj hj=>?_⟩
   rcases y7 j i with h2|h2
   .exact hb j h2
   .rwa [show j=i by omega]
 .refine gr ?_
  refine ⟨_,rfl, -1,⟨λh=>V,λ⟨q,h,e⟩=>?_⟩,rfl⟩;obtain ⟨j,hj,rfl⟩:=E9 h;exact absurd ((congrArg Prod.fst (D6 hj)).trans e) (hb j V)
def ql (l:List D7)(n:Int):Bool:=l.any λq=>x4 q.1 n
def zN {l:List D7}{n:Int}:ql l n=W↔∃q∈l,q.1=n:=by simp [ql,o6]
def an3 (n:Int)(l:List D7)(hl:O l<=1000000):Pf A 126 [.d (N7 l),.func 127 [.d (Z n)] []] (.d (.bool (ql l n))):=by
 obtain ⟨r,h,p1⟩:=ao0 n l hl;refine Pf.go 1 ?_;refine gc p1 ?_;refine ⟨_,rfl,?_⟩;have:T5 0 r=ql l n:=by rw [Bool.eq_iff_iff,zN,<- h,x6];simp
 simp [j5,this]
def Uj (u v:Nat)(n:Int)(l:List D7)(hl:O l<=1000000):Pm A 72 [.d (Z n),.d (N7 l)] [] ⟨u,v,0,0⟩ (.d (.bool (ql l n))) []:=by
 have p1:=an3 n l hl;have h1:Pq A 72 [.d (Z n),.d (N7 l)] [] ⟨u,v,0,0⟩ λw H=>w= .d (.bool (ql l n))/\H=[]:=by
  refine Pq.go (b:=0) 1 ?_;refine gc p1 ?_;exact ⟨_,_,rfl,by simp [j5],rfl⟩
 obtain ⟨_,_,⟨rfl,rfl⟩,p⟩:=h1;exact p
def OX (a b:D7):(a.1==b.1&&(a.2==b.2&&W))=decide (a=b):=by
 rw [Bool.eq_iff_iff];simp [Prod.ext_iff]
def an5 (p:D7)(l:List D7)(hl:O l<=1000000):∃r:Int,(0<=r↔p∈l)/\Pf A 128 [.d (N7 l),Fv p] (.d (Z r)):=by
 have h1:=Pe.go (A:=A) (f:=128) (args:=[.d (N7 l),Fv p]) (P:=λw=>∃r:Int,(0<=r↔p∈l)/\w= .d (Z r)) 5 ?_
 .obtain ⟨_,⟨r,h,rfl⟩,hp⟩:=h1
  exact ⟨r,h,hp⟩
 unfold N7 Fv;refine gr ?_;refine Ex.J4 (λk T' H' =>∃i:Nat,i<=O l/\k=O l - i/\T' =[.d (s7 K6 l),.any,.ptr 0 0,.any,.any,.d (Z (O l)),.d (Z i)]/\H' =[.cells [.d (Z p.1),.d (Z p.2)]]/\∀j,j<i->Y l j≠p) ?_ (k:=O l) ⟨0,V,V,rfl,rfl,λ_ h=>V⟩;rintro k T' H' ⟨i,hi,rfl,rfl,rfl,hb⟩;refine Ex.seq ?_;refine tl (i:Int) (O l:Int) (λh1=>?_) (λh1=>?_)
 .have g1:i<O l:=V
  refine Ex.skip ?_;refine Ex.seq ?_;refine Ex.block ?_;refine gr ?_;refine tB (decide (Y l i=p)) ?_ (λh5=>?_) (λh5=>?_)
  .repeat' (first|refine gx ?_|refine fq (λhw=>?_) λhw=>?_|refine ⟨rfl,rfl,_,rfl,?_⟩|refine ⟨rfl,rfl⟩|fail)
   rw [OX];simp [eq_comm]
  .have h5:Y l i=p:=by simpa using h5
   refine gr ?_;exact ⟨_,rfl,i,⟨λ_=>h5 ▸ C5 g1,λ_=>V⟩,rfl⟩
  .have h5:Y l i≠p:=by simpa using h5
   refine gr ?_;refine ⟨O l - (i+1),V,i+1,V,rfl,rfl,rfl,λj hj=>?_⟩
   rcases y7 j i with h2|h2
   .exact hb j h2
   .rwa [show j=i by omega]
 .refine gr ?_
  refine ⟨_,rfl, -1,⟨λh=>V,λh=>?_⟩,rfl⟩;obtain ⟨j,hj,e⟩:=E9 h;exact absurd ((D6 hj).trans e) (hb j V)
def p75 (p:D7)(l:List D7)(hl:O l<=1000000):Pf A 75 [.d (N7 l),Fv p] (.d (.bool (decide (p∈l)))):=by
 obtain ⟨r,h,p1⟩:=an5 p l hl;unfold Fv at *
 refine Pf.go 2 ?_;refine gc p1 ?_;refine ⟨_,rfl,?_⟩;have:T5 0 r=decide (p∈l):=by rw [Bool.eq_iff_iff,decide_eq_true_iff,<- h,x6];simp
 simp [j5,this]
def lM (l:List D7):s6:= .cells [A8 2 K6 l]
def jI (l:List D7):s6:= .cells [.d (N7 l)]
def tP (l:List D7):(jI l).F4=0:=rfl
def Gf (l:List D7):(lM l).F4=0:=rfl
def cN0 (H:k9)(s:Nat):D4 H s 8 0=0:=by simp [D4]
def Tf {n:Nat}(h:n<=100000):roomFor n 16=W:=by
 refine decide_eq_true ?_;exact p7 (E1 _ (show 2 * n+512<=200512 by omega)) (by decide)
def p70 (c:o9)(hs:E7 c)(u v st:Nat)(s:G4)(g l:List D7)(hl:O l<=1000000):Pm A 70 [.d (.str s),.ptr 0 0,.ptr 2 0] [.cells (c.enc.map .d),jI g,lM l] ⟨u,v,3,st⟩ (.d (.bool (ql l (O9 c s)))) [.cells (c.enc.map .d),jI g,lM l]:=by
 have Wj:=OV c hs s;have Uj:=Uj u v (O9 c s) l hl;have h1:Pq A 70 [.d (.str s),.ptr 0 0,.ptr 2 0] [.cells (c.enc.map .d),jI g,lM l] ⟨u,v,3,st⟩ λw H=>w= .d (.bool (ql l (O9 c s)))/\H=[.cells (c.enc.map .d),jI g,lM l]:=by
  refine Pq.go (b:=3) 1 ?_;unfold lM jI N7
  repeat' (first|refine cl (Wj) ?_|refine c0 (m:=0) (H0:=[]) Uj rfl (cQ:=by simp [D3]) (hcl:=cN0 _ _) (jH:=by simp [A6]) (h2:=?_)|refine gx ?_|fail)
  exact ⟨_,_,rfl,by simp [j5],rfl⟩
 obtain ⟨_,_,⟨rfl,rfl⟩,p⟩:=h1;exact p
def p73 (c:o9)(hs:E7 c)(u v st:Nat)(s:G4)(l:List D7)(hl:O l<=1000000):Pm A 73 [.d (.str s),.ptr 0 0,.ptr 1 0] [.cells (c.enc.map .d),jI l] ⟨u,v,2,st⟩ (.d (.bool (ql l (O9 c s)))) [.cells (c.enc.map .d),jI l]:=by
 have Wj:=OV c hs s;have Uj:=Uj u v (O9 c s) l hl;have h1:Pq A 73 [.d (.str s),.ptr 0 0,.ptr 1 0] [.cells (c.enc.map .d),jI l] ⟨u,v,2,st⟩ λw H=>w= .d (.bool (ql l (O9 c s)))/\H=[.cells (c.enc.map .d),jI l]:=by
  refine Pq.go (b:=2) 1 ?_;unfold jI N7
  repeat' (first|refine cl (Wj) ?_|refine c0 (m:=0) (H0:=[]) Uj rfl (cQ:=by simp [D3]) (hcl:=cN0 _ _) (jH:=by simp [A6]) (h2:=?_)|refine gx ?_|fail)
  exact ⟨_,_,rfl,by simp [j5],rfl⟩
 obtain ⟨_,_,⟨rfl,rfl⟩,p⟩:=h1;exact p
def nY (f:List D7)(k i:Int)(t:Bool):List D7:=if t then f++[(k,i)] else f
def p74 (st:Nat)(c:o9)(g r f:List D7)(hf:O f<=50000)(k i:Int)(t:Bool):Pm A 74 [.ptr 3 0,.d (Z k),.d (Z i),.d (.bool t)] [.cells (c.enc.map .d),jI g,lM r,lM f] ⟨0,0,4,st⟩ (.tuple []) [.cells (c.enc.map .d),jI g,lM r,lM (nY f k i t)]:=by
 have h1:Pq A 74 [.ptr 3 0,.d (Z k),.d (Z i),.d (.bool t)] [.cells (c.enc.map .d),jI g,lM r,lM f] ⟨0,0,4,st⟩ λw H=>w= .tuple []/\H=[.cells (c.enc.map .d),jI g,lM r,lM (nY f k i t)]:=by
  refine Pq.go (b:=4) 0 ?_;refine tB t ?_ (λh=>?_) (λh=>?_)
  .repeat' (first|refine gx ?_|refine fq (λhw=>?_) λhw=>?_|refine ⟨rfl,rfl,_,rfl,?_⟩|refine ⟨rfl,rfl⟩|fail)
   rfl
  .rw [h]
   unfold lM jI N7
   repeat' (first|refine qm (cs:=(K6 (k,i)).map .d) ?_|refine oN (enc:=K6) (k,i) ?_|refine XS (enc:=K6) (xs:=f) (k,i) (Tf V) (h2:=?_)|refine Bp (h2:=?_)|refine gx ?_|fail)
   exact ⟨_,_,rfl,rfl,rfl⟩
  .rw [h]
   refine gr ?_;exact ⟨_,_,rfl,rfl,rfl⟩
 obtain ⟨_,_,⟨rfl,rfl⟩,p⟩:=h1;exact p
end Go.Proofs.YtibjocmpkoepoaaGreat
namespace Go.y9.S
def am2 {A:Prog}{l:F9}{b:Nat}{dr:Bool}{j8 ops:List x9}{T:List c7}{H:k9}{n:Nat}{rl:List c7}{l6:List Touch}{Q:List c7->k9->List c7->Prop}{x:A3}{u:List Nat}{s id sz lo len:Nat}{T2:List c7}
  (hx:rq T n rl x= .r7 id sz lo len:=by rfl) (hs:T[s]?.isSome=W:=by rfl) (hT:T.set s (.d (.int .i64 (len:Int)))=T2:=by simp only [o5,o4]<;>rfl)
  (h2:Ry A l b dr j8 ops T2 H (n+1) (.d (.int .i64 (len:Int))::rl) (.slot s::l6) Q):Ry A l b dr j8 (⟨.len x,J s,K,u⟩::ops) T H n rl l6 Q :=
 Ry.nL (v:= .d (.int .i64 (len:Int))) (rs:=[]) rfl (by simp only [l5,hx,i64]) rfl rfl hs (by rw [hT];exact h2)
end Go.y9.S
namespace Go.Proofs.YtibjocmpkoepoaaGreat
open Go.y9 Go.y9.S
attribute [local irreducible] Rx Ry Rn Ex Pf
def wz (c:o9)(i:Nat):List Int:=FR c i++c8 (o9.ns c - i) 0
def TP {c:o9}{i:Nat}(h:i<=o9.ns c):O (wz c i)=o9.ns c:=by
 have:=iP c i;simp [wz];omega
def TQ {c:o9}{i:Nat}(h:i<o9.ns c):(wz c i).set i (O (O7 c i):Int)=wz c (i+1):=by
 have e:=iP c i;obtain ⟨m,hm⟩:∃m,o9.ns c - i=m+1:=⟨o9.ns c - i - 1,V⟩;have h2:o9.ns c - (i+1)=m:=V
 simp only [wz,hm,h2,L3,FR,G8];rw [List.set_append_right _ _ V,e,Nat.sub_self];rfl
def TN (c:o9):wz c (o9.ns c)=cN c:=by simp [wz,cN]
def PN (c:o9):(wz c 0).map iv=(c8 (o9.ns c) [iv 0]).flatten:=by
 have:∀n,(c8 n (0:Int)).map iv=(c8 n [iv 0]).flatten:=λn=>by
  induction n with
  |zero=>rfl
  |succ n ih=>simp only [L3,E8,List.flatten_cons,ih];rfl
 exact this _
def NA (ws:List Int):(s6.cells (ws.map iv)).F4=0:=by simp [s6.F4,zS]
def Ez (c:o9)(ws:List Int)(r:k9):D3 (([s6.cells (c.enc.map .d),.cells (ws.map iv)]++r).take 2)<=2:=by simp [D3,iV,NA]
def toN {i:Int}{n:Nat}(h1:T5 0 i=W)(h2:D5 i n=W):i.toNat<n:=by
 have:=ej h1;have:=A7 h2;omega
def OG (w:List Int)(i:Nat):w[i]?.getD 0=Y w i:=by simp [Y]
set_option maxHeartbeats 4000000 in
def Ys (c:o9)(hs:E7 c)(hv:D0 c=W)(hn:o9.ns c<=1000)(g:List D7)(hg:O g<=1000):Pf A 69 [cat c,.d (N7 g)] (.d (N7 (g.filter (Y5 (cN c))))):=by
 have aa:o9.ns c=O c.j7+O c.views:=rfl;obtain ⟨f0,f1,_⟩:=id hs.sm.eD;refine Pf.go 11 ?_;have hm:oL 1 [iv 0] (.d (Z (O c.j7+O c.views))) (.d (Z (O c.j7+O c.views)))=J (o9.ns c):=by
  simp only [oL,Z];rw [if_pos ⟨trivial,V,V,by decide,rfl⟩]
  congr 1
 have hH:[s6.cells (c.enc.map .d)]++[.cells (c8 (o9.ns c) [iv 0]).flatten]=[.cells (c.enc.map .d),.cells ((wz c 0).map iv)]:=by rw [PN];rfl
 unfold N7
 repeat' (first|refine mks hm hH (h2:=?_)|refine am2 (h2:=?_)|refine gx ?_|fail)
 refine Ex.L9 (λq T' H' =>∃(i:Nat),i<=o9.ns c/\q=o9.ns c - i/\T' =[.any,.d (s7 K6 g),.ptr 0 0,.any,.r7 1 1 0 (o9.ns c),.any,.any,.any,.d (Z (o9.ns c)),.d (Z i),.any,.any,.any]/\H' =[.cells (c.enc.map .d),.cells ((wz c i).map iv)]) ?_ (k:=o9.ns c) ⟨0,V,V,rfl,rfl⟩;rintro q T' H' ⟨i,hi,rfl,rfl,rfl⟩;refine Ex.seq ?_;refine tl (i:Int) (o9.ns c:Int) (λh1=>?_) (λh1=>?_)
 .have g1:i<o9.ns c:=V
  have hi:X9 c (i:Int)=W:=by
   unfold X9;rw [hv];simp [x6,y4];omega
  have p1:=LX c hs (i:Int) hi;rw [Int.toNat_natCast] at p1;have hw:wr [.cells (c.enc.map .d),.cells ((wz c i).map iv)] 1 (0+i * 1) [.d (Z (O (O7 c i)))]=J [.cells (c.enc.map .d),.cells ((wz c (i+1)).map iv)]:=by
   rw [<- TQ g1];exact XN rfl (by rw [TP V];exact g1)
  repeat' (first|refine cl (p1) ?_|refine JG (e:=(i:Int)) ⟨V,V⟩ ?_|refine sox hw (h2:=?_)|refine gx ?_|fail)
  exact ⟨o9.ns c - (i+1),V,_,_,B2 (j4 rfl) (Ez ..),i+1,V,rfl,rfl,rfl⟩
 .obtain rfl:i=o9.ns c:=V
  rw [TN];have Ei:O (cN c)=o9.ns c:=iP c _;obtain ⟨w,hwe⟩:∃w,cN c=w:=⟨_,rfl⟩;rw [hwe] at Ei ⊢;rw [<- Ei];refine gr ?_;refine Ex.L9 (λq T' H' =>∃(i:Nat),i<=O g/\q=O g - i/\T' =[.any,.any,.any,.any,.r7 1 1 0 (O w),.any,A8 2 K6 ((g.take i).filter (Y5 w)),.any,.any,.any,.d (s7 K6 g),.d (Z (O g)),.d (Z i)]/\H' =[.cells (c.enc.map .d),.cells (w.map iv)]) ?_ (k:=O g) ⟨0,V,V,rfl,rfl⟩;rintro q T' H' ⟨i,hi,rfl,rfl,rfl⟩;refine Ex.seq ?_;refine tl (i:Int) (O g:Int) (λh2=>?_) (λh2=>?_)
  .have g1:i<O g:=V
   have e1:(g.take (i+1)).filter (Y5 w)=(g.take i).filter (Y5 w)++(if Y5 w (Y g i) then [Y g i] else []):=by
    rw [E4 V,List.filter_append]
    congr 1
    simp only [List.filter_cons,List.filter_nil]
   have e2:O ((g.take i).filter (Y5 w))<=1000:=p7 (List.length_filter_le _ _) D;obtain ⟨acc,hacc⟩:∃acc,(g.take i).filter (Y5 w)=acc:=⟨_,rfl⟩;obtain ⟨p,hp⟩:∃p,Y g i=p:=⟨_,rfl⟩;rw [hacc,hp] at e1;rw [hacc] at e2 ⊢;refine Ex.skip ?_;refine Ex.seq ?_;refine Ex.block ?_;refine gr ?_;rw [hp];refine tB (Y5 w p) ?_ (λh3=>?_) (λh3=>?_)
   .have r1:T5 0 p.1=W->D5 p.1 (O w)=W->rd [.cells (c.enc.map .d),.cells (w.map iv),.cells ((K6 p).map .d)] 1 (0+p.1.toNat * 1) 1=J [iv (Y w p.1.toNat)]:=λh1 h2=>by
     rw [Xw rfl (toN h1 h2),OG];rfl
    repeat' (first|refine lnS ?_|refine JG (e:=p.1) ⟨ej (by assumption),A7 (by assumption)⟩ ?_|refine Np (r1 (by assumption) (by assumption)) rfl ?_|refine gx ?_|refine fq (λhw=>?_) λhw=>?_|refine ⟨rfl,rfl,_,rfl,?_⟩|refine ⟨rfl,rfl⟩|fail)
    all_goals simp_all [Y5]
   .repeat' (first|refine oN (enc:=K6) p ?_|refine Ew (ys:=[p]) (h2:=?_)|refine gx ?_|fail)
    exact ⟨O g - (i+1),V,_,_,B2 (j4 rfl) (Ez ..),i+1,V,rfl,by rw [e1,h3];rfl,rfl⟩
   .refine gr ?_
    exact ⟨O g - (i+1),V,_,_,B2 (j4 rfl) (Ez ..),i+1,V,rfl,by rw [e1,h3];simp;rfl,rfl⟩
  .obtain rfl:i=O g:=V
   rw [I8];refine gr ?_;exact ⟨_,rfl,rfl⟩
theorem jY:∀(H:k9) (s:Nat),D3 (H.drop s)<=D3 H
 |[],s=>U
 |a::H,0=>U
 |a::H,s+1=>by
  have:=jY H s;simp only [List.drop_succ_cons,D3];omega
def zR (st:Nat)(c:o9)(l:List D7):D3 ((List.take 2 [.cells (c.enc.map .d),jI l]).drop st)<=2:=p7 (jY _ _) (by simp [D3,iV,tP])
def an6 (st:Nat)(c:o9)(hs:E7 c)(ss:List G4)(hn:O ss<=1000000)(l:List D7)(hl:O l<=1000000):∃r:Int,(0<=r↔∃s∈ss,ql l (O9 c s)=W) /\
  Pm A 129 [.d (s7 encS ss),.func 73 [] [.ptr 0 0,.ptr 1 0]] [.cells (c.enc.map .d),jI l] ⟨0,2,2,st⟩ (.d (Z r)) [.cells (c.enc.map .d),jI l]:=by
 have h1:Pq A 129 [.d (s7 encS ss),.func 73 [] [.ptr 0 0,.ptr 1 0]] [.cells (c.enc.map .d),jI l] ⟨0,2,2,st⟩ λw H=>∃r:Int,(0<=r↔∃s∈ss,ql l (O9 c s)=W)/\w= .d (Z r)/\H=[.cells (c.enc.map .d),jI l]:=by
  refine Pq.go (b:=2) 4 ?_;refine gr ?_;refine Ex.J4 (λk T' H' =>∃i:Nat,i<=O ss/\k=O ss - i/\T' =[.d (s7 encS ss),.func 73 [] [.ptr 0 0,.ptr 1 0],.any,.any,.d (Z (O ss)),.d (Z i)]/\H' =[.cells (c.enc.map .d),jI l]/\∀j,j<i->ql l (O9 c (Y ss j))=F) ?_ (k:=O ss) ⟨0,V,V,rfl,rfl,λ_ h=>V⟩;rintro k T' H' ⟨i,hi,rfl,rfl,rfl,hb⟩;refine Ex.seq ?_;refine tl (i:Int) (O ss:Int) (λh1=>?_) (λh1=>?_)
  .have g1:i<O ss:=V
   have p1:=λst=>p73 c hs 0 2 st (Y ss i) l hl
   refine Ex.skip ?_;refine Ex.seq ?_;refine Ex.block ?_;refine gr ?_;refine tB (ql l (O9 c (Y ss i))) ?_ (λh5=>?_) (λh5=>?_)
   .repeat' (first|refine Qb (m:=2) (p1 _) rfl (cQ:=zR _ c l) (hcl:=G9 (zR _ c l)) (h2:=?_)|refine gx ?_|refine fq (λhw=>?_) λhw=>?_|refine ⟨rfl,rfl,_,rfl,?_⟩|refine ⟨rfl,rfl⟩|fail)
    rfl
   .refine gr ?_
    exact ⟨_,_,rfl,i,⟨λ_=>⟨_,C5 g1,h5⟩,λ_=>V⟩,rfl,rfl⟩
   .refine gr ?_
    refine ⟨O ss - (i+1),V,i+1,V,rfl,rfl,rfl,λj hj=>?_⟩
    rcases y7 j i with h2|h2
    .exact hb j h2
    .rwa [show j=i by omega]
  .refine gr ?_
   refine ⟨_,_,rfl, -1,⟨λh=>V,λ⟨q,h,e⟩=>?_⟩,rfl,rfl⟩;obtain ⟨j,hj,rfl⟩:=E9 h;rw [<- D6 hj,hb j V] at e;cases e
 obtain ⟨_,_,⟨r,h,rfl,rfl⟩,p⟩:=h1;exact ⟨r,h,p⟩
def p76 (st:Nat)(c:o9)(hs:E7 c)(ss:List G4)(hn:O ss<=1000000)(l:List D7)(hl:O l<=1000000) :
  Pm A 76 [.d (s7 encS ss),.func 73 [] [.ptr 0 0,.ptr 1 0]] [.cells (c.enc.map .d),jI l] ⟨0,2,2,st⟩ (.d (.bool (ss.any λs=>ql l (O9 c s)))) [.cells (c.enc.map .d),jI l]:=by
 obtain ⟨r,h,p1⟩:=an6 (A6 [.cells (c.enc.map .d),jI l] st 2) c hs ss hn l hl;have h1:Pq A 76 [.d (s7 encS ss),.func 73 [] [.ptr 0 0,.ptr 1 0]] [.cells (c.enc.map .d),jI l] ⟨0,2,2,st⟩ λw H=>w= .d (.bool (ss.any λs=>ql l (O9 c s)))/\H=[.cells (c.enc.map .d),jI l]:=by
  refine Pq.go (b:=2) 1 ?_
  repeat' (first|refine c1 p1 rfl ?_ (cQ:=zR _ c l) (hcl:=G9 (zR _ c l))|refine gx ?_|fail)
  refine ⟨_,_,rfl,?_,rfl⟩;have:T5 0 r=ss.any λs=>ql l (O9 c s):=by rw [Bool.eq_iff_iff,List.any_eq_true,<- h,x6];simp
  simp [j5,this]
 obtain ⟨_,_,⟨rfl,rfl⟩,p⟩:=h1;exact p
def fc (k:Int)(P:Nat->Bool)(f:List D7):Nat->List D7
 |0=>f
 |i+1=>nY (fc k P f i) k i (P i)
theorem dV (k:Int)(P:Nat->Bool)(f:List D7):∀i,O (fc k P f i)<=O f+i
 |0=>j9 _
 |i+1=>by
  have:=dV k P f i;unfold fc nY;split
  .simp;omega
  .omega
theorem GZ {k:Int}{P:Nat->Bool}{f:List D7}{p:D7}:∀{n},p∈fc k P f n↔p∈f\/∃i:Nat,i<n/\P i=W/\p=(k,(i:Int))
 |0=>by simp [fc]
 |n+1=>by
  have ih:=GZ (k:=k) (P:=P) (f:=f) (p:=p) (n:=n);have e:p∈fc k P f (n+1)↔p∈fc k P f n\/P n=W/\p=(k,(n:Int)):=by
   show p∈nY (fc k P f n) k n (P n)↔_
   unfold nY;cases P n<;>simp
  rw [e,ih,or_assoc];refine or_congr Iff.rfl ⟨?_,?_⟩
  .rintro (⟨i,h1,h2⟩|h)
   .exact ⟨i,V,h2⟩
   .exact ⟨n,V,h⟩
  .rintro ⟨i,h1,h2⟩
   by_cases h:i=n
   .subst h
    exact .inr h2
   .exact .inl ⟨i,V,h2⟩
def aG (c:o9)(g r:List D7)(k i:Nat):Bool :=
 if k=0 then ql r (O9 c (Y c.j7 i).name) else if k=1 then ql r (O9 c (Y c.views i).name) else if k=2 then ql r (O9 c (Y c.idxs i).source)
 else if k=3 then decide ((O9 c (Y c.G7 i).source,(Y c.G7 i).col)∈r) else if k=4 then ql r (O9 c (Y c.I5 i).source) else if k=5 then ql r (O9 c (Y c.J5 i).source)
 else if k=6 then ql g (O9 c (Y c.J6 i).table) else (Y c.L4 i).tables.any λs=>ql g (O9 c s)
def Dc (c:o9)(k:Nat):Nat:=if k=0 then O c.j7 else if k=1 then O c.views else if k=2 then O c.idxs else if k=3 then O c.G7 else if k=4 then O c.I5 else if k=5 then O c.J5 else if k=6 then O c.J6 else O c.L4
def aK (c:o9)(g r:List D7):Nat->List D7
 |0=>[]
 |k+1=>fc k (aG c g r k) (aK c g r k) (Dc c k)
theorem Al (c:o9)(h:c.eD)(g r:List D7):∀k,O (aK c g r k)<=1000 * k
 |0=>j9 _
 |k+1=>by
  have h1:=Al c h g r k;have h2:=dV k (aG c g r k) (aK c g r k) (Dc c k);have h3:Dc c k<=1000:=by
   unfold Dc;obtain ⟨_,_,_,_,_,_,_,_⟩:=h
   (repeat' split)<;>omega
  unfold aK;omega
theorem GY {c:o9}{g r:List D7}{p:D7}:∀{k},p∈aK c g r k↔∃j i:Nat,j<k/\i<Dc c j/\aG c g r j i=W/\p=((j:Int),(i:Int))
 |0=>by simp [aK]
 |k+1=>by
  rw [aK,GZ,GY];constructor
  .rintro (⟨j,i,h1,h2⟩|⟨i,h⟩)
   .exact ⟨j,i,V,h2⟩
   .exact ⟨k,i,V,h⟩
  .rintro ⟨j,i,h1,h2⟩
   by_cases h:j=k
   .subst h
    exact .inr ⟨i,h2⟩
   .exact .inl ⟨j,i,V,h2⟩
def zQ (st:Nat)(c:o9)(g:List D7)(X:k9):D3 ((List.take 2 (.cells (c.enc.map .d)::jI g::X)).drop st)<=2:=p7 (jY _ _) (by simp [D3,iV,tP])
def gK (st:Nat)(c:o9)(g r:List D7)(X:k9):D3 ((List.take 3 (.cells (c.enc.map .d)::jI g::lM r::X)).drop st)<=3:=p7 (jY _ _) (by simp [D3,iV,tP,Gf])
def T3 (st:Nat)(c:o9)(g r f:List D7)(X:k9):D3 ((List.take 4 (.cells (c.enc.map .d)::jI g::lM r::lM f::X)).drop st)<=4:=p7 (jY _ _) (by simp [D3,iV,tP,Gf])
set_option maxHeartbeats 16000000 in
def p29 (c:o9)(hs:E7 c)(hv:D0 c=W)(ht:O c.j7<=8)(hw:O c.views<=12)(l:List D7)(hl:O l<=1000) :
  ∃g r,g=l.filter (Y5 (cN c))/\r=xO (jM c) g/\Pf A 29 [cat c,.d (N7 l)] (.d (N7 (aK c g r 8))):=by
 have aa:o9.ns c=O c.j7+O c.views:=rfl;have Wi:=OU c hs;rw [hv] at Wi;have Ys:=Ys c hs hv V l hl;have ff:∀x:D7,Y5 (cN c) x=W->Y5 (cN c) x=W:=λ_ h=>h
 have hgl:O (l.filter (Y5 (cN c)))<=1000:=p7 (List.length_filter_le _ _) hl;have p23:=al6 c hs hv ht hw (l.filter (Y5 (cN c))) V;rw [List.filter_filter,show (λa=>Y5 (cN c) a&&Y5 (cN c) a)=Y5 (cN c) from funext λ_=>Bool.and_self _] at p23;have hrl:O (xO (jM c) (l.filter (Y5 (cN c))))<=1000000:=by
  rw [xO,X0];have:=Dv (jM c) (l.filter (Y5 (cN c)));have:=uM hv ht hw;omega
 refine ⟨_,_,rfl,rfl,?_⟩;generalize l.filter (Y5 (cN c))=g at *
 generalize xO (jM c) g=r at *
 have UX:=λst s=>p70 c hs 0 0 st s g r hrl
 have h73:=λst s=>p73 c hs 0 0 st s g V
 have Qd:=λst f hf=>p74 st c g r f hf
 have hfl:=λk=>Al c hs.sm.eD g r k
 have hfw:=hs.sm.eD;unfold o9.eD at hfw;refine Pf.go 48 ?_;unfold N7 at Ys p23 ⊢;refine gr ?_;refine tc F Wi (λh=>by cases h) (λ_=>?_)
 repeat' (first|refine iX Ys ?_|refine iX p23 ?_|refine Bp (h2:=?_)|refine gx ?_|fail)
 refine Ex.L9 (λq T' H' =>∃i:Nat,i<=O c.j7/\q=O c.j7 - i/\T' =[.any,.any,.ptr 0 0,.any,.any,.ptr 2 0,.func 70 [] [.ptr 0 0,.ptr 2 0],.func 73 [] [.ptr 0 0,.ptr 1 0],.ptr 3 0,.any,.any,.any,.any,.any,.any,.any,.any,.any,.any,.any,.any,.any,.any,.any,.any,.any,.d (s7 cw.enc c.j7),.d (Z (O c.j7)),.d (Z i),.any,.any,.any,.any,.any,.any,.any,.any,.any,.any,.any,.any,.any,.any,.any,.any,.any,.any,.any,.any,.any]/\H' =[.cells (c.enc.map .d),jI g,lM r,lM (fc 0 (aG c g r 0) (aK c g r 0) i)]) ?_ (k:=O c.j7) ⟨0,V,V,rfl,rfl⟩;rintro q T' H' ⟨i,hi,rfl,rfl,rfl⟩;refine Ex.seq ?_;refine tl (i:Int) (O c.j7:Int) (λh1=>?_) (λh1=>?_)
 .have g1:i<O c.j7:=V
  have g2:=dV 0 (aG c g r 0) (aK c g r 0) i;have g3:=hfl 0;have g4:=λst=>Qd st (fc 0 (aG c g r 0) (aK c g r 0) i) V 0 i (aG c g r 0 i)
  have ge:nY (fc 0 (aG c g r 0) (aK c g r 0) i) 0 i (aG c g r 0 i)=fc 0 (aG c g r 0) (aK c g r 0) (i+1):=rfl;rw [ge] at g4
  repeat' (first|refine Qb (m:=3) (UX _ _) rfl (cQ:=gK ..) (hcl:=G9 (gK ..)) (h2:=?_)|refine c0 (m:=4) (g4 _) rfl (cQ:=T3 ..) (hcl:=G9 (T3 ..)) (h2:=?_)|refine gx ?_|fail)
  exact ⟨O c.j7 - (i+1),V,_,_,B2 (j4 rfl) (T3 ..),i+1,V,rfl,rfl,rfl⟩
 obtain rfl:i=O c.j7:=V
 clear h1 hi;have ge:fc 0 (aG c g r 0) (aK c g r 0) (O c.j7)=aK c g r 1:=rfl;rw [ge];refine gr ?_;refine Ex.L9 (λq T' H' =>∃i:Nat,i<=O c.views/\q=O c.views - i/\T' =[.any,.any,.ptr 0 0,.any,.any,.ptr 2 0,.func 70 [] [.ptr 0 0,.ptr 2 0],.func 73 [] [.ptr 0 0,.ptr 1 0],.ptr 3 0,.any,.any,.any,.any,.any,.any,.any,.any,.any,.any,.any,.any,.any,.any,.any,.any,.any,.any,.any,.any,.d (s7 Vw.enc c.views),.d (Z (O c.views)),.d (Z i),.any,.any,.any,.any,.any,.any,.any,.any,.any,.any,.any,.any,.any,.any,.any,.any,.any,.any]/\H' =[.cells (c.enc.map .d),jI g,lM r,lM (fc 1 (aG c g r 1) (aK c g r 1) i)]) ?_ (k:=O c.views) ⟨0,V,V,rfl,rfl⟩;rintro q T' H' ⟨i,hi,rfl,rfl,rfl⟩;refine Ex.seq ?_;refine tl (i:Int) (O c.views:Int) (λh1=>?_) (λh1=>?_)
 .have g1:i<O c.views:=V
  have g2:=dV 1 (aG c g r 1) (aK c g r 1) i;have g3:=hfl 1;have g4:=λst=>Qd st (fc 1 (aG c g r 1) (aK c g r 1) i) V 1 i (aG c g r 1 i)
  have ge:nY (fc 1 (aG c g r 1) (aK c g r 1) i) 1 i (aG c g r 1 i)=fc 1 (aG c g r 1) (aK c g r 1) (i+1):=rfl;rw [ge] at g4
  repeat' (first|refine Qb (m:=3) (UX _ _) rfl (cQ:=gK ..) (hcl:=G9 (gK ..)) (h2:=?_)|refine c0 (m:=4) (g4 _) rfl (cQ:=T3 ..) (hcl:=G9 (T3 ..)) (h2:=?_)|refine gx ?_|fail)
  exact ⟨O c.views - (i+1),V,_,_,B2 (j4 rfl) (T3 ..),i+1,V,rfl,rfl,rfl⟩
 obtain rfl:i=O c.views:=V
 clear h1 hi;have ge:fc 1 (aG c g r 1) (aK c g r 1) (O c.views)=aK c g r 2:=rfl;rw [ge];refine gr ?_;refine Ex.L9 (λq T' H' =>∃i:Nat,i<=O c.idxs/\q=O c.idxs - i/\T' =[.any,.any,.ptr 0 0,.any,.any,.ptr 2 0,.func 70 [] [.ptr 0 0,.ptr 2 0],.func 73 [] [.ptr 0 0,.ptr 1 0],.ptr 3 0,.any,.any,.any,.any,.any,.any,.any,.any,.any,.any,.any,.any,.any,.any,.any,.any,.any,.any,.any,.any,.any,.any,.any,.d (s7 gZ.enc c.idxs),.d (Z (O c.idxs)),.d (Z i),.any,.any,.any,.any,.any,.any,.any,.any,.any,.any,.any,.any,.any,.any,.any]/\H' =[.cells (c.enc.map .d),jI g,lM r,lM (fc 2 (aG c g r 2) (aK c g r 2) i)]) ?_ (k:=O c.idxs) ⟨0,V,V,rfl,rfl⟩;rintro q T' H' ⟨i,hi,rfl,rfl,rfl⟩;refine Ex.seq ?_;refine tl (i:Int) (O c.idxs:Int) (λh1=>?_) (λh1=>?_)
 .have g1:i<O c.idxs:=V
  have g2:=dV 2 (aG c g r 2) (aK c g r 2) i;have g3:=hfl 2;have g4:=λst=>Qd st (fc 2 (aG c g r 2) (aK c g r 2) i) V 2 i (aG c g r 2 i)
  have ge:nY (fc 2 (aG c g r 2) (aK c g r 2) i) 2 i (aG c g r 2 i)=fc 2 (aG c g r 2) (aK c g r 2) (i+1):=rfl;rw [ge] at g4
  repeat' (first|refine Qb (m:=3) (UX _ _) rfl (cQ:=gK ..) (hcl:=G9 (gK ..)) (h2:=?_)|refine c0 (m:=4) (g4 _) rfl (cQ:=T3 ..) (hcl:=G9 (T3 ..)) (h2:=?_)|refine gx ?_|fail)
  exact ⟨O c.idxs - (i+1),V,_,_,B2 (j4 rfl) (T3 ..),i+1,V,rfl,rfl,rfl⟩
 obtain rfl:i=O c.idxs:=V
 clear h1 hi;have ge:fc 2 (aG c g r 2) (aK c g r 2) (O c.idxs)=aK c g r 3:=rfl;rw [ge];refine gr ?_;refine Ex.L9 (λq T' H' =>∃i:Nat,i<=O c.G7/\q=O c.G7 - i/\T' =[.any,.any,.ptr 0 0,.any,.any,.ptr 2 0,.func 70 [] [.ptr 0 0,.ptr 2 0],.func 73 [] [.ptr 0 0,.ptr 1 0],.ptr 3 0,.any,.any,.any,.any,.any,.any,.any,.any,.any,.any,.any,.any,.any,.any,.any,.any,.any,.any,.any,.any,.any,.any,.any,.any,.any,.any,.d (s7 gW.enc c.G7),.d (Z (O c.G7)),.d (Z i),.any,.any,.any,.any,.any,.any,.any,.any,.any,.any,.any,.any]/\H' =[.cells (c.enc.map .d),jI g,lM r,lM (fc 3 (aG c g r 3) (aK c g r 3) i)]) ?_ (k:=O c.G7) ⟨0,V,V,rfl,rfl⟩;rintro q T' H' ⟨i,hi,rfl,rfl,rfl⟩;refine Ex.seq ?_;refine tl (i:Int) (O c.G7:Int) (λh1=>?_) (λh1=>?_)
 .have g1:i<O c.G7:=V
  have g2:=dV 3 (aG c g r 3) (aK c g r 3) i;have g3:=hfl 3;have g4:=λst=>Qd st (fc 3 (aG c g r 3) (aK c g r 3) i) V 3 i (aG c g r 3 i)
  have ge:nY (fc 3 (aG c g r 3) (aK c g r 3) i) 3 i (aG c g r 3 i)=fc 3 (aG c g r 3) (aK c g r 3) (i+1):=rfl;rw [ge] at g4;have Wj:=OV c hs (Y c.G7 i).source;refine gr ?_;refine Ex.region (rg 1 (h:=?_));refine gm ?_;refine yl Wj ?_;refine gm ?_
  repeat' (first|refine cl (p75 (O9 c (Y c.G7 i).source,(Y c.G7 i).col) r hrl) ?_|refine c0 (m:=4) (g4 _) rfl (cQ:=T3 ..) (hcl:=G9 (T3 ..)) (h2:=?_)|refine gx ?_|fail)
  exact ⟨O c.G7 - (i+1),V,_,_,B2 (j4 rfl) (T3 ..),i+1,V,rfl,rfl,rfl⟩
 obtain rfl:i=O c.G7:=V
 clear h1 hi;have ge:fc 3 (aG c g r 3) (aK c g r 3) (O c.G7)=aK c g r 4:=rfl;rw [ge];refine gr ?_;refine Ex.L9 (λq T' H' =>∃i:Nat,i<=O c.I5/\q=O c.I5 - i/\T' =[.any,.any,.ptr 0 0,.any,.any,.any,.func 70 [] [.ptr 0 0,.ptr 2 0],.func 73 [] [.ptr 0 0,.ptr 1 0],.ptr 3 0,.any,.any,.any,.any,.any,.any,.any,.any,.any,.any,.any,.any,.any,.any,.any,.any,.any,.any,.any,.any,.any,.any,.any,.any,.any,.any,.any,.any,.any,.d (s7 jK.enc c.I5),.d (Z (O c.I5)),.d (Z i),.any,.any,.any,.any,.any,.any,.any,.any,.any]/\H' =[.cells (c.enc.map .d),jI g,lM r,lM (fc 4 (aG c g r 4) (aK c g r 4) i)]) ?_ (k:=O c.I5) ⟨0,V,V,rfl,rfl⟩;rintro q T' H' ⟨i,hi,rfl,rfl,rfl⟩;refine Ex.seq ?_;refine tl (i:Int) (O c.I5:Int) (λh1=>?_) (λh1=>?_)
 .have g1:i<O c.I5:=V
  have g2:=dV 4 (aG c g r 4) (aK c g r 4) i;have g3:=hfl 4;have g4:=λst=>Qd st (fc 4 (aG c g r 4) (aK c g r 4) i) V 4 i (aG c g r 4 i)
  have ge:nY (fc 4 (aG c g r 4) (aK c g r 4) i) 4 i (aG c g r 4 i)=fc 4 (aG c g r 4) (aK c g r 4) (i+1):=rfl;rw [ge] at g4
  repeat' (first|refine Qb (m:=3) (UX _ _) rfl (cQ:=gK ..) (hcl:=G9 (gK ..)) (h2:=?_)|refine c0 (m:=4) (g4 _) rfl (cQ:=T3 ..) (hcl:=G9 (T3 ..)) (h2:=?_)|refine gx ?_|fail)
  exact ⟨O c.I5 - (i+1),V,_,_,B2 (j4 rfl) (T3 ..),i+1,V,rfl,rfl,rfl⟩
 obtain rfl:i=O c.I5:=V
 clear h1 hi;have ge:fc 4 (aG c g r 4) (aK c g r 4) (O c.I5)=aK c g r 5:=rfl;rw [ge];refine gr ?_;refine Ex.L9 (λq T' H' =>∃i:Nat,i<=O c.J5/\q=O c.J5 - i/\T' =[.any,.any,.ptr 0 0,.any,.any,.any,.func 70 [] [.ptr 0 0,.ptr 2 0],.func 73 [] [.ptr 0 0,.ptr 1 0],.ptr 3 0,.any,.any,.any,.any,.any,.any,.any,.any,.any,.any,.any,.any,.any,.any,.any,.any,.any,.any,.any,.any,.any,.any,.any,.any,.any,.any,.any,.any,.any,.any,.any,.any,.d (s7 jD.enc c.J5),.d (Z (O c.J5)),.d (Z i),.any,.any,.any,.any,.any,.any]/\H' =[.cells (c.enc.map .d),jI g,lM r,lM (fc 5 (aG c g r 5) (aK c g r 5) i)]) ?_ (k:=O c.J5) ⟨0,V,V,rfl,rfl⟩;rintro q T' H' ⟨i,hi,rfl,rfl,rfl⟩;refine Ex.seq ?_;refine tl (i:Int) (O c.J5:Int) (λh1=>?_) (λh1=>?_)
 .have g1:i<O c.J5:=V
  have g2:=dV 5 (aG c g r 5) (aK c g r 5) i;have g3:=hfl 5;have g4:=λst=>Qd st (fc 5 (aG c g r 5) (aK c g r 5) i) V 5 i (aG c g r 5 i)
  have ge:nY (fc 5 (aG c g r 5) (aK c g r 5) i) 5 i (aG c g r 5 i)=fc 5 (aG c g r 5) (aK c g r 5) (i+1):=rfl;rw [ge] at g4
  repeat' (first|refine Qb (m:=3) (UX _ _) rfl (cQ:=gK ..) (hcl:=G9 (gK ..)) (h2:=?_)|refine c0 (m:=4) (g4 _) rfl (cQ:=T3 ..) (hcl:=G9 (T3 ..)) (h2:=?_)|refine gx ?_|fail)
  exact ⟨O c.J5 - (i+1),V,_,_,B2 (j4 rfl) (T3 ..),i+1,V,rfl,rfl,rfl⟩
 obtain rfl:i=O c.J5:=V
 clear h1 hi;have ge:fc 5 (aG c g r 5) (aK c g r 5) (O c.J5)=aK c g r 6:=rfl;rw [ge];refine gr ?_;refine Ex.L9 (λq T' H' =>∃i:Nat,i<=O c.J6/\q=O c.J6 - i/\T' =[.any,.any,.ptr 0 0,.any,.any,.any,.any,.func 73 [] [.ptr 0 0,.ptr 1 0],.ptr 3 0,.any,.any,.any,.any,.any,.any,.any,.any,.any,.any,.any,.any,.any,.any,.any,.any,.any,.any,.any,.any,.any,.any,.any,.any,.any,.any,.any,.any,.any,.any,.any,.any,.any,.any,.any,.d (s7 me.enc c.J6),.d (Z (O c.J6)),.d (Z i),.any,.any,.any]/\H' =[.cells (c.enc.map .d),jI g,lM r,lM (fc 6 (aG c g r 6) (aK c g r 6) i)]) ?_ (k:=O c.J6) ⟨0,V,V,rfl,rfl⟩;rintro q T' H' ⟨i,hi,rfl,rfl,rfl⟩;refine Ex.seq ?_;refine tl (i:Int) (O c.J6:Int) (λh1=>?_) (λh1=>?_)
 .have g1:i<O c.J6:=V
  have g2:=dV 6 (aG c g r 6) (aK c g r 6) i;have g3:=hfl 6;have g4:=λst=>Qd st (fc 6 (aG c g r 6) (aK c g r 6) i) V 6 i (aG c g r 6 i)
  have ge:nY (fc 6 (aG c g r 6) (aK c g r 6) i) 6 i (aG c g r 6 i)=fc 6 (aG c g r 6) (aK c g r 6) (i+1):=rfl;rw [ge] at g4
  repeat' (first|refine Qb (m:=2) (h73 _ _) rfl (cQ:=zQ ..) (hcl:=G9 (zQ ..)) (h2:=?_)|refine c0 (m:=4) (g4 _) rfl (cQ:=T3 ..) (hcl:=G9 (T3 ..)) (h2:=?_)|refine gx ?_|fail)
  exact ⟨O c.J6 - (i+1),V,_,_,B2 (j4 rfl) (T3 ..),i+1,V,rfl,rfl,rfl⟩
 obtain rfl:i=O c.J6:=V
 clear h1 hi;have ge:fc 6 (aG c g r 6) (aK c g r 6) (O c.J6)=aK c g r 7:=rfl;rw [ge];refine gr ?_;refine Ex.L9 (λq T' H' =>∃i:Nat,i<=O c.L4/\q=O c.L4 - i/\T' =[.any,.any,.any,.any,.any,.any,.any,.func 73 [] [.ptr 0 0,.ptr 1 0],.ptr 3 0,.any,.any,.any,.any,.any,.any,.any,.any,.any,.any,.any,.any,.any,.any,.any,.any,.any,.any,.any,.any,.any,.any,.any,.any,.any,.any,.any,.any,.any,.any,.any,.any,.any,.any,.any,.any,.any,.any,.d (s7 mc.enc c.L4),.d (Z (O c.L4)),.d (Z i)]/\H' =[.cells (c.enc.map .d),jI g,lM r,lM (fc 7 (aG c g r 7) (aK c g r 7) i)]) ?_ (k:=O c.L4) ⟨0,V,V,rfl,rfl⟩;rintro q T' H' ⟨i,hi,rfl,rfl,rfl⟩;refine Ex.seq ?_;refine tl (i:Int) (O c.L4:Int) (λh1=>?_) (λh1=>?_)
 .have g1:i<O c.L4:=V
  have g2:=dV 7 (aG c g r 7) (aK c g r 7) i;have g3:=hfl 7;have g4:=λst=>Qd st (fc 7 (aG c g r 7) (aK c g r 7) i) V 7 i (aG c g r 7 i)
  have ge:nY (fc 7 (aG c g r 7) (aK c g r 7) i) 7 i (aG c g r 7 i)=fc 7 (aG c g r 7) (aK c g r 7) (i+1):=rfl;rw [ge] at g4
  repeat' (first|refine c1 (m:=2) (p76 _ c hs (Y c.L4 i).tables (p7 (hs.bk i g1) (by decide)) g V) rfl ?_ (cQ:=zQ ..) (hcl:=G9 (zQ ..))|refine c0 (m:=4) (g4 _) rfl (cQ:=T3 ..) (hcl:=G9 (T3 ..)) (h2:=?_)|refine gx ?_|fail)
  exact ⟨O c.L4 - (i+1),V,_,_,B2 (j4 rfl) (T3 ..),i+1,V,rfl,rfl,rfl⟩
 obtain rfl:i=O c.L4:=V
 clear h1 hi;have ge:fc 7 (aG c g r 7) (aK c g r 7) (O c.L4)=aK c g r 8:=rfl;rw [ge];refine gr ?_;exact ⟨_,rfl,rfl⟩
end Go.Proofs.YtibjocmpkoepoaaGreat


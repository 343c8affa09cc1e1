import Derived.Test.YtibjocmpkoepoaaGreatN2
import Derived.Test.YtibjocmpkoepoaaGreatN0
set_option linter.all false
open Bool renaming and_eq_true→c8,or_eq_false_iff→E5,true→W,false→F
open List renaming getElem_of_mem→O8,mem_singleton→y3,length→O
open Nat renaming le_of_ble_eq_true→l5,le_trans→A3,mul_le_mul_right→K4,zero_le→A4
open Option renaming some→J,none→K
namespace Go.Proofs.YtibjocmpkoepoaaGreat
open Go.B3 Go.B3.S Go.B3.Sh
attribute [local irreducible] Rx Ry Rn Ex Pf Rl
section
variable [Inhabited pg]
def bk8:Sh.Spec:=⟨176,[.ptr 1 0,.d (iR 1 2)],[zC,.pr 0],l1,[(vV,[zC,.pr 0])]⟩
def bS5:Sh.Spec:=⟨232,[.ptr 1 0,.d (iR 1 2)],[zC,.pr 0],l1,[(vV,[zC,.pr 0])]⟩
theorem YC {xs:List Int}(hx:O xs<=35184372088832)(g:s6):bk8.ok (eX xs g) A:=fM hx (l:=[]) (kp:=[]) (js:=[]) .nil rfl rfl (by kernel_rfl)
theorem bK8 {xs:List Int}(hx:O xs<=35184372088832)(g:s6):bS5.ok (eX xs g) A:=fM hx (l:=[Zn,Zo]) (kp:=[]) (js:=[]) (.cons (aq6 hx g) (.cons (aq7 hx g) .nil)) rfl rfl (by kernel_rfl)
def noC:s6:=⟨[],[],[],[],[],[],[],[]⟩
def bm8 {C:Ctx}{vs:List Nat}{v:c7}(h:vV.g C vs v):∃x:Vl,v= .agg (x.enc.map .d):=by
 have _:Inhabited pg:=inferInstance;simp only [vV,Sh.SV.g] at h;obtain ⟨cs,rfl,h0,_⟩:=h;obtain ⟨ds,rfl,h3⟩:=Xg (l:=[iR 0 2,sI,.str 100]) h0;obtain ⟨a,_,rfl,h1,h3⟩:=sc h3;obtain ⟨b,_,rfl,h2,h3⟩:=sc h3;obtain ⟨d,rfl,h4⟩:=s1 h3;simp only [iR,SD.g] at h1;obtain ⟨k,rfl,_⟩:=h1;obtain ⟨n,rfl⟩:=dI h2;simp only [SD.g] at h4;obtain ⟨s,rfl,_⟩:=h4;exact ⟨⟨k,n,s⟩,rfl⟩
def Sn (xs:List Int)(g:s6)(vs:List Nat){q:Nat}(hq:q<=4 * O xs):M0.g (eX xs g) vs [zC,.pr 0] [zO,tp xs q]:=by
 simp only [M0.g];exact ⟨_,_,rfl,Sv,_,_,rfl,⟨q,hq,rfl⟩,rfl⟩
def Sq {xs:List Int}{g:s6}{vs:List Nat}{H:n9}(h:M0.g (eX xs g) vs [zC,.pr 0] H):∃q,q<=4 * O xs/\H=[zO,tp xs q]:=by
 simp only [M0.g] at h;obtain ⟨oz,_,rfl,hz,_,_,rfl,⟨q,hq,rfl⟩,rfl⟩:=h;rw [Sw hz];exact ⟨q,hq,rfl⟩
def JU {xs:List Int}{f:FuncId}(ho:(⟨f,[.ptr 1 0,.d (iR 1 2)],[zC,.pr 0],l1,[(vV,[zC,.pr 0])]⟩:Sh.Spec).ok (eX xs noC) A){q:Nat}(hq:q<=4 * O xs){t:Int}(ht:1<=t/\t<=2) :
  ∃(x:Vl) (q' :Nat),q' <=4 * O xs/\Pm A f [.ptr 1 0,.d (Z t)] [zO,tp xs q] l1 (.agg (x.enc.map .d)) [zO,tp xs q']:=by
 obtain ⟨v,H1,⟨o,o1,o2,o3⟩,p⟩:=ho.2 [.ptr 1 0,.d (Z t)] [zO,tp xs q] (by
  simp only [Sh.B6.g];exact ⟨_,_,rfl,rfl,_,_,rfl,dO (by simp only [iR,Sh.SD.g];exact ⟨t,rfl,ht.1,ht.2,trivial⟩),rfl⟩) (Sn xs noC [] hq)
 have:=y3.1 o1;subst this;obtain ⟨x,rfl⟩:=bm8 o2;obtain ⟨q',Rq,rfl⟩:=Sq o3;exact ⟨x,q',Rq,p⟩
def jW {xs:List Int}(hx:O xs<=35184372088832){q:Nat}(hq:q<=4 * O xs)(n:Int)(hn:n<=1000000):∃(r:Int) (q' :Nat),q' <=4 * O xs/\0<=r/\(2<=n->r<n)/\(n<2->r=0)/\Pm A 22 [.ptr 1 0,.d (Z n)] [zO,tp xs q] l1 (.d (Z r)) [zO,tp xs q']:=by
 have _:Inhabited pg:=inferInstance;obtain ⟨_,_,⟨r,q',rfl,h1,h2,h3,h4,rfl⟩,p⟩:=aB2 zO xs q n l1 hx hq hn rfl;exact ⟨r,q',h4,h1,h2,h3,p⟩
def WE {c:s6}{ts:List (List X9)}(h:qf c ts){i:Nat}(hi:i<O ts):O (Y ts i)<=64:=(h.t i hi).1
set_option maxHeartbeats 4000000 in
def bd9 {xs:List Int}(hx:O xs<=35184372088832){q:Nat}(hq:q<=4 * O xs)(c:s6)(hs:J8 c)(hv:M1 c=W)(ts:List (List X9))(h:qf c ts)(i k:Nat)(hi:i<O c.k9)(hk:k<O (Y c.k9 i).p9) :
  ∃(v:Vl) (q' :Nat),q' <=4 * O xs/\Pm A 175 [.ptr 1 0,cat c,.d (V9 ts),.agg ((Y (Y c.k9 i).p9 k).enc.map .d)] [zO,tp xs q] l1 (.agg (v.enc.map .d)) [zO,tp xs q']:=by
 have h4:=lz (Z9 ((eG hv).1 i (by have:=Y3 c;unfold s6.ns at this;omega)) hi);have az5:=h4.2.2 _ (P6 hk);have hrf:=RS hv hi hk;have hn:=h.n;generalize Y (Y c.k9 i).p9 k=x at az5 hrf;have uQ:1<=x.type/\x.type<=2:=by rcases az5 with e|e<;>omega
 have p1:=aN5 c hs x.refs;obtain ⟨r,q1,hq1,r1,r2,r3,pN⟩:=jW hx hq 8 V;obtain ⟨va,qa,hqa,pa⟩:=JU (YC hx noC) hq1 uQ;obtain ⟨vb,qb,hqb,pb⟩:=JU (bK8 hx noC) hq1 uQ;have key:Pq A 175 [.ptr 1 0,cat c,.d (V9 ts),.agg (x.enc.map .d)] [zO,tp xs q] l1 λw H1=>∃(v:Vl) (q' :Nat),q' <=4 * O xs/\w= .agg (v.enc.map .d)/\H1=[zO,tp xs q']:=by
  refine Pq.go (b:=2) 4 ?_;refine gr ?_;refine Ex.test (Rn.text ?_)
  repeat' (first|refine c0 pN rfl (HD:=[.cells (c.enc.map .d),.cells (x.enc.map .d),.cells [.d (Z 0),.d (Z 0),.d (.str [])]]) (h2:=?_)|refine gx ?_|fail)
  refine ⟨_,rfl,λht=>?_,λht=>?_⟩
  .refine gr ?_
   exact ⟨_,_,rfl,⟨0,0,[]⟩,q1,hq1,rfl,rfl⟩
  refine gr ?_
  by_cases hr:Q2 x.refs []=F
  .refine tc W trivial (λ_=>?_) (λh=>by cases h)
   obtain ⟨k1,k2⟩:=hrf hr;have hf:(oE c x.refs).toNat<O ts:=V
   have hl:=WE h hf;refine gc p1 ?_;refine tc (A1 (O (Y ts (oE c x.refs).toNat)) 0) trivial (λh1=>?_) (λh1=>?_)
   .refine gr ?_
    exact ⟨_,_,rfl,⟨0,0,[]⟩,q1,hq1,rfl,rfl⟩
   have h1:=qz h1;obtain ⟨j,q2,IP,j1,j2,j3,pN2⟩:=jW hx hq1 (O (Y ts (oE c x.refs).toNat)) V;have hj:j.toNat<O (Y ts (oE c x.refs).toNat):=V
   have Va:=(h.row hv hf hj).2.1
   repeat' (first|refine c0 pN2 rfl (HD:=[.cells (c.enc.map .d),.cells (x.enc.map .d),.cells [.d (Z 0),.d (Z 0),.d (.str [])]]) (h2:=?_)|refine gx ?_|fail)
   exact ⟨_,_,rfl,Y (Y (Y ts (oE c x.refs).toNat) j.toNat).row 0,q2,IP,rfl,rfl⟩
  .have hr:Q2 x.refs []=W:=by simpa using hr
   refine tc F trivial (λh=>by cases h) (λh=>?_);refine gr ?_;refine Ex.test (Rn.text ?_);refine gr ?_;refine ⟨_,rfl,λht=>?_,λht=>?_⟩
   .repeat' (first|refine c0 pa rfl (HD:=[.cells (c.enc.map .d),.cells (x.enc.map .d),.cells [.d (Z 0),.d (Z 0),.d (.str [])]]) (h2:=?_)|refine gx ?_|fail)
    exact ⟨_,_,rfl,va,qa,hqa,rfl,rfl⟩
   .repeat' (first|refine c0 pb rfl (HD:=[.cells (c.enc.map .d),.cells (x.enc.map .d),.cells [.d (Z 0),.d (Z 0),.d (.str [])]]) (h2:=?_)|refine gx ?_|fail)
    exact ⟨_,_,rfl,vb,qb,hqb,rfl,rfl⟩
 obtain ⟨_,_,⟨v,q',Rq,rfl,rfl⟩,p⟩:=key;exact ⟨v,q',Rq,p⟩
end
end Go.Proofs.YtibjocmpkoepoaaGreat
namespace Go.B3.S
def lqa {A:Prog}{l:H8}{b:Nat}{dr:Bool}{j9 ops:List o4}{T:List c7}{H:n9}{n:Nat}{rl:List c7}{o5:List Touch}{Q:List c7->n9->List c7->Prop}{x:z6}{u:List Nat}{id o m:Nat}{vs ws:List c7}(hr:rd H id o m=J vs)(hv:vs.map c7.F4=ws)(h2:Ry A l b dr j9 ops T H (n+1) (.agg ws::rl) o5 Q)(hx:rq T n rl x= .ptr id o:=by rfl) :
  Ry A l b dr j9 (⟨.load (J m) x,K,K,u⟩::ops) T H n rl o5 Q:=Ry.pure (rs:=[id]) rfl (by simp_all [l8]) h2
end Go.B3.S
namespace Go.Proofs.YtibjocmpkoepoaaGreat
open Go.B3 Go.B3.S Go.B3.Sh
attribute [local irreducible] Rx Ry Rn Ex Pf Rl
def aY (x:jw)(r:c7):List c7:=[.d (Z x.op),.d (Z x.seq),.d (Z x.day),.d (Z x.W5),r,.d (Z x.key.k),.d (Z x.key.n),.d (.str x.key.t),.d (Z x.col),.d (Z x.val.k),.d (Z x.val.n),.d (.str x.val.t)]
def z12:List c7:=[.d (Z 0),.d (Z 0),.d (Z 0),.d (Z 0),.own 3 0 [],.d (Z 0),.d (Z 0),.d (.str []),.d (Z 0),.d (Z 0),.d (Z 0),.d (.str [])]
def kinds:List Int:=[1,1,1,2,2,3]
def aO9 {n:Nat}(h:n<=1000):roomFor n 32=W:=by
 refine decide_eq_true ?_;omega
def Yj {r:Int}(h0:0<=r)(h1:r<6):Y kinds r.toNat=1\/Y kinds r.toNat=2\/Y kinds r.toNat=3:=by
 grind [H6,kinds]
section
variable [Inhabited pg]
def JR (xs:List Int)(q:Nat)(X:n9):I4 ([zO,tp xs q]++X) 2 8 2=2:=have _:Inhabited pg:=inferInstance;mZ (by simp [Q5])
def bB9 {xs:List Int}(hx:O xs<=35184372088832){q:Nat}(hq:q<=4 * O xs)(c:s6)(hn:O c.k9<=1000)(h0:0<O c.k9)(ts:List (List X9))(seq day:Int)(w1 w7 w8 w9 w10 Ww:c7)(Q:E6->St->Prop)
  (IP:∀(op W5:Int) (q' :Nat),(op=1\/op=2\/op=3)->0<=W5->W5<O c.k9->q' <=4 * O xs->Q .normal ⟨[.ptr 1 0,w1,.d (V9 ts),.d (Z seq),.d (Z day),.ptr 2 0,.ptr 3 0,.ptr 4 0,w8,w9,w10,Ww],[zO,tp xs q',.cells (c.enc.map .d),.cells z12,.cells (aY ⟨op,seq,day,W5,[],⟨0,0,[]⟩,0,⟨0,0,[]⟩⟩ (.own 3 0 []))]⟩) :
  Ex A l1 2 (match aW1.body with| .seq _ (.seq r _)=>r|c=>c) ⟨[.ptr 1 0,w1,.d (V9 ts),.d (Z seq),.d (Z day),.ptr 2 0,.ptr 3 0,w7,w8,w9,w10,Ww],[zO,tp xs q,.cells (c.enc.map .d),.cells z12]⟩ Q:=by
 obtain ⟨r,q1,hq1,r1,r2,_,pN⟩:=jW hx hq 6 V;obtain ⟨j,q2,hqq,j1,j2,j3,pN2⟩:=jW hx hq1 (O c.k9:Int) V;have hr6:r<6:=r2 V;refine Ex.region (Rn.Fe 4 [zO,tp xs q,.cells (c.enc.map .d),.cells z12,.dead] [.slot 7] rfl rfl rfl ?_);refine yp (rs:=[]) (.own 1 6 [Z 1,Z 1,Z 1,Z 2,Z 2,Z 3]) rfl ?_;refine ym ?_;refine yc [.cells (c.enc.map .d),.cells z12,.dead] [zO,tp xs q1,.cells (c.enc.map .d),.cells z12,.dead] pN rfl (A4 _) (JR _ _ _) rfl U rfl rfl rfl ?_;refine yp _ (aN3 (enc:=λn:Int=>[Z n]) (xs:=kinds) (λ_=>rfl) rfl rfl r1 hr6) ?_;refine yp _ (bN3 rfl) ?_;refine ym ?_;refine ym ?_;refine ym ?_;refine yp _ (AM rfl) ?_;refine yp _ (Wv (v:= .d (B8 jt.enc c.k9)) rfl rfl rfl) ?_;refine yp _ (bN4 rfl) ?_;refine yc [.cells (c.enc.map .d),.cells z12,.dead] [zO,tp xs q2,.cells (c.enc.map .d),.cells z12,.dead] pN2 rfl (A4 _) (JR _ _ _) rfl U rfl rfl rfl ?_;refine yp (rs:=[]) (.agg (aY ⟨Y kinds r.toNat,seq,day,j,[],⟨0,0,[]⟩,0,⟨0,0,[]⟩⟩ (.own 3 0 []))) rfl ?_;refine yal 5 [.ptr 1 0,w1,.d (V9 ts),.d (Z seq),.d (Z day),.ptr 2 0,.ptr 3 0,.ptr 4 0,w8,w9,w10,Ww] [zO,tp xs q2,.cells (c.enc.map .d),.cells z12,.cells z12] U rfl rfl rfl rfl ?_;refine ys rfl ⟨rfl,rfl⟩ rfl rfl rfl (.inl (A4 _)) rfl ?_;refine yn (IP _ _ _ (Yj r1 hr6) j1 V hqq) ?_;rfl
set_option maxHeartbeats 8000000 in
def aM8 {xs:List Int}(hx:O xs<=35184372088832){q:Nat}(hq:q<=4 * O xs)(c:s6)(hs:J8 c)(hv:M1 c=W)(h0:0<O c.k9)(ts:List (List X9))(h:qf c ts)(seq day:Int) :
  ∃(x:jw) (q' :Nat),Up c x/\q' <=4 * O xs/\Pm A 120 [.ptr 1 0,cat c,.d (V9 ts),.d (Z seq),.d (Z day)] [zO,tp xs q] l1 (.agg (x.enc.map .d)) [zO,tp xs q']:=by
 have hn:=h.n;have EX:=hs.sm.lH.1;have key:Pq A 120 [.ptr 1 0,cat c,.d (V9 ts),.d (Z seq),.d (Z day)] [zO,tp xs q] l1 λw H1=>∃(x:jw) (q' :Nat),Up c x/\q' <=4 * O xs/\w= .agg (x.enc.map .d)/\H1=[zO,tp xs q']:=by
  refine Pq.go (b:=2) 7 ?_;refine Ex.seq ?_;refine gr ?_;refine bB9 hx hq c EX h0 ts seq day _ _ _ _ _ _ _ (λop W5 q1 ho t0 t1 hq1=>?_);have ht:W5.toNat<O c.k9:=V
  have hw:=aB0 hv W5.toNat ht;have hcl:=(aA hv ht).1;obtain ⟨t,hT⟩:∃t,Y c.k9 W5.toNat=t:=⟨_,rfl⟩;refine gr ?_;rw [hT];rw [hT] at hw hcl;refine tc (A1 op 1) trivial (λh1=>?_) (λh1=>?_)
  .have ho1:=aT h1
   subst ho1;refine Ex.seq ?_;refine gr ?_;refine Ex.gX (λk T' H' =>∃(j:Nat) (q:Nat) (row:List Vl),j<=O t.p9/\k=O t.p9 - j/\O row=j/\q<=4 * O xs/\T' =[.ptr 1 0,.any,.d (V9 ts),.any,.any,.ptr 2 0,.ptr 3 0,.ptr 4 0,.d (B8 dY.enc t.p9),.d (Z j),.any,.any]/\H' =[zO,tp xs q,.cells (c.enc.map .d),.cells z12,.cells (aY ⟨1,seq,day,W5,[],⟨0,0,[]⟩,0,⟨0,0,[]⟩⟩ (L1 3 Vl.enc row))]) ?_ (k:=O t.p9) ⟨0,q1,[],V,V,rfl,hq1,rfl,rfl⟩;rintro k T' H' ⟨j,q2,row,hj,rfl,hrl,IP,rfl,rfl⟩;refine Ex.seq ?_;refine tl (j:Int) (O t.p9:Int) (λh2=>?_) (λh2=>?_)
   .have hj2:j<O t.p9:=V
    obtain ⟨v,q3,hq3,pv⟩:=bd9 hx IP c hs hv ts h W5.toNat j ht (by rw [hT];exact hj2);rw [hT] at pv;have hg:=(lz (Z9 ((eG hv).1 W5.toNat (by have:=Y3 c;unfold s6.ns at this;omega)) ht)).2.2;rw [hT] at hg;have Wq:=hg _ (P6 (show 0<O t.p9 by omega));obtain ⟨kv,q4,hq4,pK⟩:=JU (YC hx noC) hq3 (t:=(Y t.p9 0).type) (by rcases Wq with e|e<;>omega);refine Ex.skip ?_;refine Ex.seq ?_;refine Ex.block ?_;refine Ex.seq ?_;generalize hX:B4.cells (aY ⟨1,seq,day,W5,[],⟨0,0,[]⟩,0,⟨0,0,[]⟩⟩ (L1 3 Vl.enc row))=X;refine Ex.region (Rn.Fe 5 [zO,tp xs q2,.cells (c.enc.map .d),.cells z12,X,.dead] [.slot 10] rfl rfl rfl ?_);refine ym ?_;refine yp _ (Vv (vs:=c.enc.map .d) rfl rfl rfl) ?_;refine ym ?_;refine ym ?_;refine ym ?_;refine yp _ (aN3 (enc:=dY.enc) (λ_=>rfl) rfl rfl (Int.natCast_nonneg j) h2) ?_;refine yp _ (aB1 (cs:=(Y t.p9 j).enc) rfl rfl) ?_;refine yc [.cells (c.enc.map .d),.cells z12,X,.dead] [zO,tp xs q3,.cells (c.enc.map .d),.cells z12,X,.dead] pv rfl (A4 _) (JR _ _ _) rfl U rfl rfl rfl ?_;refine yal 6 [.ptr 1 0,.any,.d (V9 ts),.any,.any,.ptr 2 0,.ptr 3 0,.ptr 4 0,.d (B8 dY.enc t.p9),.d (Z j),.ptr 5 0,.any] [zO,tp xs q3,.cells (c.enc.map .d),.cells z12,X,.cells [.d (Z 0),.d (Z 0),.d (.str [])]] U rfl rfl rfl rfl ?_;refine ys (v:= .agg (v.enc.map .d)) (cs:=v.enc.map .d) (H2:=[zO,tp xs q3,.cells (c.enc.map .d),.cells z12,X,.cells (v.enc.map .d)]) rfl ⟨rfl,rfl⟩ rfl rfl rfl (.inl (A4 _)) rfl ?_;refine yn ?_ (by simp [fK,I9,Touch.G8,s7.makes,s7.A6]);subst hX;refine Ex.seq ?_;refine Ex.aa4 (λst=>∃(u:Vl) (q:Nat),q<=4 * O xs/\st=⟨[.ptr 1 0,.any,.d (V9 ts),.any,.any,.ptr 2 0,.ptr 3 0,.ptr 4 0,.d (B8 dY.enc t.p9),.d (Z j),.ptr 5 0,.any],[zO,tp xs q,.cells (c.enc.map .d),.cells z12,.cells (aY ⟨1,seq,day,W5,[],⟨0,0,[]⟩,0,⟨0,0,[]⟩⟩ (L1 3 Vl.enc row)),.cells (u.enc.map .d)]⟩) ?_ ?_
    .refine te trivial ?_ ?_
     .repeat' (first|refine c0 pK rfl (HD:=[.cells (c.enc.map .d),.cells z12,.cells (aY ⟨1,seq,day,W5,[],⟨0,0,[]⟩,0,⟨0,0,[]⟩⟩ (L1 3 Vl.enc row)),.cells (v.enc.map .d)]) (h2:=?_)|refine gx ?_|fail)
      exact ⟨kv,q4,hq4,rfl⟩
     .refine gr ?_
      exact ⟨v,q3,hq3,rfl⟩
    .rintro _ ⟨u,q5,hq5,rfl⟩
     repeat' (first|refine oN (enc:=Vl.enc) u ?_|refine acN (enc:=Vl.enc) (xs:=row) u (aO9 V) (h2:=?_)|refine soO (h2:=?_)|refine ad V ?_|refine gx ?_|fail)
     refine ⟨O t.p9 - (j+1),V,_,_,ah (l5 rfl) (l5 rfl),j+1,q5,row++[u],V,rfl,by simp [hrl],hq5,rfl,rfl⟩
   .refine Ex.exit ?_
    refine Ex.seq ?_;refine Ex.region (Rn.text ?_);refine lqa (vs:=aY ⟨1,seq,day,W5,[],⟨0,0,[]⟩,0,⟨0,0,[]⟩⟩ (L1 3 Vl.enc row)) rfl rfl ?_;refine gr ?_;have hjl:O row=O t.p9:=V
    refine ⟨_,_,rfl,⟨1,seq,day,W5,row,⟨0,0,[]⟩,0,⟨0,0,[]⟩⟩,q2,⟨t0,t1,.inl rfl,?_,Int.le_refl _,?_⟩,IP,rfl,rfl⟩
    .simp only [if_true,hT,hjl]
    .simp only [hT]
     omega
  .have hg:=(lz (Z9 ((eG hv).1 W5.toNat (by have:=Y3 c;unfold s6.ns at this;omega)) ht)).2.2
   rw [hT] at hg;have Wq:=hg _ (P6 (show 0<O t.p9 by omega));have htn:W5.toNat<O ts:=V
   have hfl:=WE h htn;have ho1:=qz h1;obtain ⟨kv,q2,IP,pK⟩:=JU (YC hx noC) hq1 (t:=(Y t.p9 0).type) (by rcases Wq with e|e<;>omega);refine Ex.skip ?_;refine Ex.seq ?_;refine Ex.region (Rn.text ?_);refine gr ?_;refine c0 pK rfl (HD:=[.cells (c.enc.map .d),.cells z12,.cells (aY ⟨op,seq,day,W5,[],⟨0,0,[]⟩,0,⟨0,0,[]⟩⟩ (.own 3 0 []))]) (h2:=?_);refine gr ?_;refine soy (cs:=kv.enc.map .d) (H2:=[zO,tp xs q2,.cells (c.enc.map .d),.cells z12,.cells (aY ⟨op,seq,day,W5,[],kv,0,⟨0,0,[]⟩⟩ (.own 3 0 []))]) rfl ⟨rfl,rfl⟩ rfl rfl rfl (.inl (A4 _)) rfl ?_;refine gr ?_;refine Ex.aa4 (λst=>∃(kv:Vl) (q:Nat),q<=4 * O xs/\st=⟨[.ptr 1 0,cat c,.d (V9 ts),.d (Z seq),.d (Z day),.ptr 2 0,.ptr 3 0,.ptr 4 0,.d (B8 dY.enc t.p9),.any,.any,.d (AN (Y ts W5.toNat))],[zO,tp xs q,.cells (c.enc.map .d),.cells z12,.cells (aY ⟨op,seq,day,W5,[],kv,0,⟨0,0,[]⟩⟩ (.own 3 0 []))]⟩) ?_ ?_
   .obtain ⟨r8,q4,hq4,_,_,_,p8⟩:=jW hx IP 8 V
    refine Ex.test (Rn.text ?_);refine gr ?_;refine fk (h1:=λhw=>?_) (h2:=λhw=>?_)
    .have hl0:=F5 hw
     obtain ⟨j,q5,hq5,j1,j2,j3,pj⟩:=jW hx hq4 (O (Y ts W5.toNat)) V;have hj:j.toNat<O (Y ts W5.toNat):=V
     have Va:=(h.row hv htn hj).2.1;refine gr ?_;refine c0 p8 rfl (HD:=[.cells (c.enc.map .d),.cells z12,.cells (aY ⟨op,seq,day,W5,[],kv,0,⟨0,0,[]⟩⟩ (.own 3 0 []))]) (h2:=?_);refine gr ?_;refine ⟨_,rfl,λ_=>?_,λ_=>?_⟩
     .refine gr ?_
      refine c0 pj rfl (HD:=[.cells (c.enc.map .d),.cells z12,.cells (aY ⟨op,seq,day,W5,[],kv,0,⟨0,0,[]⟩⟩ (.own 3 0 []))]) (h2:=?_);refine gr ?_;refine soy (cs:=(Y (Y (Y ts W5.toNat) j.toNat).row 0).enc.map .d) (H2:=[zO,tp xs q5,.cells (c.enc.map .d),.cells z12,.cells (aY ⟨op,seq,day,W5,[],Y (Y (Y ts W5.toNat) j.toNat).row 0,0,⟨0,0,[]⟩⟩ (.own 3 0 []))]) rfl ⟨rfl,rfl⟩ rfl rfl rfl (.inl (A4 _)) rfl ?_;refine gx ?_;exact ⟨_,q5,hq5,rfl⟩
     .refine Ex.skip ?_
      exact ⟨kv,q4,hq4,rfl⟩
    .refine gr ?_
     refine ⟨_,rfl,λhf=>?_,λ_=>?_⟩
     .cases hf
     .refine Ex.skip ?_
      exact ⟨kv,q2,IP,rfl⟩
   rintro _ ⟨key,q3,hq3,rfl⟩;refine Ex.seq ?_;refine tc (A1 op 2) trivial (λh2=>?_) (λh2=>?_)
   .obtain ⟨col,q4,hq4,k1,k2,k3,pc⟩:=jW hx hq3 (O t.p9:Int) V
    have am7:col<O t.p9:=V
    obtain ⟨v,q5,hq5,pv⟩:=bd9 hx hq4 c hs hv ts h W5.toNat col.toNat ht (by rw [hT];omega);rw [hT] at pv;refine Ex.seq ?_;refine Ex.region (Rn.text ?_);refine gr ?_;refine c0 pc rfl (HD:=[.cells (c.enc.map .d),.cells z12,.cells (aY ⟨op,seq,day,W5,[],key,0,⟨0,0,[]⟩⟩ (.own 3 0 []))]) (h2:=?_);refine gx ?_;refine soy (cs:=[.d (Z col)]) (H2:=[zO,tp xs q4,.cells (c.enc.map .d),.cells z12,.cells (aY ⟨op,seq,day,W5,[],key,col,⟨0,0,[]⟩⟩ (.own 3 0 []))]) rfl ⟨rfl,rfl⟩ rfl rfl rfl (.inl (A4 _)) rfl ?_;refine gx ?_;refine Ex.region (Rn.Fe 5 [zO,tp xs q4,.cells (c.enc.map .d),.cells z12,.cells (aY ⟨op,seq,day,W5,[],key,col,⟨0,0,[]⟩⟩ (.own 3 0 []))] [] rfl rfl rfl ?_);refine ym ?_;refine yp _ (Vv (vs:=c.enc.map .d) rfl rfl rfl) ?_;refine ym ?_;refine ym ?_;refine yp _ (AM rfl) ?_;refine yp _ (Wv (v:= .d (Z col)) rfl rfl rfl) ?_;refine yp _ (aN3 (enc:=dY.enc) (λ_=>rfl) rfl rfl k1 am7) ?_;refine yp _ (aB1 (cs:=(Y t.p9 col.toNat).enc) rfl rfl) ?_;refine yc [.cells (c.enc.map .d),.cells z12,.cells (aY ⟨op,seq,day,W5,[],key,col,⟨0,0,[]⟩⟩ (.own 3 0 []))] [zO,tp xs q5,.cells (c.enc.map .d),.cells z12,.cells (aY ⟨op,seq,day,W5,[],key,col,⟨0,0,[]⟩⟩ (.own 3 0 []))] pv rfl (A4 _) (JR _ _ _) rfl U rfl rfl rfl ?_;refine yp _ (AM rfl) ?_;refine ys (v:= .agg (v.enc.map .d)) (cs:=v.enc.map .d) (H2:=[zO,tp xs q5,.cells (c.enc.map .d),.cells z12,.cells (aY ⟨op,seq,day,W5,[],key,col,v⟩ (.own 3 0 []))]) rfl ⟨rfl,rfl⟩ rfl rfl rfl (.inl (A4 _)) rfl ?_;refine yn ?_ (by simp [fK,I9,Touch.G8,s7.makes,s7.A6]);refine Ex.seq ?_;refine Ex.region (Rn.text ?_);refine lqa (vs:=aY ⟨op,seq,day,W5,[],key,col,v⟩ (.own 3 0 [])) rfl rfl ?_;refine gr ?_;refine ⟨_,_,rfl,⟨op,seq,day,W5,[],key,col,v⟩,q5,⟨t0,t1,ho,?_,k1,?_⟩,hq5,rfl,rfl⟩
    .simp [ho1]
    .simpa only [hT] using am7
   .refine Ex.skip ?_
    refine Ex.seq ?_;refine Ex.region (Rn.text ?_);refine lqa (vs:=aY ⟨op,seq,day,W5,[],key,0,⟨0,0,[]⟩⟩ (.own 3 0 [])) rfl rfl ?_;refine gr ?_;refine ⟨_,_,rfl,⟨op,seq,day,W5,[],key,0,⟨0,0,[]⟩⟩,q3,⟨t0,t1,ho,?_,Int.le_refl _,?_⟩,hq3,rfl,rfl⟩
    .simp [ho1]
    .simp only [hT]
     omega
 obtain ⟨_,_,⟨x,q',hx',Rq,rfl,rfl⟩,p⟩:=key;exact ⟨x,q',hx',Rq,p⟩
end
def as9 {n:Nat}(h:n<=1000):roomFor n 128=W:=by
 refine decide_eq_true ?_;exact A3 (K4 _ (show 2 * n+512<=2512 by omega)) (by decide)
section
variable [Inhabited pg]
set_option maxHeartbeats 8000000 in
def p66 {xs:List Int}(hx:O xs<=35184372088832){q:Nat}(hq:q<=4 * O xs)(c:s6)(hs:J8 c)(hv:M1 c=W)(h0:0<O c.k9)(m:Nat)(hm:m<=100) :
  ∃(l:List jw) (q' :Nat),(∀x∈l,Up c x)/\O l<=m/\q' <=4 * O xs/\Pm A 66 [.ptr 1 0,cat c,.d (Z (m:Int))] [zO,tp xs q] l1 (.d (B8 jw.enc l)) [zO,tp xs q']:=by
 have p1:=bd6 c hs hv;have key:Pq A 66 [.ptr 1 0,cat c,.d (Z (m:Int))] [zO,tp xs q] l1 λw H1=>∃(l:List jw) (q' :Nat),(∀x∈l,Up c x)/\O l<=m/\q' <=4 * O xs/\w= .d (B8 jw.enc l)/\H1=[zO,tp xs q']:=by
  refine Pq.go (b:=2) 10 ?_;refine gc p1 ?_;refine Ex.gX (λk T' H' =>∃(i q:Nat) (l:List jw) (ts:List (List X9)) (seq day:Int),i<=2 * m/\k=2 * m - i/\(∀x∈l,Up c x)/\O l<=m/\q<=4 * O xs/\qf c ts/\0<=seq/\seq<=3 * i/\0<=day/\day<=2 * i /\
   T' =[.ptr 1 0,.any,.d (Z (m:Int)),.ptr 2 0,.any,.d (V9 ts),L1 12 jw.enc l,.d (Z seq),.d (Z day),.d (Z i),.any,.any,.any]/\H' =[zO,tp xs q,.cells (c.enc.map .d)]) ?_ (k:=2 * m) ⟨0,q,[],_,0,0,V,V,U,U,hq,Yv c,V,V,V,V,rfl,rfl⟩
  rintro k T' H' ⟨i,q,l,ts,seq,day,hi,rfl,hl,hlm,hq,hts,s0,s1,d0,d1,rfl,rfl⟩;refine Ex.seq ?_;have hmu: -9223372036854775808<=(2:Int) * m/\(2:Int) * m<9223372036854775808:=V
  refine Ex.jl (J2 (i:Int) (2 * m)&&J2 (O l) m) ?_ (λh=>?_) (λh=>?_)
  .refine Rn.text ?_
   repeat' (first|refine mu ?_ hmu|refine ls ?_|refine gx ?_|refine fq (λhw=>?_) λhw=>?_|refine ⟨rfl,rfl,_,rfl,?_⟩|refine ⟨rfl,rfl⟩|fail)
   all_goals first|(simp [*,j5];done)|(simp_all [j5];done)
  .rw [c8] at h
   have hi2:=F5 h.1;have sC:=F5 h.2;obtain ⟨a,q1,hq1,a0,a1,_,pA⟩:=jW hx hq 3 V;obtain ⟨b,q2,IP,b0,b1,_,pB⟩:=jW hx hq1 3 V;obtain ⟨x,q3,hX,hq3,pC⟩:=aM8 hx IP c hs hv h0 ts hts (seq+(1+a)) (day+b);obtain ⟨w,e,pD,hD⟩:=PG c hs hv ts hts x hX;have a1:=a1 V;have b1:=b1 V;refine gr ?_;refine c0 pA rfl (HD:=[.cells (c.enc.map .d)]) (h2:=?_);refine gr ?_;refine c0 pB rfl (HD:=[.cells (c.enc.map .d)]) (h2:=?_);refine gr ?_;refine c0 pC rfl (HD:=[.cells (c.enc.map .d)]) (h2:=?_);refine gc pD ?_;refine tc (A1 e 0) trivial (λhe=>?_) (λhe=>?_)
   .have he:=aT he
    subst he;rw [hD rfl];have hp:=(YL c hs hv ts hts x hX).2
    repeat' (first|refine oN (enc:=jw.enc) x ?_|refine gx ?_|fail)
    refine apN (xs:=l) (ys:=[x]) (hr:=as9 D) (h2:=?_)
    repeat' (first|refine ad V ?_|refine gx ?_|fail)
    refine ⟨2 * m - (i+1),V,_,_,ah (l5 rfl) (l5 rfl),i+1,q3,l++[x],_,seq+(1+a),day+b,V,rfl,λy hy=>?_,D,hq3,hp,V,V,V,V,rfl,rfl⟩
    rcases List.mem_append.1 hy with hy|hy
    .exact hl y hy
    .rw [y3.1 hy]
     exact hX
   .repeat' (first|refine ad V ?_|refine gx ?_|fail)
    exact ⟨2 * m - (i+1),V,_,_,ah (l5 rfl) (l5 rfl),i+1,q3,l,ts,seq+(1+a),day+b,V,rfl,hl,hlm,hq3,hts,V,V,V,V,rfl,rfl⟩
  .refine gr ?_
   exact ⟨_,_,rfl,l,q,hl,hlm,hq,rfl,rfl⟩
 obtain ⟨_,_,⟨l,q',hl,hlm,Rq,rfl,rfl⟩,p⟩:=key;exact ⟨l,q',hl,hlm,Rq,p⟩
end
section
variable [Inhabited pg]
def bj0 (xs:List Int)(h:O xs<=17592186043904):Pq A 12 [.d (ints xs)] [zO] Q9 λv H1=>v= .ptr 1 0/\H1=[zO,tp xs 0]:=by
 have _:Inhabited pg:=inferInstance;refine Pq.go (b:=1) 1 ?_;have e:ints xs=B8 (λn=>[Z n]) xs:=by simp [ints,B8,List.flatMap_singleton']
 rw [e];refine gr ?_;refine Ry.pure (v:= .own 1 0 []) (rs:=[]) rfl (by rfl) ?_;refine gr ?_;exact ⟨_,_,rfl,rfl,by simp [splice,tp,rq,LR,lk];exact ⟨rfl,rfl⟩⟩
def bB7 {xs:List Int}{g:s6}{vs:List Nat}{l:List SD}{v:c7}(h:(SV.agg (J 0) (l.map .d)).g (eX xs g) vs v):∃c,v=cat c/\M1 c=W/\J8 c/\L9.g (eX xs g) vs l c.enc:=by
 simp only [Sh.SV.g] at h;obtain ⟨cs,rfl,h0,h⟩:=h;obtain ⟨ds,rfl,h3⟩:=Xg h0;obtain ⟨c,hc,h1,h2⟩:=h 0 rfl;have e:(ds.map c7.d).map c7.F4=ds.map c7.d:=by simp [c7.F4]
 rw [e] at hc;have e2:ds=c.enc:=(List.map_inj_right (λ_ _ h=>by cases h;rfl)).1 hc;subst e2;exact ⟨c,rfl,h1,h2,h3⟩
structure Full (c:s6):Prop where
 val:M1 c=W
 sm:J8 c
 t0:1<=O c.k9
 t1:O c.k9<=3
 vw:O c.views<=3
def ak5 {xs:List Int}(hx:O xs<=17592186043904){q:Nat}(hq:q<=4 * O xs):∃(c:s6) (q' :Nat),Full c/\q' <=4 * O xs/\Pm A 65 [.ptr 1 0] [zO,tp xs q] l1 (cat c) [zO,tp xs q']:=by
 obtain ⟨v,H1,⟨o,o1,o2,o3⟩,p⟩:=(o13 V noC:s13.ok (eX xs noC) A).2 [.ptr 1 0] [zO,tp xs q] (by
  simp only [s13,Sh.B6.g];exact ⟨_,_,rfl,rfl,rfl⟩) (Sn xs noC [] hq)
 have:=y3.1 o1;subst this;obtain ⟨q',Rq,rfl⟩:=Sq o3;obtain ⟨c,rfl,hv,hs,h3⟩:=bB7 o2;unfold rF s6.enc at h3;obtain ⟨_,_,e,g1,h3⟩:=sc h3;cases e;obtain ⟨_,_,e,g2,h3⟩:=sc h3;cases e;have g1:=xZ g1;have g2:=xZ g2;exact ⟨c,q',⟨hv,hs,g1.1,g1.2.1,g2.2.1⟩,Rq,p⟩
def p28 {xs:List Int}(hx:O xs<=17592186043904):∃(c:s6) (l:List jw) (ts:List (List X9)),Full c/\(∀x∈l,Up c x)/\O l<=10/\qf c ts/\Pf A 28 [.d (ints xs)] (.tuple [cat c,.d (B8 jw.enc l),.d (V9 ts)]):=by
 obtain ⟨_,_,⟨rfl,rfl⟩,p12⟩:=bj0 xs hx;obtain ⟨c,q,hc,hq,p65⟩:=ak5 hx (q:=0) V;obtain ⟨l,q1,hl,hlm,hq1,p66⟩:=p66 V hq c hc.sm hc.val (by have:=hc.t0;omega) 10 V;obtain ⟨ts,hts,p67⟩:=p67 c hc.sm hc.val (by have:=hc.t0;omega) l V hl;refine ⟨c,l,ts,hc,hl,hlm,hts,?_⟩;refine Pf.gr 6 ?_;refine cp p12 U ?_;refine gr ?_;refine c0 p65 rfl (HD:=[]) (h2:=?_);refine gr ?_;refine c0 p66 rfl (HD:=[.cells (c.enc.map .d)]) (h2:=?_);refine gx ?_;refine gx ?_;refine Ex.seq ?_;refine Ex.region (Rn.Fe 3 [zO,tp xs q1,.cells (c.enc.map .d)] [] rfl rfl rfl ?_);refine yp _ (Vv (vs:=c.enc.map .d) rfl rfl rfl) ?_;refine ym ?_;refine yp _ (Vv (vs:=c.enc.map .d) rfl rfl rfl) ?_;refine ym ?_;refine yl p67 ?_;refine ys (v:=cat c) (cs:=c.enc.map .d) (H2:=[.cells (c.enc.map .d),tp xs q1,.cells (c.enc.map .d)]) rfl ⟨rfl,rfl⟩ rfl rfl rfl (.inl (A4 _)) rfl ?_;refine ymT [.d (ints xs),.ptr 0 0,.d (B8 jw.enc l),.own 1 0 [],.ptr 1 0,.ptr 2 0,.d (B8 jw.enc l)] U rfl ?_;refine ymT [.d (ints xs),.ptr 0 0,.d (B8 jw.enc l),.d (V9 ts),.ptr 1 0,.ptr 2 0,.d (B8 jw.enc l)] U rfl ?_;refine yn ?_ (by simp [fK,I9,Touch.G8,s7.makes,s7.A6]);refine gr ?_;exact ⟨_,rfl,rfl⟩
end
end Go.Proofs.YtibjocmpkoepoaaGreat
namespace Go.Proofs.YtibjocmpkoepoaaGreat
open Go.B3 Go.B3.S
attribute [local irreducible] Rx Ry Rn Ex Pf
def at1 {r:List B3.Data}(h:Z6 [JZ,JZ,JZ] r):∃p:Uq,r=Ay p:=by
 simp only [Z6] at h;obtain ⟨d,_,rfl,h1,e,_,rfl,h2,f,_,rfl,h3,rfl⟩:=h;obtain ⟨n,rfl,hn⟩:=nx h1;obtain ⟨m,rfl,hm⟩:=nx h2;obtain ⟨k,rfl,hk⟩:=nx h3;exact ⟨(n,m,k),rfl⟩
def Vy {c:s6}(hv:M1 c=W){v:List Uq}{g acc out:List U0}(hA:∀p,p∈acc↔Ox c v (O v) p\/Uj c g (O g) p)(hO:BG c v g (O c.k9) 0 out):PW acc=out:=by
 refine RJ (au3 acc) hO.pw λp=>?_
 rw [Yo,hA,hO.mem];constructor
 .rintro (⟨j,hj,⟨k1,k2,k3,k4⟩,rfl⟩|⟨j,hj,k1,k2,k3,k4,k5,k6⟩)
  .refine ⟨(Y v j).1.toNat,(Y v j).2.1.toNat,V,V,?_,.inl ⟨_,P6 hj,V,V⟩,.inl V⟩
   exact Prod.ext (by simp only;omega) (by simp only;omega)
  .refine ⟨(Y g j).1.toNat,p.2.toNat,V,V,?_,.inr ⟨_,P6 hj,V⟩,.inl V⟩
   exact Prod.ext (by simp only;omega) (by simp only;omega)
 .rintro ⟨i,k,hi,hk,rfl,(⟨e,he,e1,e2⟩|⟨s,hs,e1⟩),_⟩
  .obtain ⟨j,hj,rfl⟩:=O8 he
   rw [<- H6 hj] at e1 e2;have h3:(Y v j).1.toNat=i:=V
   exact .inl ⟨j,hj,⟨V,V,V,by rw [h3];omega⟩,by rw [e1,e2]⟩
  .obtain ⟨j,hj,rfl⟩:=O8 hs
   rw [<- H6 hj] at e1;have h3:(Y g j).1.toNat=i:=V
   have h8:=(aA hv hi).1;refine .inr ⟨j,hj,V,V,e1.symm,Int.natCast_nonneg k,?_,?_⟩
   .simp only
    omega
   .rw [h3]
    simp only;omega
section
variable [Inhabited pg]
set_option maxHeartbeats 8000000 in
def bJ9 (hK:Pf A 27 [] (.d (.bool W))){xs:List Int}(hx:O xs<=17592186043904)(v:List Uq)(g:List U0):Pf A 10 [.d (ints xs),.d (B8 Ay v),.d (jX g)] (.d (.bool W)):=by
 have _:Inhabited pg:=inferInstance;obtain ⟨c,l,ts,hc,_,_,_,pM⟩:=p28 hx;have e:ints xs=B8 (λn=>[Z n]) xs:=by simp [ints,B8,List.flatMap_singleton']
 rw [e] at pM ⊢;unfold jX;refine Pf.gr 5 ?_;refine tc (J2 100 (O xs)||(J2 20 (O v)||J2 20 (O g))) trivial (λh=>?_) (λh=>?_)
 .refine gc hK ?_
  exact ⟨_,rfl,rfl⟩
 simp only [E5] at h;have h1:=G7 h.1;have h2:=G7 h.2.1;have h3:=G7 h.2.2;obtain ⟨acc,hA,pA⟩:=p35 c hc.sm hc.val v g V V;obtain ⟨out,hO,pO⟩:=p36 c hc.sm hc.val v g V V;rw [Vy hc.val hA hO] at pA;have hol:=hO.len;have ht1:=hc.t1;unfold jX at pA pO;clear hA hO;refine gc (And.intro pM (And.intro pA pO)) ?_;refine tc F trivial (λh=>by cases h) (λh=>?_);refine gr ?_;refine Ex.R8 (λq T' H' =>∃(j:Nat),j<=O out/\q=O out - j/\T' =[.any,.any,.any,.any,.any,.d (B8 aP out),.d (B8 aP out),.d (Z j)]/\H' =[.cells (c.enc.map .d)]) ?_ (k:=O out) ⟨0,V,V,rfl,rfl⟩;rintro q T' H' ⟨j,hj,rfl,rfl,rfl⟩;refine Ex.seq ?_;refine tl (j:Int) (O out:Int) (λh4=>?_) (λh4=>?_)
 .have gj:j<O out:=V
  refine Ex.skip ?_;refine Ex.seq ?_;refine Ex.block ?_;refine tB F ?_ (λh5=>by cases h5) (λh5=>?_)
  .repeat' (first|refine gx ?_|refine fq (λhw=>?_) λhw=>?_|refine ⟨rfl,rfl,_,rfl,?_⟩|refine ⟨rfl,rfl⟩|fail)
   rw [Jj];simp
  .refine gr ?_
   exact ⟨O out - (j+1),V,j+1,V,rfl,rfl,rfl⟩
 .refine gc hK ?_
  exact ⟨_,rfl,rfl⟩
end
end Go.Proofs.YtibjocmpkoepoaaGreat


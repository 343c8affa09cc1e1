import Derived.Test.YtibjocmpkoepoaaGreatB0
import Derived.Orders
set_option linter.all false
open Bool renaming and_eq_true→c7,eq_false_or_eq_true→D4,false_eq_true→j4,not_eq_true'→p6,or_eq_false_iff→J3,true→W,false→F
open List renaming all_eq_true→M1,append_assoc→D3,getElem?_append_left→B9,getElem?_append_right→y3,getElem?_eq_getElem→o6,getElem?_set_ne→D0,getElem?_set_self→N6,getElem_of_mem→R3,length_append→n5,length_cons→p8,length_map→A7,length_nil→y9,map_cons→K0,mem_append_left→K8,mem_cons→B6,mem_singleton→q8,pairwise_cons→M7,replicate→c9,set_cons_succ→r9,take_length→H8,length→O
open Nat renaming add_assoc→O8,le_refl→l6,le_trans→C9,lt_or_ge→A5,zero_le→O0
open Option renaming map_some→O9,some→J,none→K
namespace Go.A1
variable [E5]
mutual
theorem VR.kill {G:Gh}{I:U3}{N:Nat->Prop}{w:World}(id:Nat):∀(pl:Place) (a:c8) (x:Value),VR G I N w pl a x->VR G I (λi=>N i/\i≠id) w pl (a.kill id) x
 |_,.any,_,_=>by simp [c8.kill,VR]
 |_,.d _,_,h=>by grind [c8.kill,VR]
 |_,.ptr i o,x,h=>by
  grind [c8.kill,VR]
 |_,.U9 _,_,h=>by grind [c8.kill,VR]
 |_,.B8 i z lo n,x,h=>by
  grind [c8.kill,VR]
 |_,.own _ _ _,_,h=>by simp_all [c8.kill,VR]
 |_,.P9,_,h=>by simp_all [c8.kill,VR]
 |_,.agg l,x,h=>by
  obtain ⟨cs,h1,h2⟩:=h;exact ⟨cs,h1,L3.kill id l _ h2⟩
 |_,.tuple l,x,h=>by
  obtain ⟨cs,h1,h2⟩:=h;exact ⟨cs,h1,L3.kill id l _ h2⟩
 |_,.func f a b,x,h=>by
  obtain ⟨u,v,h1,h2,h3⟩:=h;exact ⟨u,v,h1,L3.kill id a _ h2,L3.kill id b _ h3⟩
 |_,.map i,x,h=>by
  grind [c8.kill,VR]
theorem L3.kill {G:Gh}{I:U3}{N:Nat->Prop}{w:World}(id:Nat):∀(l:List c8) (xs:List Value),L3 G I N w l xs->L3 G I (λi=>N i/\i≠id) w (K6 id l) xs
 |[],_,h=>by grind [K6,L3]
 |a::as,xs,h=>by
  obtain ⟨x,xs',h1,h2,h3⟩:=h;exact ⟨x,xs',h1,VR.kill id _ a x h2,L3.kill id as xs' h3⟩
end
mutual
theorem VR.low {G:Gh}{I:U3}{N:Nat->Prop}{w:World}(n:Nat):∀(pl:Place) (a:c8) (x:Value),a.L7<=n->VR G I N w pl a x->VR G I (λi=>N i/\i<n) w pl a x
 |_,.any,_,_,_=>by simp [VR]
 |_,.d _,_,_,h=>by grind [VR]
 |_,.ptr i o,x,hb,h=>by grind [c8.L7,VR]
 |_,.U9 _,_,_,h=>by grind [VR]
 |_,.B8 i z lo n',x,hb,h=>by grind [c8.L7,VR]
 |_,.own _ _ _,_,_,h=>by simp_all [VR]
 |_,.P9,_,_,h=>by simp_all [VR]
 |_,.agg l,x,hb,h=>by
  obtain ⟨cs,h1,h2⟩:=h;exact ⟨cs,h1,L3.low n l _ hb h2⟩
 |_,.tuple l,x,hb,h=>by
  obtain ⟨cs,h1,h2⟩:=h;exact ⟨cs,h1,L3.low n l _ hb h2⟩
 |_,.func f a b,x,hb,h=>by
  simp [c8.L7] at hb;obtain ⟨u,v,h1,h2,h3⟩:=h;exact ⟨u,v,h1,L3.low n a _ V h2,L3.low n b _ V h3⟩
 |_,.map i,x,hb,h=>by grind [c8.L7,VR]
theorem L3.low {G:Gh}{I:U3}{N:Nat->Prop}{w:World}(n:Nat):∀(l:List c8) (xs:List Value),C5 l<=n->L3 G I N w l xs->L3 G I (λi=>N i/\i<n) w l xs
 |[],_,_,h=>by grind [L3]
 |a::as,xs,hb,h=>by
  simp [C5] at hb;obtain ⟨x,xs',h1,h2,h3⟩:=h;exact ⟨x,xs',h1,VR.low n _ a x V h2,L3.low n as xs' V h3⟩
end
section
variable {P:Program} {X:Cx} {l:I7} {S:Nat->Prop} {st:I9} {a:Act} {w w' :World} {G:Gh} {I:U3} {N:Nat->Prop} {i6:Nat->Bool} {l5:List p7}
theorem ER.kill (id:Nat):∀(es:List (Key×c8)) (xs:List MapEntry),ER G I N w es xs->ER G I (λi=>N i/\i≠id) w (es.map λp=>(p.1,p.2.kill id)) xs
 |[],_,h=>by grind [ER]
 |(k,v)::r,xs,h=>by
  obtain ⟨e,es',h1,h2,h3,h4⟩:=h;exact ⟨e,es',h1,h2,VR.kill id _ v _ h3,ER.kill id r es' h4⟩
theorem ER.low (n:Nat):∀(es:List (Key×c8)) (xs:List MapEntry),C5 (es.map (·.2))<=n->ER G I N w es xs->ER G I (λi=>N i/\i<n) w es xs
 |[],_,_,h=>by grind [ER]
 |(k,v)::r,xs,hb,h=>by
  simp [K0,C5] at hb;obtain ⟨e,es',h1,h2,h3,h4⟩:=h;exact ⟨e,es',h1,h2,VR.low n _ v _ V h3,ER.low n r es' V h4⟩
theorem iG (id:Nat):∀(l:List c8) (i:Nat),(K6 id l)[i]? =(l[i]?).map (c8.kill id)
 |[],i=>by simp [K6]
 |v::vs,0=>by simp [K6]
 |v::vs,i+1=>by simp [K6,iG id vs i]
theorem U1 (id:Nat)(l:List c8):O (K6 id l)=O l:=by
 induction l with
 |nil=>rfl
 |cons v vs ih=>simp [K6,ih]
def yL (id:Nat)(l:List c8)(i:Nat):(K6 id l).getD i .any=(l.getD i .any).kill id:=by
 grind [List.getD,iG,c8.kill]
mutual
theorem Ls (id:Nat):∀(a:c8),(a.kill id).L7<=a.L7
 | .any=>by simp [c8.kill]
 | .d _=>by simp [c8.kill]
 | .ptr i o=>by grind [c8.kill,c8.L7]
 | .U9 _=>by simp [c8.kill]
 | .B8 i z lo n=>by grind [c8.kill,c8.L7]
 | .own _ _ _=>by simp [c8.kill]
 | .P9=>by simp [c8.kill]
 | .agg l=>by exact fE id l
 | .tuple l=>by exact fE id l
 | .func f a b=>by
  simp [c8.kill,c8.L7];have:=fE id a;have:=fE id b;omega
 | .map i=>by grind [c8.kill,c8.L7]
theorem fE (id:Nat):∀(l:List c8),C5 (K6 id l)<=C5 l
 |[]=>by simp [K6]
 |v::vs=>by
  simp [K6,C5];have:=Ls id v;have:=fE id vs;omega
end
theorem GC (id:Nat):∀(es:List (Key×c8)),C5 ((es.map λp=>(p.1,p.2.kill id)).map (·.2))<=C5 (es.map (·.2))
 |[]=>U
 |(k,v)::r=>by
  simp only [K0,C5];have:=Ls id v;have:=GC id r;omega
theorem Hs (id:Nat)(o:y6):(o.kill id).L7<=o.L7:=by
 cases o with
 |dead=>simp [y6.kill]
 |cells l=>simp_all [y6.kill,y6.L7,fE]
 |map es=>simpa only [y6.kill,y6.L7] using GC id es
theorem OR.kill (id:Nat){id' :Nat}(hne:id' ≠id)(o:y6)(h:OR G I N w id' o):OR G I (λi=>N i/\i≠id) w id' (o.kill id):=by
 cases o with
 |dead=>simp [y6.kill,OR]
 |cells l0 =>
  grind [y6.kill,OR,U1,iG,VR.kill]
 |map es =>
  obtain ⟨hN,arr,gW,h1,h2,h3,h4⟩:=h;exact ⟨⟨hN,hne⟩,arr,gW,h1,h2,ER.kill id es _ h3,h4⟩
theorem vU:∀(l:List c8) (i:Nat) (x:c8),l[i]? =J x->x.L7<=C5 l
 |[],_,_,h=>by simp at h
 |v::vs,0,x,h=>by grind [C5]
 |v::vs,i+1,x,h=>by have:=vU vs i x (by simpa using h);grind [C5]
theorem OR.low {id n:Nat}(hn:id<n)(o:y6)(hb:o.L7<=n)(h:OR G I N w id o):OR G I (λi=>N i/\i<n) w id o:=by
 cases o with
 |dead=>simp [OR]
 |cells l0 =>
  obtain ⟨hN,c,e,f,h1,h2,h3,h4,h5⟩:=h
  .refine ⟨⟨hN,hn⟩,c,e,f,h1,h2,h3,h4,λi x hx=>?_⟩
   obtain ⟨v,g1,g2⟩:=h5 i x hx;exact ⟨v,g1,VR.low n _ x v (by exact C9 (vU _ _ _ hx) hb) g2⟩
 |map es =>
  grind [OR,ER.low,y6.L7]
end
end Go.A1
namespace Go.A1
variable [E5]
section
variable {P:Program} {X:Cx} {l:I7} {S:Nat->Prop} {st:I9} {a:Act} {w w' :World} {G G' :Gh} {I I' :U3} {N:Nat->Prop} {i6:Nat->Bool} {l5:List p7}
def tj (H:q6)(base id:Nat)(o:y6):q6:=(H.take base++(H.drop base).map (y6.kill id)).set id o
def Al {H:q6}{base id:Nat}{o:y6}(hid:id<O H){id' :Nat}{o' :y6}(h:(tj H base id o)[id']? =J o') :
  (id' =id/\o' =o)\/(id' ≠id/\id' <base/\H[id']? =J o')\/(id' ≠id/\base<=id' /\∃o0,H[id']? =J o0/\o' =o0.kill id):=by
 unfold tj at h;have hlen:O (H.take base++(H.drop base).map (y6.kill id))=O H:=D
 by_cases he:id' =id
 .simp_all
 .by_cases hb:id' <base
  .grind
  .by_cases hl:base<=O H
   .grind
   grind
def ez.ZL (h:RI X l S st a w G I N){k:Nat}(hk:¬ S k)(bQ:k<O st.L){entry id:Nat}{o0:y6}(h0:st.H[id]? =J o0)(hbase:l.base<=id)(QD:entry<=id)(hmay:l.may id=W)
  (hx:Ext G w G' w') (hkp:∀q,cR q G w G' w') (ho:∀id',id' ≠id->∀b,G b= .obj id' ->G' b= .obj id' /\w'.heap[b]? =w.heap[b]?) (hwf:WF G' w') (hI:∀i,i≠id->I' i=I i)
  {cs:List c8} (ay0:OR G' I' N w' id (.cells cs)) (yO:C5 cs<=max o0.L7 (id+1)) {v:c8} {x:Value} (hv:VR G' I' N w' (.loc k) v x) (o9:List Touch) (WK:o9.any (Touch.L5 id)=W) :
  ez X l S entry st a w G I N (put { T:=K6 id st.T,H:=tj st.H l.base id (.cells cs),L:=K6 id st.L,o9 } k v) k x w' G' I' N:=by
 have hid:=y5 h0;have hI' :∀i,(N i/\i≠id)->I' i=I i:=λi hi=>hI i hi.2
 have hNN:∀i,(N i/\i≠id)->N i:=λi hi=>hi.1
 have vr:∀{pl:Place} {b:c8} {u:Value},VR G I N w pl b u->VR G' I' N w' pl (b.kill id) u :=
  λhb=>VR.mono hx hI' hNN _ _ _ (Or.inr (hkp _)) (VR.kill id _ _ _ hb)
 refine ⟨⟨?_,?_,?_,hwf,?_⟩,?_,hx,?_,?_,?_,λ_ h=>h,?_,?_⟩
 .intro s t ht
  simp only [A1.put,yL];exact vr (h.T s t ht)
 .intro j hj d hd hn
  have:k≠j:=by grind
  simp only [A1.put];rw [S9 _ _ _ _ _ this,yL];exact vr (h.L j hj d hd hn)
 .intro id' o' ho'
  rcases Al hid ho' with ⟨rfl,rfl⟩|⟨hne,hb,hold⟩|⟨hne,hb,o1,hold,rfl⟩
  .exact ay0
  .have Zn:=OR.low (n:=l.base) hb o' ((h.X7 id' o' hold).2 hb) (h.H id' o' hold)
   exact OR.mono hx (λi hi=>hI i V) (λi hi=>hi.1) id' o' (λhb' =>ho id' hne _ hb') (λ_=>hkp _) Zn
  .exact OR.mono hx hI' hNN id' _ (λhb' =>ho id' hne _ hb') (λ_=>hkp _) (OR.kill id hne o1 (h.H id' o1 hold))
 .intro id' o' ho'
  rcases Al hid ho' with ⟨rfl,rfl⟩|⟨hne,hb,hold⟩|⟨hne,hb,o1,hold,rfl⟩
  .obtain ⟨d1,d2⟩:=h.X7 id' o0 h0
   grind [y6.L7]
  .exact h.X7 id' o' hold
  .obtain ⟨d1,d2⟩:=h.X7 id' o1 hold
   grind [Hs]
 .simp_all [A1.put,R4,U1]
 .intro id' hm
  grind
 .grind [A1.put]
 all_goals grind [A1.put,tj]
def MY {cs:List c8}{vs:List Value}(h:cs.all c8.one=W)(hv:L3 G I N w cs vs):Gq vs:=pO _ _ h hv
def Gf (h:RI X l S st a w G I N)(hD:∀j,i6 j=W->S j){k:Nat}(hk:¬ S k)(bQ:k<O st.L){o:Oper}{sz bytes:Nat}{ob:Bool}{x y:y7}
  (hc:kB P (X.ck i6) o (.append sz bytes ob x y)=W) {E:Env} (hE:E.lim=l) {id lo len:Nat} (hx:K4 st.T st.L x= .B8 id sz lo len) {st' :I9} (he:V6 E k sz bytes st id lo len (K4 st.T st.L y)=J st') :
  ∃v w' G' I',(execOp a.eval o).run P w= .ok (.value v) w' /\ez X l S E.entry st a w G I N st' k v w' G' I' N:=by
 obtain ⟨x0,y0,t,t2,e,i,z,hop,XZ,hcy,ht2,hsz,hu,hi,hsi,hbi,hz,hzs,hbp⟩:=jE hc;unfold V6 at he;rw [hE] at he;split at he
 next eH=>
  split at he
  next l0 m cs hl0 hcs=>
   split at he
   next WE=>
    obtain ⟨rfl,hlen,hroom,bV3,hone,_⟩:=WE;cases he;obtain ⟨vn,hl,hf,hvn,hcl⟩:=zx (P:=P) h.H (h.U5 hD _ _ hcy) hsz hcs;have hval:=h.U5 hD _ _ XZ;rw [hx] at hval;simp only [VR] at hval;obtain ⟨ax1,cap,hx0,hcap,c,e',f,hb,WD⟩:=hval;have Ae:(execOp a.eval o).run P w=((Builtin.append_ #[t,t2] o.type #[a.eval x0,a.eval y0]).run P w).andThen λv w' => .ok (.value v) w' :=by
     obtain ⟨dst,gh,ty,pos,after,guard⟩:=o;simp only at hop;subst hop;simp [execOp,resolve,invoke,builtin]
    have GZ:O vn=m * sz:=by rw [L3.length _ _ hvn,hcl]
    subst hsi hbi;have hO:=h.H id _ hl0;simp only [OR] at hO;obtain ⟨_,c0,e0,f0,h1,WG,hnf,cG5,h5⟩:=hO;rw [hb] at h1;cases h1;have yO:C5 (K6 id l0++cs)<=max (y6.cells l0).L7 (id+1):=by
     rw [jf];have:=fE id l0;simp only [y6.L7];omega
    have Zq:=MY hone hvn;have vrk:∀{pl:Place} {b:c8} {u:Value},VR G I N w pl b u->VR G I N w pl (b.kill id) u :=
     λhb=>VR.mono (Ext.refl _ _).sub (λ_ _=>rfl) (λi hi=>hi.1) _ _ _ (Or.inr (λ_ _ h=>⟨h,rfl⟩)) (VR.kill id _ _ _ hb)
    by_cases hfit:len+m<=cap
    ·
     have hrun:=ja (P:=P) (w:=w) (ty:=o.type) hu hi ht2 (base:=J (ad (I id).1 ((I id).2+0))) (sLen:=len) (sCap:=cap) hl (hf w rfl) hfit;have hbig:(len+m) * i.size<=cap * i.size:=Nat.mul_le_mul_right _ hfit;rw [Nat.add_mul] at hbig;have bX7:(I id).2+len * i.size+O vn<=c.size:=V
     have hst:=run_storeCells_at (P:=P) (I id).1 ((I id).2+0+len * i.size) e' f vn 0 c w hb hnf V Zq;have GV :(I id).2+0+len * i.size+O vn<=O c.toList:=D
     have yP :(Q4 c.toList ((I id).2+0+len * i.size) vn).toArray.size=c.size:=by rw [List.size_toArray,rU _ _ _ GV,Array.length_toList]
     have hw:=Ie (G:=G) hb WG yP;refine ⟨.slice (J (ad (I id).1 ((I id).2+0))) (len+m) cap,w.setRow (I id).1 (Q4 c.toList ((I id).2+0+len * i.size) vn).toArray,G,I,?_,
      ez.ZL h hk bQ hl0 eH.1 eH.2.1 eH.2.2 hw.ext hw.keeps (λid' hne=>hw.DW hne) (λb' hb' =>h.wf b' (by rw [<- hw.size];exact hb')) (λ_ _=>rfl) ?_ yO ?_ (.obj id::st.o9) (by simp [Touch.L5])⟩
     .rw [Ae,hx0,hrun]
      simp only [bX];simp only [Nat.add_zero] at hst ⊢;rw [hst];rfl
     .simp only [OR]
      have mono:∀{pl:Place} {b:c8} {u:Value},VR G I N w pl b u->VR G I N (w.setRow (I id).1 (Q4 c.toList ((I id).2+0+len * i.size) vn).toArray) pl b u :=
       λhq=>VR.mono hw.ext (λ_ _=>rfl) (λ_ h=>h) _ _ _ (Or.inr (hw.keeps _)) hq
      refine ⟨ax1,_,e',f,setRow_heap w _ c _ e' f hb,WG,by rw [yP];exact hnf,?_,λj b hj=>?_⟩
      .rw [yP,n5,U1,hcl];omega
      .rw [show (Q4 c.toList ((I id).2+0+len * i.size) vn).toArray[(I id).2+j]? =(Q4 c.toList ((I id).2+0+len * i.size) vn)[(I id).2+j]? from by simp,rS _ _ _ GV]
       have hjl:=y5 hj;rw [n5,U1,hcl] at hjl
       by_cases hjc:j<O l0
       .rw [B9 (by rw [U1];exact hjc),iG] at hj
        rw [if_pos V];rw [o6 hjc] at hj;simp at hj;subst hj;obtain ⟨v,g1,g2⟩:=h5 j _ (o6 hjc);exact ⟨v,by simpa using g1,mono (vrk g2)⟩
       .rw [y3 (by rw [U1];omega),U1] at hj
        rw [if_neg V,if_pos V];obtain ⟨u,r1,r2⟩:=L3.get _ _ hvn (j - O l0) b hj;exact ⟨u,by rw [show (I id).2+j - ((I id).2+0+len * i.size)=j - O l0 from by omega];exact r1,mono r2.place⟩
     .simp only [VR]
      exact ⟨ax1,cap,rfl,hfit,_,e',f,setRow_heap w _ c _ e' f hb,by rw [yP];exact WD⟩
    ·
     have hlt:cap<len+m:=V
     have bn8:∃vo:List Value,O vo=len * i.size/\(∀w2:World,w2.heap=w.heap->(Builtin.firstCells i.size len (.slice (J (ad (I id).1 ((I id).2+0))) len cap)).run P w2= .ok vo.toArray w2) /\
       (∀(j:Nat) b,l0[j]? =J b->∃v,vo[j]? =J v/\VR G I N w (.cell id j) b v):=by
      refine ⟨(List.range (len * i.size)).map (λj=>(c[(I id).2+j]?).getD default),U,λw2 hw2=>?_,λj b hj=>?_⟩
      .have:=run_loadCells_list (P:=P) w2 (ad (I id).1 ((I id).2+0)) ((List.range (len * i.size)).map (λj=>(c[(I id).2+j]?).getD default)) (λj v hj=>by
        have hjn:j<len * i.size:=by
         rcases A5 j (len * i.size) with h|h
         .exact h
         .simp [h] at hj
        simp [hjn] at hj;rw [bX,nB hw2,X0 hb];have hlt:(I id).2+j<c.size:=V
        simp [hlt] at hj ⊢;exact hj)
       simpa [Builtin.firstCells] using this
      .have hjn:j<len * i.size:=by have:=y5 hj;omega
       obtain ⟨u,g1,g2⟩:=h5 j b hj;exact ⟨u,by simp [hjn,g1],g2⟩
     obtain ⟨vo,bY9,bZ0,bZ1⟩:=bn8;obtain ⟨nY,Mf,hrun⟩:=lu (P:=P) (w:=w) (ty:=o.type) hu hi hz ht2 (base:=J (ad (I id).1 ((I id).2+0))) (sLen:=len) (sCap:=cap) hl (hf w.drew rfl) (bZ0 w.drew rfl) hlt (Kj hroom hbp) (zj hroom hlt);have hnb:lZ w (w.drew.alloc (.cells (vo.toArray++vn.toArray++Builtin.zeroCells z.cells (nY - (len+m))) e)) (.cells (vo.toArray++vn.toArray++Builtin.zeroCells z.cells (nY - (len+m))) e):=by
      have:=lZ.alloc w.drew (.cells (vo.toArray++vn.toArray++Builtin.zeroCells z.cells (nY - (len+m))) e);exact ⟨this.os,this.tape,this.output,C9 (Nat.le_succ _) this.drawn,this.size,this.old,this.new⟩
     have hsize:(vo.toArray++vn.toArray++Builtin.zeroCells z.cells (nY - (len+m))).size=nY * i.size:=by
      simp only [Array.size_append,List.size_toArray,Cl,hzs,bY9,GZ];have:nY * i.size=(len+m) * i.size+(nY - (len+m)) * i.size:=by rw [<- Nat.add_mul];congr 1;omega
      rw [this,Nat.add_mul]
     refine ⟨.slice (J (ad w.heap.size 0)) (len+m) nY,_,kH G w.heap.size (.obj id),EW I id (w.heap.size,0),?_,
      ez.ZL h hk bQ hl0 eH.1 eH.2.1 eH.2.2 (hnb.ext h.wf _) (hnb.keeps h.wf _) (λid' _=>hnb.DW h.wf _ id') (hnb.wf h.wf _) (λi hi=>iN hi) ?_ yO ?_ (.obj id::st.o9) (by simp [Touch.L5])⟩
     .rw [Ae,hx0,hrun];rfl
     .simp only [OR]
      have mono:∀{pl:Place} {b:c8} {u:Value},VR G I N w pl b u->VR (kH G w.heap.size (.obj id)) (EW I id (w.heap.size,0)) N _ pl (b.kill id) u :=
       λhq=>VR.mono (hnb.ext h.wf _).sub (λi hi=>iN hi.2) (λi hi=>hi.1) _ _ _ (Or.inr (hnb.keeps h.wf _ _)) (VR.kill id _ _ _ hq)
      refine ⟨ax1,_,e,(0,0),by rw [fR];exact hnb.new,U,qG _,?_,λj b hj=>?_⟩
      .rw [hsize]
       simp only [fR,n5,U1,hcl];have:(len+m) * i.size<=nY * i.size:=Nat.mul_le_mul_right _ Mf;rw [Nat.add_mul] at this;omega
      .have hjl:=y5 hj
       rw [n5,U1,hcl] at hjl;simp only [fR,Nat.zero_add];rw [show (vo.toArray++vn.toArray++Builtin.zeroCells z.cells (nY - (len+m)))[j]? =(vo++vn++(Builtin.zeroCells z.cells (nY - (len+m))).toList)[j]? from by rw [<- Array.getElem?_toList];simp,
        B9 (by rw [n5];omega)]
       by_cases hjc:j<O l0
       .rw [B9 (by rw [U1];exact hjc),iG] at hj
        rw [B9 V];rw [o6 hjc] at hj;simp at hj;subst hj;obtain ⟨v,g1,g2⟩:=bZ1 j _ (o6 hjc);exact ⟨v,g1,mono g2⟩
       .rw [y3 (by rw [U1];omega),U1] at hj
        rw [y3 V];obtain ⟨u,r1,r2⟩:=L3.get _ _ hvn (j - O l0) b hj;refine ⟨u,by rw [show j - O vo=j - O l0 from by omega];exact r1,?_⟩;have hb' :b.L7<=id:=C9 (vU _ _ _ hj) bV3;exact (VR.mono (hnb.ext h.wf _).sub (λi hi=>iN (by have:=hi.2;omega)) (λi hi=>hi.1) _ _ _ (Or.inl rfl) (VR.low id _ _ _ hb' r2)).place
     .simp only [VR]
      refine ⟨ax1,nY,U,Mf,_,e,(0,0),by rw [fR];exact hnb.new,?_⟩;rw [hsize];simp
   .cases he
  .cases he
 .cases he
end
end Go.A1
namespace Go.A1
variable [E5]
section
variable {P:Program} {X:Cx} {l:I7} {S:Nat->Prop} {st:I9} {a:Act} {w w' :World} {G G' :Gh} {I I' :U3} {N:Nat->Prop} {i6:Nat->Bool} {l5:List p7}
def Ql (P:Program)(ck:Operand->y7->Bool)(o:Oper)(op:x9):Bool :=
 match o.op,op with
 | .mapUpdate t m k v,.fA kk m' k' v' =>ck m m' &&ck k k' &&ck v v' &&(match P.underlying t with
  |some (.map kt _)=>yU P kt kk
  |_=>F)
 |_,_=>F
theorem CI:∀{ks:List CK} {l m:List KD},S5 ks (l.map KD.av) (m.map KD.av)=J W->l=m
 |[],[],[],_=>rfl
 |[],_::_,_,h=>by simp [S5] at h
 |[],[],_::_,h=>by simp [S5] at h
 |k::ks,[],m,h=>by simp [S5] at h
 |k::ks,x::l,[],h=>by simp_all [S5,KD.av]
 |k::ks,x::l,y::m,h=>by
  have hd:∀(a b:Data),KD.av x= .d a->KD.av y= .d b->S5 (k::ks) (.d a::l.map KD.av) (.d b::m.map KD.av)=J W->x=y/\l=m:=by
   intro a b ha hb h;simp [S5] at h;split at h
   .split at h
    next u hu=>
     simp at h;obtain ⟨rfl,rfl⟩:=h;refine ⟨?_,CI hu⟩;simp_all [KD.av,Data.Jm]<;>grind
    .cases h
   .cases h
  simp_all [KD.av]<;>grind
def QN {kk:KK}{a b:Key}(h:Data.eM kk a b=J W):a=b:=by
 unfold Data.eM at h
 grind [CI]
def ZH (k:Key):Instr.sameBits 10000 k.val k.val=W:=by
 have h:∀x:KD,Instr.sameBits 9999 x.val x.val=W:=by intro x;cases x<;>simp [KD.val,Instr.sameBits,beq_toListBytes]
 cases k<;>simp [Key.val,Instr.sameBits,beq_toListBytes]
 grind
theorem Tw {kk:KK}{t:TypeId}{d:TypeDesc}(ht:yU P t kk=W)(hd:P.underlying t=J d){key:Key}{nv:c8}{x:Value}(hx:VR G I N w .none nv x) :
  ∀(es:List (Key×c8)) (xs:List MapEntry) (i:Nat) (es' :List (Key×c8)),ER G I N w es xs->fu kk key nv es=J es' ->
   (tT (qj P w t d key.val kk) xs i K/\∀born,ER G I N w es' (xs++[{ key:=key.val,val:=x,born }])) \/
   (∃j v0,tT (qj P w t d key.val kk) xs i (J (i+j,v0))/\(∃e0,xs[j]? =J e0/\e0.key=key.val)/\ER G I N w es' (xs.modify j λe=>{ e with key:=key.val,val:=x }))
 |[],xs,i,es',hE,h=>by
  subst hE;simp [fu] at h;refine Or.inl ⟨rfl,λborn=>?_⟩
  grind [ER]
 |(k',v')::rest,xs,i,es',hE,h=>by
  obtain ⟨e,ys,rfl,h2,h3,h4⟩:=hE;unfold fu at h;split at h
  next hk=>
   have he:=QN hk;subst he;refine Or.inr ⟨0,e.val,.inl ⟨by simp_all [xk],rfl⟩,⟨e,rfl,h2⟩,?_⟩
   grind [List.modify_zero_cons,ER]
  .split at h
   next r' hr=>
    have hne:qj P w t d key.val kk e.key F:=by simp_all [xk]
    rcases Tw ht hd hx rest ys (i+1) r' h4 hr with ⟨g1,g2⟩|⟨j,v0,g1,g2,g3⟩
    .refine Or.inl ⟨.inr ⟨hne,g1⟩,λborn=>?_⟩
     grind [ER]
    .refine Or.inr ⟨j+1,v0,.inr ⟨hne,?_⟩,M,?_⟩
     all_goals grind [List.modify_succ_cons,ER]
   .cases h
  .cases h
theorem CD {kk:KK}{key:Key}{nv:c8}:∀(es es' :List (Key×c8)),fu kk key nv es=J es' ->C5 (es'.map (·.2))<=max (C5 (es.map (·.2))) nv.L7
 |[],es',h=>by grind [fu,C5]
 |(k',v')::rest,es',h=>by
  unfold fu at h;split at h
  .grind [C5]
  .split at h
   next r' hr=>
    have:=CD rest r' hr
    grind [C5]
   .cases h
  .cases h
def Qw (h:RI X l S st a w G I N)(hD:∀j,i6 j=W->S j){k:Nat}(hk:¬ S k)(bQ:k<O st.L)(entry:Nat){o:Oper}{kk:KK}{m ky v:y7}(hc:Ql P (X.ck i6) o (.fA kk m ky v)=W){E:Env}(hE:E.lim=l)
  {st' :I9} (he:W9 E k kk st (K4 st.T st.L m) (K4 st.T st.L ky) (K4 st.T st.L v)=J st'):∃w',(execOp a.eval o).run P w= .ok .skip w' /\ez X l S entry st a w G I N st' k undef w' G I N:=by
 obtain ⟨dst,gh,ty,pos,after,guard⟩:=o;cases gh<;>simp only [Ql,c7] at hc<;>try (cases hc;done)
 rename_i t m' k' v';obtain ⟨⟨⟨hm,hky⟩,hv⟩,ht⟩:=hc;have h1:=h.U5 hD _ _ hm;have h2:=h.U5 hD _ _ hky;have h3:=h.U5 hD _ _ hv;split at ht
 next kt et hu=>
  obtain ⟨dk,hdk⟩:∃d,P.underlying kt=J d:=by
   cases hd:P.underlying kt with
   |none=>cases kk<;>simp [yU,gF,kO,hd] at ht
   |some d=>exact ⟨d,rfl⟩
  unfold W9 at he;split at he
  next id kd hp hq=>
   rw [hp] at h1;simp only [VR] at h1;have h2:=JO hq h2;split at he
   next es hes=>
    split at he
    next eH=>
     split at he
     next hkk=>
      split at he
      next es' bn1=>
       cases he;have hO:=h.H id _ hes;simp only [OR] at hO;obtain ⟨hN,arr,gW,g1,g2,g3,g4⟩:=hO;have hgo:(getObj (I id).1).run P w= .ok (.map arr gW) w:=by simp [getObj,Sem.run,g1]
       have hlt:(I id).1<w.heap.size:=by
        rcases A5 (I id).1 w.heap.size with h|h
        .exact h
        .rw [Array.getElem?_eq_none h] at g1;cases g1
       have uY:∀ob:Obj,(setObj (I id).1 ob).run P w= .ok () { w with heap:=w.heap.setIfInBounds (I id).1 ob }:=by
        intro ob;simp [setObj,Sem.run,g1]
       have wrote:∀ob:Obj,tU id (I id).1 w { w with heap:=w.heap.setIfInBounds (I id).1 ob } G:=by
        intro ob;refine ⟨g2,rfl,rfl,rfl,l6 _,U,λb' hne=>?_,λc e f hc=>?_⟩
        .simp [Array.getElem?_setIfInBounds_ne (λe=>hne e.symm)]
        .rw [g1] at hc;cases hc
       have yO:(y6.map es').L7<=max (y6.map es).L7 (id+1)\/(l.base<=id/\l.strict<=id):=by
        left;have:=CD es es' bn1;simp only [y6.L7];have:=eH.1;omega
       have fin:∀(Wg :Array MapEntry) (Yz :Nat),ER G I N w es' Wg.toList->La Wg Yz ->ez X l S entry st a w G I N (put { st with H:=st.H.set id (.map es'),o9:= .obj id::st.o9 } k .any) k undef { w with heap:=w.heap.setIfInBounds (I id).1 (.map Wg Yz) } G I N:=by
        intro Wg Yz hER hBn;have hw:=wrote (.map Wg Yz);refine ez.write h hk bQ entry hw hes ?_ (by rw [<- hE];exact eH.2) yO (λ_=>Iff.rfl) (by simp [VR]) (.obj id::st.o9) (by simp [Touch.L5]);simp only [OR];exact ⟨hN,Wg,Yz,by simp [hlt],g2,ER.mono hw.ext (λ_ _=>rfl) (λ_ h=>h) _ _ hER,hBn⟩
       have hck:=kL (P:=P) (w:=w) ht (SF hkk) F 9998;rw [<- h2] at hck;have hp:=Tw (P:=P) (w:=w) (key:=kd) ht hdk h3 es arr.toList 0 es' g3 bn1;rw [<- h2] at hp
       rcases hp with ⟨f1,f2⟩|⟨j,v0,f1,⟨e0,f2,f2'⟩,f3⟩
       .have hfk:(Instr.findKey kt (a.eval k') arr.toList).run P w= .ok K w:=qQ hdk f1
        refine ⟨_,?_,fin (arr.push { key:=a.eval k',val:=a.eval v',born:=gW }) (gW+1) (by simpa using f2 gW) (g4.push _ _)⟩;simp [execOp,h1.2,Instr.mapUpdate,run_underlying hu,hgo,hck,hfk,uY]
       .have hfk:(Instr.findKey kt (a.eval k') arr.toList).run P w= .ok (J (0+j,v0)) w:=qQ hdk f1
        have hkeep:(Instr.keyThatStays (((arr[0+j]?).map (·.key)).getD (a.eval k')) (a.eval k')).run P w= .ok (a.eval k') w:=by
         have e1:arr[0+j]? =J e0:=by simpa using f2
         have KX:=ZH kd;rw [<- h2] at KX;rw [e1];simp only [O9,Option.getD_some,f2',Instr.keyThatStays,KX,if_true,Sem.run_pure]
        refine ⟨_,?_,fin (arr.modify (0+j) λe=>{ e with key:=a.eval k',val:=a.eval v' }) gW (by simpa using f3) (g4.modify _ _ λ_=>rfl)⟩;simp only [execOp,h1.2,Instr.mapUpdate,Sem.run_bind,run_underlying hu,Result.andThen_ok,hgo,hck,hfk,hkeep,uY,Sem.run_pure]
      .cases he
     .cases he
    .cases he
   .cases he
  .cases he
 .cases ht
end
end Go.A1
namespace Go.A1
variable [E5]
section
variable {P:Program} {X:Cx} {l:I7} {S:Nat->Prop} {st:I9} {a:Act} {w w' :World} {G G' :Gh} {I I' :U3} {N:Nat->Prop} {i6:Nat->Bool} {l5:List p7}
def Mq (h:RI X l S st a w G I N)(hpv:PV X l5 S st a w I)(hT:O st.T=O X.names)(hD:∀j,i6 j=W->S j){x:Operand}{y:y7}(hc:X.ck i6 x y=W)(hn:isNil l l5 st y=W) :
  a.eval x= .slice K 0 0:=by
 unfold isNil at hn;split at hn
 .unfold Cx.ck at hc
  split at hc
  .simp_all
  .simp_all
  next v' b heq=>
   cases heq;have:=eC (G:=G) (I:=I) (N:=N) (w:=w) _ _ hc;simp_all [VR,Act.eval]
  all_goals simp_all
 next j=>
  have aU0:∃t,x= .tmp t/\i6 j=W/\(X.ops[j]?).bind (·.dst)=J t/\X.names.contains t=F:=by
   simp_all [Cx.ck]<;>grind
  obtain ⟨t,rfl,hDj,Dt,Mg⟩:=aU0;have hSj:=hD j hDj;simp only [Act.eval];split at hn
  .have h1:=h.L j hSj t Dt Mg
   simp_all [bZ,VR]
  next n0 c0 hj=>
   split at hn
   next ai hai=>
    unfold rF at hn;split at hn
    next s hop=>
     simp only [c7,p6] at hn;obtain ⟨hun,hs⟩:=hn;split at hs
     .obtain ⟨ts,hts⟩:∃ts,X.names[s]? =J ts:=by
       grind
      have h1:=h.T s ts hts;have he:=hpv.slot j ai s ts t hSj (by rw [hj];simp) hai hop hts Dt Mg hun;simp_all [VR]
     .cases hs
    next x' hop=>
     split at hn
     next id off ay1=>
      simp only [c7,p6] at hn;obtain ⟨⟨hun,hmay⟩,hs⟩:=hn;split at hs
      next cs hcs=>
       split at hs
       next hco=>
        have hO:=h.H id _ hcs;obtain ⟨hN,c,e,f,g1,g2,g3,g4,g5⟩:=hO;have he:=hpv.cell j ai x' id off t cs hSj (by rw [hj];simp) hai hop ay1 hcs (y5 hco) hun Dt Mg
        grind [X0,Option.some_inj,VR]
       .cases hs
      .cases hs
     .cases hn
    .cases hn
   .cases hn
  .cases hn
 .cases hn
def Ge (h:RI X l S st a w G I N)(hpv:PV X l5 S st a w I)(hT:O st.T=O X.names)(hD:∀j,i6 j=W->S j){k:Nat}(hk:¬ S k)(bQ:k<O st.L)(entry:Nat){A4:Option Nat}(hid:Ld l st N A4){o:Oper}{sz bytes:Nat}{x y:y7}
  (hc:kB P (X.ck i6) o (.append sz bytes W x y)=W) {E:Env} (hE:E.lim=l) {st' :I9} (he:Q1 E l5 A4 k sz bytes W st x (K4 st.T st.L y)=J st') :
  (∃v w' G',(execOp a.eval o).run P w= .ok (.value v) w' /\ez X l S entry st a w G I N st' k v w' G' I N) \/
  ∃v w' G' I' N' ob av,(execOp a.eval o).run P w= .ok (.value v) w' /\st' =put (N7 st A4 ob) k av/\ez X l S entry st a w G I N st' k v w' G' I' N' /\(∀i,N' i↔N i\/i=newId st A4):=by
 obtain ⟨x0,y0,t,t2,e,i,z,hop,XZ,hcy,ht2,hsz,hu,hi,hsi,hbi,hz,hzs,hbp⟩:=jE hc;have Ae:(execOp a.eval o).run P w=((Builtin.append_ #[t,t2] o.type #[a.eval x0,a.eval y0]).run P w).andThen λv w' => .ok (.value v) w' :=by
  simp_all [guard,execOp,resolve,invoke,builtin]
 unfold Q1 at he;rw [hE] at he;simp [if_true] at he;split at he
 next m cs hcs=>
  split at he
  next eH=>
   obtain ⟨hnil,hroom,_⟩:=eH;have hx0:=Mq h hpv hT hD XZ hnil;obtain ⟨vn,hl,hf,hvn,hcl⟩:=zx (P:=P) h.H (h.U5 hD _ _ hcy) hsz hcs;have GZ:O vn=m * sz:=by grind [L3.length]
   subst hsi hbi;split at he
   next hm=>
    subst hm;cases he;have hrun:=ja (P:=P) (w:=w) (ty:=o.type) hu hi ht2 (base:=K) (sLen:=0) (sCap:=0) hl (hf w rfl) (l6 _);refine Or.inl ⟨.slice K 0 0,w,G,?_,ez.same h hk bQ entry (by simp [VR])⟩;simp_all
   .cases he
    have hlt:0<0+m:=V
    obtain ⟨nY,Mf,hrun⟩:=lu (P:=P) (w:=w) (ty:=o.type) hu hi hz ht2 (base:=K) (sLen:=0) (sCap:=0) (old:= #[]) hl (hf w.drew rfl) (by rfl) hlt (by rw [Nat.zero_add];exact Kj hroom hbp) (by simp_all [Nat.zero_add,zj]);rw [Nat.zero_add] at Mf hrun;have hnb:lZ w (w.drew.alloc (.cells (#[]++vn.toArray++Builtin.zeroCells z.cells (nY - m)) e)) (.cells (#[]++vn.toArray++Builtin.zeroCells z.cells (nY - m)) e):=by
     have:=lZ.alloc w.drew (.cells (#[]++vn.toArray++Builtin.zeroCells z.cells (nY - m)) e);exact ⟨this.os,this.tape,this.output,C9 (Nat.le_succ _) this.drawn,this.size,this.old,this.new⟩
    have hsize:(#[]++vn.toArray++Builtin.zeroCells z.cells (nY - m):Array Value).size=nY * i.size:=by
     simp [Array.size_append,List.size_toArray,Cl,hzs,GZ,y9,Nat.zero_add];rw [<- Nat.add_mul];simp_all
    refine Or.inr ⟨.slice (J (ad w.heap.size 0)) m nY,_,_,_,_,.cells cs,_,M,rfl,ez.newObj h hk bQ entry hid hnb (.cells cs) ?_ ?_,λi=>Iff.rfl⟩
    .simp only [OR]
     refine ⟨Or.inr trivial,_,e,(0,0),by rw [fR];exact hnb.new,U,qG _,?_,λj b hj=>?_⟩
     .simp_all [fR,Nat.zero_add,Nat.mul_le_mul_right]
     .simp only [fR]
      obtain ⟨u,r1,r2⟩:=L3.get _ _ hvn j b hj;refine ⟨u,?_,?_⟩
      .grind
      .exact (hnb.vr h.wf _ (λj hj=>iN (by rintro rfl;exact hid.new hj)) (λ_ h=>Or.inl h) r2).place
    .simp only [VR]
     refine ⟨Or.inr trivial,nY,U,Mf,_,e,(0,0),by rw [fR];exact hnb.new,?_⟩;simp_all
  .cases he
 .cases he
def CL (P:Program)(ck:Operand->y7->Bool)(o:Oper)(op:x9):Bool :=
 match o.op,op with
 | .call ⟨.builtin .clear,args,argTypes⟩,.clear sz zero y =>
  (match args.toList,argTypes.toList with
   |[x],[t]=>ck x y&&decide (0<sz)&&(match P.underlying t with
    |some (.slice e)=>(match P.info? e with
     |some i=>(match i.zero with|some z=>consts z.cells.toList zero&&z.cells.size==sz&&zero.all c8.one|none=>F)
     |none=>F)
    |_=>F)
   |_,_=>F)
 |_,_=>F
theorem LS {α:Type}(zero:List α):∀(n i:Nat),((c9 n zero).flatten)[i]? =if i<n * O zero then zero[i % O zero]? else K
 |0,i=>U
 |n+1,i=>by
  rw [List.replicate_succ,List.flatten_cons]
  by_cases h:i<O zero
  .rw [B9 h,if_pos (by grind),Nat.mod_eq_of_lt h]
  .rw [y3 V,LS zero n (i - O zero)]
   by_cases h2:i - O zero<n * O zero
   .rw [if_pos h2,if_pos (by grind),Nat.mod_eq_sub_mod (a:=i) (b:=O zero) V]
   grind
theorem Lr {zero:List c8}(h:C5 zero=0):∀n:Nat,C5 (c9 n zero).flatten=0
 |0=>by simp [C5]
 |n+1=>by rw [List.replicate_succ,List.flatten_cons,jf,h,Lr h n];rfl
def Wo (h:RI X l S st a w G I N)(hD:∀j,i6 j=W->S j){k:Nat}(hk:¬ S k)(bQ:k<O st.L)(entry:Nat){o:Oper}{sz:Nat}{zero:List c8}{y:y7}
  (hc:CL P (X.ck i6) o (.clear sz zero y)=W) {E:Env} (hE:E.lim=l) {st' :I9} (he:ah E k sz zero st (K4 st.T st.L y)=J st') :
  ∃w',(execOp a.eval o).run P w= .ok (.value (.tuple #[])) w' /\ez X l S entry st a w G I N st' k (.tuple #[]) w' G I N:=by
 unfold CL at hc;split at hc
 next args argTypes sz' zero' y' hop heq=>
  cases heq;split at hc
  next x t ha ht=>
   have e1:args= #[x]:=by grind
   have e2:argTypes= #[t]:=by grind
   subst e1 e2;simp only [c7,decide_eq_true_eq] at hc;obtain ⟨⟨hx,hsz⟩,hc⟩:=hc;split at hc
   next e hu=>
    split at hc
    next i hi=>
     split at hc
     next z hz=>
      simp only [c7,beq_iff_eq] at hc;obtain ⟨⟨hcs,hzs⟩,hone⟩:=hc;have Ae:(execOp a.eval o).run P w=((Builtin.clear_ #[t] o.type #[a.eval x]).run P w).andThen λv w' => .ok (.value v) w' :=by
       simp_all [guard,execOp,resolve,invoke,builtin]
      have hv:=h.U5 hD _ _ hx;unfold ah at he;split at he
      next id z' lo len hy=>
       rw [hy] at hv;obtain ⟨hN,cap,hx0,hcap,_⟩:=hv;split at he
       next eH=>
        obtain ⟨rfl,hzl,hzb,hmay⟩:=eH;split at he
        next H' hw=>
         cases he;obtain ⟨l0,c,e',f,g1,g2,g3,g4,g5,g6,g7,g8,g9⟩:=h.H.wr hw;have hvz:=gC (G:=G) (I:=I) (N:=N) (w:=w) _ _ hcs
         by_cases hlen:len=0
         .subst hlen
          have hH' :H' =st.H:=by
           rw [g2];simp only [List.replicate_zero,List.flatten_nil,splice,y9,Nat.add_zero,List.append_nil,List.take_append_drop];apply List.ext_getElem?
           grind
          have hM:=ez.write (D1:=N) h hk bQ entry (w' :=w) (G:=G) (id:=id) (b:=(I id).1) ⟨g6,rfl,rfl,rfl,l6 _,rfl,λ_ _=>rfl,λc _ _ h=>⟨c,h,rfl⟩⟩ g1 (h.H id _ g1) (by grind) (Or.inl V) (λ_=>Iff.rfl) (v:= .tuple []) (x:= .tuple #[]) (by grind [VR,L3]) (.obj id::st.o9) (by simp [Touch.L5]);have uY:st.H.set id (.cells l0)=st.H:=by
           grind
          refine ⟨w,?_,by grind⟩;rw [Ae,hx0];simp [Builtin.clear_,run_underlying hu]
         .have hzc:O (Builtin.zeroCells z.cells len).toList=len * z' :=by simp [Cl,hzs]
          have hfl:O ((c9 len zero).flatten)=len * z' :=by simp [hzl]
          have Mc:∀(j:Nat) b,((c9 len zero).flatten)[j]? =J b->∃u,(Builtin.zeroCells z.cells len).toList[j]? =J u/\VR G I N w .none b u:=by
           intro j b hj;rw [LS] at hj;split at hj
           next hjl=>
            rw [hzl] at hj hjl;obtain ⟨u,r1,r2⟩:=L3.get _ _ hvz (j % z') b hj;have hzj:z.cells[j % z']? =J u:=M
            have cI3 :z.cells[j % z.cells.size]! =u:=by
             grind
            simp_all [Array.range,Array.getElem?_toList,Builtin.zeroCells,Array.getElem?_map,O9]
           .cases hj
          obtain ⟨hO,hW⟩:=GA g4 g5 g6 g7 g8 g9 g3 (vs:=(Builtin.zeroCells z.cells len).toList) (by rw [hzc,hfl]) (λj b hj=>by
           obtain ⟨u,r1,r2⟩:=Mc j b hj;exact ⟨u,r1,r2.place⟩)
          have Zq:Gq (Builtin.zeroCells z.cells len).toList:=by
           intro u hu';obtain ⟨j,hj,rfl⟩:=R3 hu';have hjl:j<O ((c9 len zero).flatten):=V
           obtain ⟨u',r1,r2⟩:=Mc j _ (o6 hjl)
           grind [c9,List.getElem_mem,List.mem_flatten,oa,M1]
          have hrun:=run_storeCells_at (P:=P) (I id).1 ((I id).2+lo) e' f (Builtin.zeroCells z.cells len).toList 0 c w g5 g7 V Zq;have yO:(y6.cells (splice l0 lo (c9 len zero).flatten)).L7<=max (y6.cells l0).L7 (id+1)\/(l.base<=id/\l.strict<=id):=by
           grind [zS,c9,Lr,y6.L7]
          have hM:=ez.write (D1:=N) h hk bQ entry hW g1 hO M yO (λ_=>Iff.rfl) (v:= .tuple []) (x:= .tuple #[]) (by simp_all [VR,L3]) (.obj id::st.o9) (by simp [Touch.L5]);simp_all [zeroValue,typeInfo,Builtin.clear_,run_underlying]
        .cases he
       .cases he
      next cells hy=>
       cases he;rw [hy] at hv;refine ⟨w,?_,ez.same h hk bQ entry (by simp_all [VR,L3])⟩;rw [Ae]
       rcases hv with ⟨hv|⟨a0,hv⟩,_⟩|⟨b,o',cap,hv,_⟩
       all_goals simp_all [Builtin.clear_,run_underlying]
      .cases he
     .cases hc
    .cases hc
   .cases hc
  .cases hc
 .cases hc
end
end Go.A1
namespace Go.A1
variable [E5]
def hold (G:Gh)(n:Nat):Gh:=λb =>
 match G b with
 | .grow m (.cell id off)=>if id<n then .grow m (.cell id off) else .held m
 | .grow m _=> .held m
 | .obj id=>if id<n then .obj id else .held 0
 |x=>x
def fD (G G1:Gh)(n:Nat):Gh:=λb=>if hold G n b=G b then G1 b else G b
section
variable {G G1:Gh} {w w1:World} {n:Nat}
theorem Cr (b o:Nat):kA (hold G n) b o↔kA G b o:=by
 grind [kA,hold]
def wI:Ext G w (hold G n) w where
 os:=rfl
 tape:=rfl
 output:=rfl
 drawn _:=l6 _
 size:=l6 _
 nj b o h:=⟨(Cr b o).2 h,rfl⟩
 still b h:=⟨by grind [hold],rfl⟩
 shape _ c _ _ h:=⟨c,h,rfl⟩
def SP (h:WF G w):WF (hold G n) w:=λb hb=>by simp [hold,h b hb]
def qW {b id:Nat}(hid:id<n)(h:G b= .obj id):hold G n b= .obj id:=by grind [hold]
def nO {id off:Nat}(hid:id<n):cR (.cell id off) G w (hold G n) w:=λb m hb=>⟨by grind [hold],rfl⟩
def GX {b m:Nat}{pl:Place}(hn:n=0):hold G n b≠ .grow m pl:=by
 grind [hold]
def Mh {b id:Nat}(h:hold G n b= .obj id):id<n:=by
 grind [hold]
theorem hidden {b:Nat}(h:hold G n b≠G b):∃m,hold G n b= .held m:=by
 grind [hold]
theorem jw {b:Nat}(he:Ext (hold G n) w G1 w1)(h:hold G n b≠G b):fD G G1 n b=G b/\w1.heap[b]? =w.heap[b]? /\G1 b=hold G n b:=by
 obtain ⟨m,hm⟩:=hidden h;obtain ⟨h1,h2⟩:=he.still b (Or.inr ⟨m,hm⟩);simp_all [fD]
def jx {b:Nat}(h:hold G n b=G b):fD G G1 n b=G1 b:=by simp [fD,h]
def ET (he:Ext (hold G n) w G1 w1):Ext G w (fD G G1 n) w1 where
 os:=he.os
 tape:=he.tape
 output:=he.output
 drawn:=he.drawn
 size:=he.size
 nj b o h:=by
  obtain ⟨h1,h2⟩:=he.nj b o ((Cr b o).2 h);refine ⟨?_,h2⟩
  by_cases hh:hold G n b=G b
  .simp_all [kA,jx]
  .unfold kA at h ⊢;rw [(jw he hh).1];exact h
 still b h:=by
  have hh:hold G n b=G b:=by grind [hold]
  obtain ⟨h1,h2⟩:=he.still b M;simp_all [jx]
 shape:=he.shape
def qd (he:Ext (hold G n) w G1 w1):Sub G1 w1 (fD G G1 n) w1 where
 nj b o h:=by
  by_cases hh:hold G n b=G b
  .simp_all [kA,jx]
  .obtain ⟨h1,h2,h3⟩:=jw he hh
   grind [kA,hold,Cr]
 shape _ c _ _ h:=⟨c,h,rfl⟩
theorem cq (he:Ext (hold G n) w G1 w1){b:Nat}(h:∀m,G1 b≠ .held m):fD G G1 n b=G1 b:=by
 by_cases hh:hold G n b=G b
 .exact jx hh
 .obtain ⟨_,_,h3⟩:=jw he hh
  grind [hidden,absurd]
def mD (he:Ext (hold G n) w G1 w1)(q:Place):cR q G1 w1 (fD G G1 n) w1 :=
 λb m hb=>⟨by grind [cq],rfl⟩
def fQ (he:Ext (hold G n) w G1 w1){q:Place}(hq:∀id off,q= .cell id off->n<=id):cR q G w (fD G G1 n) w1:=by
 intro b m hb
 grind [hold,jw]
def EU (he:Ext (hold G n) w G1 w1){id:Nat}(hid:n<=id):∀b,G b= .obj id->fD G G1 n b= .obj id/\w1.heap[b]? =w.heap[b]? :=by
 grind [hold,jw]
def HZ (he:Ext (hold G n) w G1 w1)(hwf:WF G w)(h1:WF G1 w1):WF (fD G G1 n) w1:=by
 intro b hb;have hg:G b= .free:=hwf b (C9 he.size hb);have hh:hold G n b=G b:=by simp [hold,hg]
 rw [jx hh];exact h1 b hb
end
structure Cn (l:I7)(H:q6)(w:World)(G:Gh)(I:U3)(N:Nat->Prop)(args:List c8)(J5:Array Value):Prop where
 args:L3 G I N w args J5.toList
 hr:HR G I N w H
 wf:WF G w
 cz:∀id,N id->id<O H
 X7:Wa l H
 base:l.base<=O H
 strict:l.strict<=l.base
 nQ:∀b id:Nat,G b= .obj id->id<O H
 bZ9:O H=0->∀b n pl,G b≠ .grow n pl
structure nq (l:I7)(H:q6)(w:World)(G:Gh)(I:U3)(N:Nat->Prop)(v:c8)(H1:q6)(x:Value)(w' :World)(G' :Gh)(I' :U3)(N' :Nat->Prop):Prop where
 val:VR G' I' N' w' .ret v x
 hr:HR G' I' N' w' H1
 wf:WF G' w'
 ext:Ext G w G' w'
 gj:nr l G w G' w'
 inj:∀id,id<O H->N id->I' id=I id
 mono:∀id,N id->N' id
 old:∀id,id<O H->N' id->N id
 cz:∀id,N' id->id<O H1
 hle:∀(id:Nat) (o' :y6),id<l.base->H1[id]? =J o' ->o'.L7<=id+1\/∃o:y6,H[id]? =J o/\o'.L7<=o.L7
 X7:Wa l H1
def qF (P:Program)(cf:vR)(prom:FuncId->Bool):Prop :=
 ∀f args H l v H1,cf f args H l=J (v,H1)->∀w G I N J5,Cn l H w G I N args J5->(prom f=F->l.base=O H) ->
  Calls P f J5 w λe w' =>∃x G' I' N',e= .returned x/\nq l H w G I N v H1 x w' G' I' N'
def V2 (P:Program)(f:FuncId):Bool :=
 match P.funcs[f]? with
 | some fn => fn.name != "runtime.NumGoroutine" && fn.body.isSome
 |none=>F
def xg {P:Program}{w:World}{f:FuncId}(h:V2 P f=W)(args:Array Value):(callFunc f args).run P w= .ok (.enter f args) w:=by
 unfold V2 at h;split at h
 all_goals (simp_all [callFunc]<;>grind)
end Go.A1
namespace Go.A1
variable [E5]
theorem Lq:∀(l:List y6) (i:Nat) (o:y6),l[i]? =J o->o.L7<=P0 l
 |[],_,_,h=>by simp at h
 |v::vs,0,o,h=>by grind [P0]
 |v::vs,i+1,o,h=>by have:=Lq vs i o (by simpa using h);grind [P0]
theorem wv:∀(l:List y6) (k i:Nat) (o:y6),aQ l k=W->l[i]? =J o->o.L7<=k+i+1
 |[],_,_,_,_,h=>by simp at h
 |v::vs,k,0,o,hd,h=>by
  simp_all [aQ,c7,decide_eq_true_eq]
 |v::vs,k,i+1,o,hd,h=>by
  simp [aQ,c7] at hd;have:=wv vs (k+1) i o hd.2 (by simpa using h);omega
def uh {H:q6}{n s i:Nat}{o:y6}(hi:i<n)(hs:s<=i)(h:H[i]? =J o):((H.take n).drop s)[i - s]? =J o:=by
 simp_all
def zv {l:I7}{H:q6}{n:Nat}(hd:Wa l H)(hc:P0 ((H.take n).drop l.strict)<=n){id:Nat}{o:y6}(hid:id<n)(h:H[id]? =J o):o.L7<=n:=by
 by_cases hs:id<l.strict
 .have:=(hd id o h).1 hs;omega
 .have:=Lq _ _ _ (uh (s:=l.strict) hid V h);omega
def NQ (H:q6)(s n:Nat):E9 H s n<=n:=by
 grind [E9]
def Kq {l:I7}{H:q6}{n:Nat}(hd:Wa l H){id:Nat}{o:y6}(hid:id<E9 H l.strict n)(h:H[id]? =J o):o.L7<=id+1:=by
 unfold E9 at hid;split at hid
 .exact (hd id o h).1 V
 .split at hid
  next hdf=>
   by_cases hs:id<l.strict
   .exact (hd id o h).1 hs
   .have:=wv _ _ _ _ hdf (uh (s:=l.strict) hid V h);omega
  .exact (hd id o h).1 hid
def VR.Ll {G:Gh}{I:U3}{N:Nat->Prop}{w:World}{pl Av :Place}{a:c8}{x:Value}(ha:∀z n c,a≠ .own z n c)(h:VR G I N w pl a x):VR G I N w Av a x:=by
 cases a with
 |own z n c=>simp_all
 |any=>simp [VR]
 |_=>simp_all [VR]
structure at9 (pl:Place)(l:I7)(H:q6)(w:World)(G:Gh)(I:U3)(N:Nat->Prop)(v:c8)(H1:q6)(x:Value)(w' :World)(G' :Gh)(I' :U3)(N' :Nat->Prop):Prop where
 val:VR G' I' N' w' pl v x
 hr:HR G' I' N' w' H1
 wf:WF G' w'
 ext:Ext G w G' w'
 gj:nr l G w G' w'
def nq.at {l:I7}{H:q6}{w:World}{G:Gh}{I:U3}{N:Nat->Prop}{v:c8}{H1:q6}{x:Value}{w' :World}{G' :Gh}{I' :U3}{N' :Nat->Prop}
  (h:nq l H w G I N v H1 x w' G' I' N') {pl:Place} (hp:pl≠ .none):∃G2,at9 pl l H w G I N v H1 x w' G2 I' N' :=by
 by_cases ho:∃z n c,v= .own z n c
 .obtain ⟨z,n,c,rfl⟩:=ho
  obtain ⟨G2,hm,hv⟩:=kW hp h.val;refine ⟨G2,hv,h.hr.MM hm U,hm.wf h.wf,h.ext.trans hm.ext,h.gj.trans λid _=>⟨λb hb=>⟨hm.obj b id hb,rfl⟩,λoff=>hm.keeps _ U⟩⟩
 .exact ⟨G',h.val.Ll (λz n c e=>ho ⟨z,n,c,e⟩),h.hr,h.wf,h.ext,h.gj⟩
section
variable {P:Program} {X:Cx} {l:I7} {S:Nat->Prop} {st:I9} {a:Act} {w w1:World} {G G1:Gh} {I I1:U3} {N N1:Nat->Prop}
structure PX (X:Cx)(l:I7)(S:Nat->Prop)(entry:Nat)(st:I9)(a:Act)(w:World)(G:Gh)(I:U3)(N:Nat->Prop)
  (st' :I9) (k:Nat) (x' :Value) (w' :World) (G' :Gh) (I' :U3) (N' :Nat->Prop):Prop where
 mid:ez X l S entry st a w G I N st' k x' w' G' I' N'
 cz:∀id,N' id->id<O st'.H
 old:∀id,id<O st.H->N' id->N id
def uL (h:RI X l S st a w G I N)(gY:∀id,N id->id<O st.H){k:Nat}(hk:¬ S k)(bQ:k<O st.L)(entry:Nat){n m:Nat}(hn:n<=O st.H)(hm:m<=n)
  {l' :I7} (hl' :l'.base=n) (hmay:∀id,id<n->l.may id=F->l'.may id=F) (aJ9 :∀id,m<=id->id<n->l'.may id=F)
  {v:c8} {H1:q6} {x:Value} (hlen:O H1=n) (hc:nq l' (st.H.take n) w (hold G n) I (λi=>N i/\i<n) v H1 x w1 G1 I1 N1) {o9:List Touch} (WK:∀id,o9.any (Touch.L5 id)=F->m<=id) :
  ∃G' I',PX X l S entry st a w G I N (put { st with H:=H1.take m++st.H.drop m,o9 } k v) k x w1 G' I' N:=by
 have htl:O (st.H.take n)=n:=D
 have hN1:∀id,N1 id->N id/\id<n:=λid hid=>by
  have:=hc.cz id hid;exact hc.old id V hid
 have hI1:∀id,N id->id<n->I1 id=I id:=λid hid hlt=>hc.inj id V ⟨hid,hlt⟩
 obtain ⟨G2,hp⟩:=hc.at (pl:= .loc k) U;have hx:=ET hp.ext;have az4:∀id,m<=id->∀b,G b= .obj id->fD G G2 n b= .obj id/\w1.heap[b]? =w.heap[b]? :=by
  intro id hid b hb
  by_cases hlt:id<n
  .obtain ⟨g1,g2⟩:=(hp.gj id (aJ9 id hid hlt)).1 b (qW hlt hb)
   exact ⟨by rw [cq hp.ext M];exact g1,g2⟩
  .exact EU hp.ext V b hb
 have ZG:∀id,m<=id->∀off,cR (.cell id off) G w (fD G G2 n) w1:=by
  intro id hid off
  by_cases hlt:id<n
  .intro b q hb
   obtain ⟨g1,_⟩:=nO (G:=G) (w:=w) (off:=off) hlt b q hb;obtain ⟨g3,g4⟩:=(hp.gj id (aJ9 id hid hlt)).2 off b q g1;exact ⟨by rw [cq hp.ext M];exact g3,g4⟩
  .exact fQ hp.ext M
 have bl3:∀id o',(H1.take m++st.H.drop m)[id]? =J o' ->(id<m/\H1[id]? =J o')\/(m<=id/\st.H[id]? =J o'):=by
  grind
 have hle:∀id o',(H1.take m++st.H.drop m)[id]? =J o' ->o'.L7<=id+1\/∃o:y6,st.H[id]? =J o/\o'.L7<=o.L7:=by
  intro id o' ho'
  rcases bl3 id o' ho' with ⟨hlt,ho⟩|⟨_,ho⟩
  .rcases hc.hle id o' V ho with hb|⟨o,h1,h2⟩
   all_goals grind
  simp_all
 have co3:O (H1.take m++st.H.drop m)=O st.H:=D
 have hII:∀id,N id->I1 id=I id\/n<=id:=λid hid=>by
  grind
 refine ⟨fD G G2 n,λid=>if id<n then I1 id else I id,?_,?_,?_⟩
 .have hIo:∀id,N id->(if id<n then I1 id else I id)=I id:=by
   simp_all
  have hIn:∀id,N1 id->(if id<n then I1 id else I id)=I1 id:=by
   simp_all
  have hNn:∀id,N1 id->N id:=λid hid=>(hN1 id hid).1
  refine ⟨⟨?_,?_,?_,HZ hp.ext h.wf hp.wf,?_⟩,?_,hx,?_,?_,λid _ hN=>hIo id hN,λ_ h=>h,?_,?_⟩
  .intro s t ht
   exact VR.mono hx hIo (λ_ h=>h) _ _ _ (Or.inr (fQ hp.ext U)) (h.T s t ht)
  .intro j hj d hd Mg
   have:k≠j:=by grind
   simp only [A1.put];rw [S9 _ _ _ _ _ this];exact VR.mono hx hIo (λ_ h=>h) _ _ _ (Or.inr (fQ hp.ext U)) (h.L j hj d hd Mg)
  .intro id o' ho'
   rcases bl3 id o' ho' with ⟨hlt,ho⟩|⟨hge,ho⟩
   .refine OR.mono (qd hp.ext) hIn hNn id o' (λhb=>?_) (λoff=>mD hp.ext _) (hp.hr id o' ho)
    exact ⟨by rw [cq hp.ext M];exact hb,rfl⟩
   .exact OR.mono hx hIo (λ_ h=>h) id o' (λhb=>az4 id hge _ hb) (ZG id hge) (h.H id o' ho)
  .intro id o' ho'
   rcases hle id o' ho' with hb|⟨o,h1,h2⟩
   .omega
   .obtain ⟨d1,d2⟩:=h.X7 id o h1
    omega
  .simp only [A1.put]
   rw [R4 _ _ _ _ bQ];exact VR.mono (qd hp.ext) hIn hNn _ _ _ (Or.inr (mD hp.ext _)) hp.val
  .intro id hid
   by_cases hlt:id<n
   .obtain ⟨p1,p2⟩:=hp.gj id (hmay id hlt hid)
    refine ⟨λb hb=>?_,λoff b q hb=>?_⟩
    .obtain ⟨g1,g2⟩:=p1 b (qW hlt hb)
     exact ⟨by rw [cq hp.ext M];exact g1,g2⟩
    .obtain ⟨g1,_⟩:=nO (G:=G) (w:=w) (off:=off) hlt b q hb
     obtain ⟨g3,g4⟩:=p2 off b q g1;exact ⟨by rw [cq hp.ext M];exact g3,g4⟩
   grind
  all_goals grind [A1.put]
 all_goals simp_all [A1.put]
def Qj (h:RI X l S st a w G I N)(gY:∀id,N id->id<O st.H){k:Nat}(hk:¬ S k)(bQ:k<O st.L)(entry:Nat)
  {v:c8} {H1:q6} {x:Value} (hlen:O st.H<=O H1) (hc:nq l st.H w (hold G (O st.H)) I N v H1 x w1 G1 I1 N1) {o9:List Touch} (WK:∀id,o9.any (Touch.L5 id)=F->O st.H<=id) :
  ∃G',PX X l S entry st a w G I N (put { st with H:=H1,o9 } k v) k x w1 G' I1 N1:=by
 obtain ⟨G2,hp⟩:=hc.at (pl:= .loc k) U;have hx:=ET hp.ext;have hIo:∀id,N id->I1 id=I id:=λid hid=>hc.inj id (gY id hid) hid
 refine ⟨fD G G2 (O st.H),?_,hc.cz,hc.old⟩;refine ⟨⟨?_,?_,?_,HZ hp.ext h.wf hp.wf,hc.X7⟩,?_,hx,?_,?_,λid _ hN=>hIo id hN,hc.mono,hlen,λid o' hb ho' =>hc.hle id o' hb ho'⟩
 .intro s t ht
  exact VR.mono hx hIo hc.mono _ _ _ (Or.inr (fQ hp.ext U)) (h.T s t ht)
 .intro j hj d hd Mg
  have:k≠j:=by grind
  simp only [A1.put];rw [S9 _ _ _ _ _ this];exact VR.mono hx hIo hc.mono _ _ _ (Or.inr (fQ hp.ext U)) (h.L j hj d hd Mg)
 .intro id o' ho'
  refine OR.mono (qd hp.ext) (λ_ _=>rfl) (λ_ h=>h) id o' (λhb=>?_) (λoff=>mD hp.ext _) (hp.hr id o' ho');exact ⟨by rw [cq hp.ext M];exact hb,rfl⟩
 .simp only [A1.put]
  rw [R4 _ _ _ _ bQ];exact VR.mono (qd hp.ext) (λ_ _=>rfl) (λ_ h=>h) _ _ _ (Or.inr (mD hp.ext _)) hp.val
 .intro id hid
  by_cases hlt:id<O st.H
  .obtain ⟨p1,p2⟩:=hp.gj id hid
   refine ⟨λb hb=>?_,λoff b q hb=>?_⟩
   .obtain ⟨g1,g2⟩:=p1 b (qW hlt hb)
    exact ⟨by rw [cq hp.ext M];exact g1,g2⟩
   .obtain ⟨g1,_⟩:=nO (G:=G) (w:=w) (off:=off) hlt b q hb
    obtain ⟨g3,g4⟩:=p2 off b q g1;exact ⟨by rw [cq hp.ext M];exact g3,g4⟩
  .exact ⟨EU hp.ext V,λoff=>fQ hp.ext M⟩
 .intro id hN ht
  have:=gY id hN;have:=WK id ht;omega
def DF {l:I7}{a b base strict id:Nat}(h:l.may id=F\/(a<=id/\id<b)):(l.qT a b base strict).may id=F:=by
 grind [I7.qT,I7.may,J3,decide_eq_false_iff_not]
def mc (l:I7)(a b base strict:Nat):(l.qT a b base strict).base=base/\(l.qT a b base strict).strict=strict:=by
 grind [I7.qT]
def Wn {E:Env}(SK:qF P E.cf E.prom)(hE:E.lim=l)(h:RI X l S st a w G I N)(gY:∀id,N id->id<O st.H)(hb:l.base<=O st.H)(hs:l.strict<=l.base)
  {k:Nat} (hk:¬ S k) (bQ:k<O st.L) (entry:Nat) {f:FuncId} {args:List c8} {J5:Array Value} (hargs:L3 G I N w args J5.toList) {st' :I9} (he:D5 E k f args st=J st') :
  Calls P f J5 w λe w' =>∃x G' I' N',e= .returned x/\PX X l S entry st a w G I N st' k x w' G' I' N' :=by
 subst hE;unfold D5 at he;split at he
 next Ah=>
  split at he
  next v H1 ig=>
   split at he
   next hlen=>
    cases he;refine Calls.mono (SK f args st.H E.lim v H1 ig w (hold G (O st.H)) I N J5 ⟨?_,?_,SP h.wf,gY,h.X7,hb,hs,λ_ _=>Mh,λh0 _ _ _=>GX h0⟩ M) ?_
    .exact L3.mono wI.sub (λ_ _=>rfl) (λ_ h=>h) _ _ hargs
    .intro id o ho
     have hlt:=y5 ho;exact OR.mono wI.sub (λ_ _=>rfl) (λ_ h=>h) id o (λhb=>⟨qW hlt hb,rfl⟩) (λ_=>nO hlt) (h.H id o ho)
    .rintro e w' ⟨x,G1,I1,N1,rfl,hc⟩
     obtain ⟨G',hd⟩:=Qj h gY hk bQ entry hlen hc (o9:= .below (O H1)::st.o9) (by
      grind [Touch.L5])
     grind
   .cases he
  .cases he
 next Ah=>
  have Ah:E.prom f=F:=M
  simp only at he;generalize Mg:G6 st.H E.lim.strict 8 (C5 args)=n at he;have hna:C5 args<=n:=by
   rw [<- Mg];have:∀(j m:Nat),m<=G6 st.H E.lim.strict j m:=by
    intro j
    induction j with
    |zero=>grind [G6]
    |succ j ih =>
     grind [G6,C9,Nat.le_max_left]
   grind
  split at he
  next eH=>
   obtain ⟨hn,hbO⟩:=eH;have htl:O (st.H.take n)=n:=D
   have pre:∀l' :I7,l'.base=n->l'.strict=E9 st.H E.lim.strict n->Cn l' (st.H.take n) w (hold G n) I (λi=>N i/\i<n) args J5:=by
    intro l' h1 h2;refine ⟨?_,?_,SP h.wf,λid hid=>V,?_,V,by simp_all [NQ],λb id hb=>by rw [htl];exact Mh hb,λh0 _ _ _=>GX V⟩
    .exact L3.mono wI.sub (λ_ _=>rfl) (λ_ h=>h) _ _ (L3.low n _ _ hna hargs)
    .intro id o ho
     have hlt:id<n:=by grind
     rw [List.getElem?_take_of_lt hlt] at ho;exact OR.mono wI.sub (λ_ _=>rfl) (λ_ h=>h) id o (λhb=>⟨qW hlt hb,rfl⟩) (λ_=>nO hlt) (OR.low hlt o (zv h.X7 hbO hlt ho) (h.H id o ho))
    .intro id o ho
     have hlt:id<n:=by have:=y5 ho;omega
     rw [List.getElem?_take_of_lt hlt] at ho;rw [h1,h2];exact ⟨λhh=>Kq h.X7 hh ho,λ_=>zv h.X7 hbO hlt ho⟩
   split at he
   .split at he
    next v H1 ig=>
     split at he
     next hlen=>
      cases he;refine Calls.mono (SK f args _ _ v H1 ig w (hold G n) I _ J5 (pre _ rfl rfl) (λ_=>htl.symm)) ?_;rintro e w' ⟨x,G1,I1,N1,rfl,hc⟩;obtain ⟨G',I',hd⟩:=uL (l' :={ E.lim with base:=n,strict:=E9 st.H E.lim.strict n }) h gY hk bQ entry hn (l6 n) rfl (λid _ hid=>hid) (λid h1 h2=>V) hlen hc (o9:= .below n::st.o9) (by
       intro id ht;simp [Touch.L5] at ht;omega)
      rw [<- hlen,H8,hlen] at hd;exact ⟨x,G',I',N,rfl,hd⟩
     .cases he
    .cases he
   .split at he
    next v H1 ig=>
     split at he
     next hlen=>
      cases he;refine Calls.mono (SK f args _ _ v H1 ig w (hold G n) I _ J5 (pre _ rfl rfl) (λ_=>htl.symm)) ?_;rintro e w' ⟨x,G1,I1,N1,rfl,hc⟩;obtain ⟨G',I',hd⟩:=uL (l' :=⟨0,n,n,E9 st.H E.lim.strict n⟩) h gY hk bQ entry hn (O0 n) rfl (λid h1 _=>by simp [I7.may];omega) (λid _ h2=>by simp [I7.may];omega) hlen hc (o9:=st.o9) (by intros;omega);refine ⟨x,G',I',N,rfl,?_⟩;simpa using hd
     .cases he
    .cases he
   .split at he
    next v H1 ig=>
     split at he
     next hlen=>
      cases he;refine Calls.mono (SK f args _ _ v H1 ig w (hold G n) I _ J5 (pre _ (mc _ _ _ _ _).1 (mc _ _ _ _ _).2) (λ_=>by rw [(mc _ _ _ _ _).1,htl])) ?_;rintro e w' ⟨x,G1,I1,N1,rfl,hc⟩;obtain ⟨G',I',hd⟩:=uL h gY hk bQ entry hn hlen.2 (mc _ _ _ _ _).1 (λid _ hid=>DF (Or.inl hid)) (λid h1 h2=>DF (Or.inr ⟨h1,h2⟩)) hlen.1 hc (o9:= .below (args.headD .any).L7::st.o9) (by
       intro id ht;simp [Touch.L5] at ht;simpa using ht.1)
      exact ⟨x,G',I',N,rfl,hd⟩
     .cases he
    .cases he
  .cases he
end
end Go.A1
namespace Go.A1
variable [E5]
structure Tr (N:Nat->Prop)(k:Nat)(st st' :I9):Prop where
 o9:∀p:Touch->Bool,st.o9.any p=W->st'.o9.any p=W
 L:∀m id off:Nat,m≠k->st'.L[m]? =J (c8.ptr id off)->st.L[m]? =J (c8.ptr id off)
 T:∀s id off:Nat,st'.T[s]? =J (c8.ptr id off)->st.T[s]? =J (c8.ptr id off)
 H:∀(id:Nat) (l' :List c8),N id->st'.o9.any (Touch.L5 id)=F->st'.H[id]? =J (y6.cells l')->∃l:List c8,st.H[id]? =J (y6.cells l)/\O l=O l'
 X8:O st'.T=O st.T
 kT:O st'.L=O st.L
 skp:∀m:Nat,m≠k->st.L[m]? =J (c8.tuple [])->st'.L[m]? =J (c8.tuple [])
section
variable {N:Nat->Prop} {k:Nat} {st st1 st' :I9}
theorem Tr.refl (N:Nat->Prop)(k:Nat)(st:I9):Tr N k st st :=
 ⟨λ_ h=>h,λ_ _ _ _ h=>h,λ_ _ _ h=>h,λ_ l _ _ h=>⟨l,h,rfl⟩,rfl,rfl,λ_ _ h=>h⟩
theorem kU {t t' :List Touch}(h:∀p:Touch->Bool,t.any p=W->t'.any p=W){p:Touch->Bool}(h' :t'.any p=F):t.any p=F:=by
 grind
theorem Tr.trans (a:Tr N k st st1)(b:Tr N k st1 st'):Tr N k st st' where
 o9 p h:=b.o9 p (a.o9 p h)
 L m id off hm h:=a.L m id off hm (b.L m id off hm h)
 T s id off h:=a.T s id off (b.T s id off h)
 H id l' hN ht h:=by
  obtain ⟨l1,h1,e1⟩:=b.H id l' hN ht h;obtain ⟨l,h2,e2⟩:=a.H id l1 hN (kU b.o9 ht) h1;simp_all
 X8:=b.X8.trans a.X8
 kT:=b.kT.trans a.kT
 skp m hm h:=b.skp m hm (a.skp m hm h)
theorem Tr.put (v:c8):Tr N k st (put st k v) where
 o9 _ h:=h
 L m id off hm h:=by
  grind [A1.put,D0]
 T _ _ _ h:=h
 H _ l _ _ h:=⟨l,h,rfl⟩
 X8:=rfl
 kT:=by simp [A1.put]
 skp m hm h:=by
  grind [A1.put,D0]
def zu {l:List c8}{j m id off:Nat}{x:Data}(h:(l.set j (.d x))[m]? =J (.ptr id off)):l[m]? =J (.ptr id off):=by
 grind
def AE {l:List c8}{j m:Nat}{z n:Nat}{c:List Data}{v:c8}(hj:l[j]? =J (.own z n c))(h:l[m]? =J (c8.tuple [])):(l.set j v)[m]? =J (c8.tuple []):=by
 grind
theorem Tr.E7 (y:y7):Tr N k st (E7 st y).2:=by
 cases y with
 |loc j =>
  simp [A1.E7];split
  next hj=>
   exact ⟨λ_ h=>h,λm id off _ h=>zu h,λ_ _ _ h=>h,λ_ l _ _ h=>⟨l,h,rfl⟩,rfl,U,λ_ _ h=>AE hj h⟩
  all_goals simp_all [Tr.refl]
 |slot s=>exact Tr.refl _ _ _
 |const v=>exact Tr.refl _ _ _
def Tr.newObj {A4:Option Nat}(hi:∀i,A4=J i->i<O st.H)(hn:¬ N (newId st A4))(o:y6):Tr N k st (N7 st A4 o) where
 o9 p h:=by cases A4<;>exact h
 L m id off _ h:=by cases A4<;>exact h
 T s id off h:=by cases A4<;>exact h
 H id l' hN _ h:=by
  grind [mh,absurd]
 X8:=by cases A4<;>rfl
 kT:=by cases A4<;>rfl
 skp m _ h:=by cases A4<;>exact h
def Tr.heap {H' :q6}{o9:List Touch}(h1:∀p:Touch->Bool,st.o9.any p=W->o9.any p=W)(h2:∀id,N id->o9.any (Touch.L5 id)=F->H'[id]? =st.H[id]?):Tr N k st { st with H:=H',o9 } where
 o9:=h1
 L _ _ _ _ h:=h
 T _ _ _ h:=h
 H id l' hN ht h:=by
  simp_all
 X8:=rfl
 kT:=rfl
 skp _ _ h:=h
theorem Tr.Z3 {l:I7}{sz len:Nat}{cells:List Data}{op:x9}(h:Z3 l st sz op=J (len,cells,st')):Tr N k st st' :=by
 unfold A1.Z3 at h;split at h
 .split at h
  .cases h
  .split at h
   .split at h
    .cases h
     exact ⟨λp hp=>M,λ_ _ _ _ h=>h,λs id off h=>zu h,λ_ l _ _ h=>⟨l,h,rfl⟩,U,rfl,λ_ _ h=>h⟩
    .cases h
   .cases h
 .split at h
  .split at h
   .cases h
   .split at h
    .split at h
     .split at h
      .cases h
       refine ⟨λp hp=>M,λ_ _ _ _ h=>h,λ_ _ _ h=>h,λid' l' _ _ h=>?_,rfl,rfl,λ_ _ h=>h⟩
       grind [N6,y5,D0]
      .cases h
     .cases h
    .cases h
  .cases h
 .cases h
theorem Tr.R8 {l:I7}{l5:List p7}{sz len:Nat}{cells:List Data}{y:y7}(h:R8 l l5 st sz y=J (len,cells,st')):Tr N k st st' :=by
 unfold A1.R8 at h;split at h
 .simp_all [Tr.refl]
 .cases h
 .cases h
 .split at h
  next hj=>
   split at h
   .cases h
    exact ⟨λ_ h=>h,λm id off _ h=>zu h,λ_ _ _ h=>h,λ_ l _ _ h=>⟨l,h,rfl⟩,rfl,U,λ_ _ h=>AE hj h⟩
   .cases h
  all_goals grind [Tr.Z3]
theorem ZK {v:c8}{id i o:Nat}(h:v.kill id= .ptr i o):v= .ptr i o:=by
 cases v<;>simp [c8.kill] at h<;>first|omega|grind|exact h
def Hi {l:List c8}{id m i o:Nat}(h:(K6 id l)[m]? =J (.ptr i o)):l[m]? =J (.ptr i o):=by
 grind [iG,Option.some.injEq,ZK]
theorem Tr.V6 {E:Env}{sz bytes id lo len:Nat}{y:c8}(h:V6 E k sz bytes st id lo len y=J st'):Tr N k st st' :=by
 unfold A1.V6 at h;split at h
 .split at h
  next l0 m cs hl0 _=>
   split at h
   .cases h
    refine Tr.trans ?_ (Tr.put _);refine ⟨λp hp=>M,λm' i o _ h=>Hi h,λs i o h=>Hi h,λid' l' _ ht h=>?_,by simp [U1],by simp [U1],λm' _ h=>by grind [iG,c8.kill,K6]⟩;have hne:id' ≠id:=by grind [Touch.L5]
    have h' :(tj st.H E.lim.base id (.cells (K6 id l0++cs)))[id']? =J (.cells l'):=h;unfold tj at h';rw [D0 (λe=>hne e.symm)] at h'
    by_cases hb:id' <E.lim.base
    .grind
    .by_cases hlt:id' <O st.H
     .rw [y3 D,List.getElem?_map,List.getElem?_drop] at h'
      rw [show E.lim.base+(id' - O (List.take E.lim.base st.H))=id' from by simp;omega] at h';cases ho:st.H[id']? with
      |none=>simp_all
      |some o =>
       rw [ho] at h';cases o<;>simp [y6.kill] at h'
       grind [U1]
     grind
   .cases h
  .cases h
 .cases h
theorem Tr.D5 {E:Env}{f:FuncId}{args:List c8}(gY:∀id,N id->id<O st.H)(h:D5 E k f args st=J st'):Tr N k st st' :=by
 unfold A1.D5 at h;split at h
 .split at h
  .split at h
   .cases h
    refine Tr.trans ?_ (Tr.put _);refine Tr.heap (λp hp=>M) λid hN ht=>?_
    grind [Touch.L5]
   .cases h
  .cases h
 .simp only at h
  split at h
  .split at h
   .split at h
    .split at h
     .cases h
      refine Tr.trans ?_ (Tr.put _);refine Tr.heap (λp hp=>M) λid hN ht=>?_
      simp_all [Touch.L5,y3,List.getElem?_drop]
     .cases h
    .cases h
   .grind [Tr.put]
   .split at h
    .split at h
     .cases h
      refine Tr.trans ?_ (Tr.put _);refine Tr.heap (λp hp=>M) λid hN ht=>?_
      simp_all [Touch.L5,y3,List.getElem?_drop]
     .cases h
    .cases h
  .cases h
theorem xG {H H' :q6}{id off:Nat}{vs:List c8}(h:wr H id off vs=J H'){id' :Nat}(hne:id' ≠id):H'[id']? =H[id']? :=by
 grind [wr,D0]
theorem Tr.U2 {E:Env}{n:Nat}{a:c8}{x:y7}(h:U2 E k n st a x=J st'):Tr N k st st' :=by
 unfold A1.U2 at h;split at h
 .split at h
  .split at h
   .split at h
    .cases h
     refine Tr.trans (Tr.trans (Tr.E7 x) ?_) (Tr.put _);refine Tr.heap (λp hp=>M) λid' hN ht=>?_
     grind [xG,Touch.L5]
    .cases h
   .cases h
  .cases h
 .cases h
theorem Tr.ah {E:Env}{sz:Nat}{zero:List c8}{a:c8}(h:ah E k sz zero st a=J st'):Tr N k st st' :=by
 unfold A1.ah at h;split at h
 .split at h
  .split at h
   .cases h
    refine Tr.trans ?_ (Tr.put _);refine Tr.heap (λp hp=>M) λid' hN ht=>?_
    grind [xG,Touch.L5]
   .cases h
  .cases h
 all_goals grind [Tr.put]
theorem Tr.W9 {E:Env}{kk:KK}{m key v:c8}(h:W9 E k kk st m key v=J st'):Tr N k st st' :=by
 unfold A1.W9 at h;split at h
 .split at h
  .split at h
   .split at h
    .split at h
     .cases h
      refine Tr.trans ?_ (Tr.put _);refine Tr.heap (λp hp=>M) λid' hN ht=>?_
      simp_all [D0,Touch.L5]
     .cases h
    .cases h
   .cases h
  .cases h
 .cases h
theorem Tr.Q1 {E:Env}{l5:List p7}{A4:Option Nat}{sz bytes:Nat}{ob:Bool}{x:y7}{y:c8}(hi:∀i,A4=J i->i<O st.H)(hn:¬ N (newId st A4))
  (h:Q1 E l5 A4 k sz bytes ob st x y=J st'):Tr N k st st' :=by
 unfold A1.Q1 at h;split at h
 .split at h
  .split at h
   .split at h
    .grind [Tr.put]
    .cases h;exact (Tr.newObj hi hn _).trans (Tr.put _)
   .cases h
  .split at h
   .split at h
    next ht=>
     split at h
     .cases h;exact (Tr.R8 ht).trans (Tr.put _)
     .cases h
    .cases h
   .cases h
 .cases h
theorem Tr.F9 {E:Env}{l5:List p7}{A4:Option Nat}{op:x9}(gY:∀id,N id->id<O st.H)(hi:∀i,A4=J i->i<O st.H)(hn:op.B0=W->¬ N (newId st A4))
  (h:F9 E l5 A4 k st op=J st'):Tr N k st st' :=by
 cases op<;>simp only [A1.F9] at h<;>try simp_all
 case alloc zero=>cases h;exact (Tr.newObj hi (hn rfl) _).trans (Tr.put _)
 case box x =>
  split at h
  .cases h;exact (Tr.newObj hi (hn rfl) _).trans (Tr.put _)
  .cases h
 case makeMap=>cases h;exact (Tr.newObj hi (hn rfl) _).trans (Tr.put _)
 case qz x=>grind [Tr.put]
 case own sz x =>
  split at h
  next ht=>
   cases h;exact (Tr.R8 ht).trans (Tr.put _)
  .cases h
 case H6 sz len zero parts ob =>
  cases ob
  .cases h
  .simp only at h
   split at h
   .split at h
    .cases h;exact (Tr.newObj hi (hn rfl) _).trans (Tr.put _)
    .cases h
   .cases h
 case store n a x=>exact Tr.U2 h
 case append sz bytes ob x y =>
  split at h
  .grind [Tr.V6]
  .cases ob with
   |true=>exact Tr.Q1 hi (hn rfl) h
   |false =>
    unfold A1.Q1 at h;simp only [j4,if_false] at h;split at h
    .split at h
     .split at h
      next ht=>
       split at h
       .cases h;exact (Tr.R8 ht).trans (Tr.put _)
       .cases h
      .cases h
     .cases h
    .cases h
 case clear sz zero x=>exact Tr.ah h
 all_goals grind [call,Tr.D5,Tr.W9,Tr.put]
theorem Tr.E1 {E:Env}{l5:List p7}{A4:Option Nat}{op:x9}{rs:List Nat}(gY:∀id,N id->id<O st.H)(hi:∀i,A4=J i->i<O st.H)(hn:op.B0=W->¬ N (newId st A4))
  (h:E1 E l5 A4 k op st=J (st',rs)):Tr N k st st' :=by
 unfold A1.E1 at h;split at h
 .grind [Tr.F9]
 .split at h
  .cases h
   exact (Tr.E7 _).trans (Tr.put _)
  grind [Tr.put]
end
end Go.A1
namespace Go.A1
variable [E5]
structure zP (A4:Option Nat)(X:Cx)(l:I7)(S:Nat->Prop)(entry:Nat)(st:I9)(a:Act)(w:World)(G:Gh)(I:U3)(N:Nat->Prop)
  (st' :I9) (k:Nat) (x' :Value) (w' :World) (G' :Gh) (I' :U3) (N' :Nat->Prop):Prop where
 mid:ez X l S entry st a w G I N st' k x' w' G' I' N'
 cz:∀id,N' id->id<O st'.H
 old:∀id,id<O st.H->N' id->N id\/A4=J id
def eB (P:Program)(o:Oper)(a:Act)(w:World)(R:Act->World->Prop):Prop :=
 ∀(d5:Act->World->Prop) (Q:Exit->Act->World->Prop),(∀a' w',R a' w' ->d5 a' w')->o.wp P a w d5 Q
section
variable {P:Program} {o:Oper} {a:Act} {w w' :World} {R:Act->World->Prop}
theorem eB.value {x:Value}(h:(execOp a.eval o).run P w= .ok (.value x) w')(hR:R (a.put o.dst x) w'):eB P o a w R:=by
 intro d5 Q hK;simp_all [Oper.wp,Oper.upon]
theorem eB.skip (h:(execOp a.eval o).run P w= .ok .skip w')(hR:R (a.put o.dst undef) w'):eB P o a w R:=by
 intro d5 Q hK;simp_all [Oper.wp,Oper.upon]
theorem eB.defer {d:Deferred}(h:(execOp a.eval o).run P w= .ok (.defer d) w')(hR:R ({ a with defers:=d::a.defers }.put o.dst undef) w'):eB P o a w R:=by
 intro d5 Q hK;simp_all [Oper.wp,Oper.upon]
theorem eB.enter {f:FuncId}{args:Array Value}(h:(execOp a.eval o).run P w= .ok (.enter f args) w)(hR:Calls P f args w λe w' =>∃x,e= .returned x/\R (a.put o.dst x) w'):eB P o a w R:=by
 intro d5 Q hK
 grind [Oper.wp,Oper.upon,Calls.mono]
end
def BJ (P:Program)(ck:Operand->y7->Bool)(o:Oper)(op:x9):Bool :=
 match o.op,op with
 | .call ⟨.value (.func f),args,_⟩,.call g ys=>f==g&&Yy ck args.toList ys&&V2 P f
 | .call ⟨.value x,args,_⟩,.bC y ys=>ck x y&&Yy ck args.toList ys
 |_,_=>F
def LD (ck:Operand->y7->Bool)(o:Oper)(op:x9):Bool :=
 match o.op,op with
 | .defer ⟨.value x,args,_⟩,.defer y=>ck x y&&args.isEmpty
 |_,_=>F
def yA (ck:Operand->y7->Bool)(o:Oper)(y:y7):Bool :=
 match o.op with
 | .move x=>ck x y
 | .assign x=>ck x y
 |_=>F
def bD (P:Program)(ck:Operand->y7->Bool)(o:Oper)(op:x9):Bool :=
 match op with
 | .Q5 y=>yA ck o y
 | .alloc _=>gA P ck o op
 | .box _=>gA P ck o op
 | .makeMap=>gA P ck o op
 | .qz x=>yA ck o (.const (.d x))
 | .own _ x=>yA ck o x
 | .H6 .. =>gA P ck o op
 | .store .. =>CN P ck o op
 | .append _ _ _ _ _=>kB P ck o op
 | .fA .. =>Ql P ck o op
 | .call .. =>BJ P ck o op
 | .bC .. =>BJ P ck o op
 | .defer _=>LD ck o op
 | .clear .. =>CL P ck o op
 | .bad=>W
 |op=>G5 P ck o op
section
variable {P:Program} {X:Cx} {l:I7} {S:Nat->Prop} {st st' :I9} {a:Act} {w w' :World} {G G' :Gh} {I I' :U3} {N N' :Nat->Prop} {i6:Nat->Bool} {l5:List p7}
def zP.lz {A4:Option Nat}{entry k:Nat}{x:Value}(gY:∀id,N id->id<O st.H)(h:ez X l S entry st a w G I N st' k x w' G' I' N):zP A4 X l S entry st a w G I N st' k x w' G' I' N :=
 ⟨h,λid hid=>Nat.lt_of_lt_of_le (gY id hid) h.len,λ_ _ h=>Or.inl h⟩
def zP.aa6 {entry k:Nat}{x:Value}{A4:Option Nat}(gY:∀id,N id->id<O st.H){o:y6}{v:c8}(hi:∀i,A4=J i->i<O st.H)
  (h:ez X l S entry st a w G I N (put (N7 st A4 o) k v) k x w' G' I' N') (hN:∀i,N' i↔N i\/i=newId st A4) :
  zP A4 X l S entry st a w G I N (put (N7 st A4 o) k v) k x w' G' I' N' :=by
 refine ⟨h,λid hid=>?_,λid hlt hid=>?_⟩
 all_goals (simp_all [put,N7,newId]<;>grind)
def uI {l1 l2:List c8}{v1 v2:List Value}:∀(_:L3 G I N w l1 v1) (_:L3 G I N w l2 v2),L3 G I N w (l1++l2) (v1++v2):=by
 induction l1 generalizing v1 with
 |nil=>simp_all [L3]
 |cons b bs ih =>
  grind [L3]
structure lN (X:Cx)(st:I9)(a:Act)(w:World)(I:U3)(op:x9)(x:Value):Prop where
 Q5:∀s t,op= .Q5 (.slot s)->X.names[s]? =J t->x=a.tmps.getD t undef
 load:∀y id off,op= .load K y->cA st y=J (id,off)->w.cell? (ad (I id).1 ((I id).2+off))=J x
def lN.other {X:Cx}{st:I9}{a:Act}{w:World}{I:U3}{op:x9}{x:Value}(h1:∀y,op≠ .Q5 y)(h2:∀n y,op≠ .load n y):lN X st a w I op x :=
 ⟨λ_ _ h=>absurd h (h1 _),λ_ _ _ h=>absurd h (h2 _ _)⟩
def aD0 {st:I9}{y:y7}{id off:Nat}(h:cA st y=J (id,off)):K4 st.T st.L y= .ptr id off:=by
 unfold cA at h
 grind [K4,List.getD,c8.K7]
def WS {ck:Operand->y7->Bool}{η:Operand->Value}{ρ:y7->c8}{H:q6}(hρ:ee ck G I N w η ρ)(hH:HR G I N w H){o:Oper}{y:y7}(hc:G5 P ck o (.load K y)=W){v:c8}{rs:List Nat}
  (h:o7 ρ H (.load K y)=J (v,rs)) {id off:Nat} (hp:ρ y= .ptr id off) {x:Value} (hx:(execOp η o).run P w= .ok (.value x) w):w.cell? (ad (I id).1 ((I id).2+off))=J x:=by
 obtain ⟨dst,gh,ty,pos,after,guard⟩:=o;cases gh<;>simp [G5] at hc;rename_i t x';have h1:=hρ _ _ hc.1;have ha:fm P t=J F:=by simp_all [vj]
 simp [o7,hp] at h;rw [hp] at h1;simp [VR] at h1;split at h
 next u hu=>
  obtain ⟨_,xs,g1,_,g3,g4⟩:=hH.rd hu V;obtain ⟨z,rfl⟩:∃z,xs=[z]:=by
   match xs,g1 with
   |[z],_=>simp_all
  have hz:=g3 0 z rfl;simp_all [execOp,Instr.loadAt,Instr.sureAddr,loadVar,dP]
 .cases h
def Cm (P:Program)(idle:FuncId->Bool)(A4:Option Nat)(X:Cx)(l:I7)(S:Nat->Prop)(entry:Nat)(st:I9)(a:Act)(w:World)(G:Gh)(I:U3)(N:Nat->Prop)(st' :I9)(k:Nat)(o:Oper)(op:x9)(a' :Act)(w' :World):Prop :=
 ∃x ds G' I' N',lN X st a w I op x/\a' =({ a with defers:=ds }:Act).put o.dst x/\(ds=a.defers\/∃d,ds=d::a.defers/\Lf P idle d)/\zP A4 X l S entry st a w G I N st' k x w' G' I' N'
def NO {E:Env}(SK:qF P E.cf E.prom)(ig:∀f args H lm r,E.cf f args H lm=J r->V2 P f=W)(hE:E.lim=l)(h:RI X l S st a w G I N)(hpv:PV X l5 S st a w I)(hT:O st.T=O X.names)
  (gY:∀id,N id->id<O st.H) (hb:l.base<=O st.H) (hs:l.strict<=l.base) (hD:∀j,i6 j=W->S j) {k:Nat} (hk:¬ S k) (bQ:k<O st.L) {o:Oper} {op:x9} (hc:bD P (X.ck i6) o op=W)
  {A4:Option Nat} (hid:op.B0=W->Ld l st N A4) {rs:List Nat} (he:E1 E l5 A4 k op st=J (st',rs)) :
  eB P o a w (Cm P E.idle A4 X l S E.entry st a w G I N st' k o op):=by
 have hρ:=h.U5 hD;have fin:∀{x:Value} {w' :World} {G' :Gh} {I' :U3} {N' :Nat->Prop},lN X st a w I op x->zP A4 X l S E.entry st a w G I N st' k x w' G' I' N' ->Cm P E.idle A4 X l S E.entry st a w G I N st' k o op (a.put o.dst x) w' :=
  λ{x w' G' I' N'} hF hS=>⟨x,a.defers,G',I',N',hF,rfl,Or.inl rfl,hS⟩
 have ae5:∀{v:c8} {rs:List Nat},(∀y,op≠ .Q5 y)->G5 P (X.ck i6) o op=W->o7 (K4 st.T st.L) st.H op=J (v,rs)->st' =put st k v->eB P o a w (Cm P E.idle A4 X l S E.entry st a w G I N st' k o op):=by
  intro v rs hm h1 h2 h3;subst h3;obtain ⟨x,g1,g2⟩:=Rk (P:=P) (λv=>by rfl) hρ h.H h1 h2;refine eB.value g1 (fin ⟨λs t e=>absurd e (hm _),λy id off e hp=>?_⟩ (zP.lz gY (ez.same h hk bQ E.entry g2.place)));subst e;exact WS hρ h.H h1 h2 (aD0 hp) g1
 have Lu:(∀y,op≠ .Q5 y)->(∀n y,op≠ .load n y)->∀(f:FuncId) (args:List c8) (J5:Array Value),L3 G I N w args J5.toList->D5 E k f args st=J st' ->(execOp a.eval o).run P w=(callFunc f J5).run P w->eB P o a w (Cm P E.idle A4 X l S E.entry st a w G I N st' k o op):=by
  intro hm hl f args J5 h1 h2 h3;have hcan:V2 P f=W:=by
   unfold D5 at h2;split at h2
   .split at h2
    next WE=>
     exact ig f _ _ _ _ WE
    .cases h2
   .simp only at h2
    split at h2
    .split at h2
     .split at h2
      next WE=>
       exact ig f _ _ _ _ WE
      .cases h2
     .split at h2
      next WE=>
       exact ig f _ _ _ _ WE
      .cases h2
     .split at h2
      next WE=>
       exact ig f _ _ _ _ WE
      .cases h2
    .cases h2
  refine eB.enter (f:=f) (args:=J5) (by rw [h3];exact xg hcan J5) ?_;refine Calls.mono (Wn SK hE h gY hb hs hk bQ E.entry h1 h2) ?_;rintro e w' ⟨x,G',I',N',rfl,hC⟩;exact ⟨x,rfl,fin (lN.other hm hl) ⟨hC.mid,hC.cz,λid hlt hid=>Or.inl (hC.old id hlt hid)⟩⟩
 unfold E1 at he;cases op
 case Q5 y =>
  simp only [x9.D6,j4,if_false] at he;cases he;simp only [bD] at hc;have key:∀x,X.ck i6 x y=W->(execOp a.eval o).run P w= .ok (.value (a.eval x)) w->eB P o a w (Cm P E.idle A4 X l S E.entry st a w G I N (put (E7 st y).2 k (E7 st y).1) k o (.Q5 y)):=by
   intro x hx hrun;obtain ⟨G1,hX⟩:=h.E7 hD hx (pl:= .loc k) U;have hM:=ez.same hX.ri hk (by rw [Fb];exact bQ) E.entry hX.val;exact eB.value hrun (fin ⟨λs t e hn=>by cases e;simp only [Cx.ck] at hx;split at hx<;>simp_all [Act.eval],λ_ _ _ e=>by cases e⟩ (zP.lz gY (ez.pre hX.ext hX.keeps hX.obj (zH st y) hM)))
  obtain ⟨dst,gh,ty,pos,after,guard⟩:=o;cases gh<;>simp only [yA] at hc<;>try (cases hc;done)
  .exact key _ hc (by simp [execOp])
  .exact key _ hc (by simp [execOp])
 case alloc zero =>
  simp only [x9.D6,if_true,F9] at he;cases he;have h1:=hid rfl;obtain ⟨x,w',G',I',N',g1,g2,g3⟩:=WV h hk bQ E.entry h1 (by simpa [bD] using hc);exact eB.value g1 (fin (lN.other U U) (zP.aa6 gY h1.inside g2 g3))
 case box y =>
  simp only [x9.D6,if_true,F9] at he;split at he
  next hcs=>
   split at hcs
   next cs yP=>
    cases hcs;cases he;have h1:=hid rfl;obtain ⟨x,w',G',I',N',g1,g2,g3⟩:=aA4 h hρ hk bQ E.entry h1 (by simpa [bD] using hc) yP;exact eB.value g1 (fin (lN.other U U) (zP.aa6 gY h1.inside g2 g3))
   .cases hcs
  .cases he
 case qz d =>
  simp only [x9.D6,if_true,F9] at he;cases he;simp only [bD] at hc;have key:∀x,X.ck i6 x (.const (.d d))=W->(execOp a.eval o).run P w= .ok (.value (a.eval x)) w->eB P o a w (Cm P E.idle A4 X l S E.entry st a w G I N (put st k (.d d)) k o (.qz d)):=by
   intro x hx hrun;have g2:VR G I N w .none (.d d) (a.eval x):=hρ x _ hx;exact eB.value hrun (fin (lN.other U U) (zP.lz gY (ez.same h hk bQ E.entry g2.place)))
  obtain ⟨dst,gh,ty,pos,after,guard⟩:=o;cases gh<;>simp only [yA] at hc<;>try (cases hc;done)
  .exact key _ hc (by simp [execOp])
  .exact key _ hc (by simp [execOp])
 case own sz y =>
  simp only [x9.D6,if_true,F9] at he;split at he
  next hcs=>
   split at hcs
   next len cells st1 ht=>
    cases hcs;cases he;simp only [bD] at hc;have key:∀x,X.ck i6 x y=W->(execOp a.eval o).run P w= .ok (.value (a.eval x)) w ->
      eB P o a w (Cm P E.idle A4 X l S E.entry st a w G I N (put st1 k (.own sz len cells)) k o (.own sz y)):=by
     intro x hx hrun;obtain ⟨G1,LZ⟩:=ug h hpv hT hD hk hx (hE ▸ ht);exact eB.value hrun (fin (lN.other U U) (zP.lz gY (ez.aB0 LZ (ez.same LZ.ri hk (by rw [LZ.L];exact bQ) E.entry LZ.val))))
    obtain ⟨dst,gh,ty,pos,after,guard⟩:=o;cases gh<;>simp only [yA] at hc<;>try (cases hc;done)
    .exact key _ hc (by simp [execOp])
    .exact key _ hc (by simp [execOp])
   .cases hcs
  .cases he
 case makeMap =>
  simp only [x9.D6,if_true,F9] at he;cases he;have h1:=hid rfl;obtain ⟨x,w',G',I',N',g1,g2,g3⟩:=aA5 (P:=P) h hk bQ E.entry h1 (by simpa [bD] using hc);exact eB.value g1 (fin (lN.other U U) (zP.aa6 gY h1.inside g2 g3))
 case H6 sz len zero parts ob =>
  cases ob with
  |false =>
   simp only [x9.D6,j4,if_false] at he;split at he
   next v rs' hp=>
    cases he;obtain ⟨x,w',G',g1,g2⟩:=WW h hρ hk bQ E.entry (by simpa [bD] using hc) hp;exact eB.value g1 (fin (lN.other U U) (zP.lz gY g2))
   .cases he
  |true =>
   simp only [x9.D6,if_true,F9] at he;split at he
   next hcs=>
    split at hcs
    next cs yP=>
     split at hcs
     next hl=>
      cases hcs;cases he;have h1:=hid rfl;obtain ⟨x,w',G',I',N',g1,g2,g3⟩:=JU h hρ hk bQ E.entry h1 (by simpa [bD] using hc) yP hl.2;exact eB.value g1 (fin (lN.other U U) (zP.aa6 gY h1.inside g2 g3))
     .cases hcs
    .cases hcs
   .cases he
 case store n x y =>
  simp only [x9.D6,if_true,F9] at he;split at he
  next hst=>
   cases he;obtain ⟨w',G',g1,g2⟩:=Wp h hD hk bQ E.entry (by simpa [bD] using hc) hE hst;exact eB.skip g1 (fin (lN.other U U) (zP.lz gY g2))
  .cases he
 case append sz bytes ob x y =>
  simp only [bD] at hc;simp only [x9.D6,if_true,F9] at he;split at he
  next hst=>
   cases he;split at hst
   next id z lo len hx=>
    split at hst
    next hz=>
     subst hz;obtain ⟨v,w',G',I',g1,g2⟩:=Gf h hD hk bQ hc hE hx hst;exact eB.value g1 (fin (lN.other U U) (zP.lz gY g2))
    .cases hst
   .cases ob with
    |false =>
     obtain ⟨v,w',G',g1,g2⟩:=Qv h hpv hT hD hk bQ E.entry hc hE hst;exact eB.value g1 (fin (lN.other U U) (zP.lz gY g2))
    |true =>
     have h1:=hid rfl
     rcases Ge h hpv hT hD hk bQ E.entry h1 hc hE hst with ⟨v,w',G',g1,g2⟩|⟨v,w',G',I',N',ob,av,g1,rfl,g2,g3⟩
     .exact eB.value g1 (fin (lN.other U U) (zP.lz gY g2))
     .exact eB.value g1 (fin (lN.other U U) (zP.aa6 gY h1.inside g2 g3))
  .cases he
 case fA kk m ky v =>
  simp only [x9.D6,if_true,F9] at he;split at he
  next hst=>
   cases he;obtain ⟨w',g1,g2⟩:=Qw h hD hk bQ E.entry (by simpa [bD] using hc) hE hst;exact eB.skip g1 (fin (lN.other U U) (zP.lz gY g2))
  .cases he
 case call f ys =>
  simp only [x9.D6,if_true,F9] at he;split at he
  next hst=>
   cases he;simp only [bD,BJ] at hc;split at hc
   next f' args _ g ys' hop heq=>
    cases heq;simp only [c7,beq_iff_eq] at hc;obtain ⟨⟨rfl,hcs⟩,hcan⟩:=hc;refine Lu U U f' (ys.map (K4 st.T st.L)) (args.map a.eval) (by simpa using kC hρ _ _ hcs) hst ?_;simp [execOp,hop,resolve,Act.eval,Deferred.ofValue,invoke]
   .rename_i heq;cases heq
   .cases hc
  .cases he
 case bC y ys =>
  simp only [x9.D6,if_true,F9] at he;split at he
  next hst=>
   cases he;simp only [bD,BJ] at hc;split at hc
   .rename_i heq;cases heq
   next x args _ y' ys' hop heq=>
    cases heq;simp only [c7] at hc;have hv:=hρ _ _ hc.1;split at hst
    next f first caps hy=>
     rw [hy] at hv;simp only [VR] at hv;obtain ⟨vf,vc,e1,e2,e3⟩:=hv;refine Lu U U f (first++ys.map (K4 st.T st.L)++caps) (vf++args.map a.eval++vc) ?_ hst ?_
     .simp only [Array.toList_append,Array.toList_map]
      exact uI (uI e2 (kC hρ _ _ hc.2)) e3
     .simp [execOp,hop,resolve,e1,Deferred.ofValue,invoke]
    .cases hst
   .cases hc
  .cases he
 case defer y =>
  simp only [x9.D6,if_true,F9] at he;split at he
  next hst=>
   cases he;simp only [bD,LD] at hc;split at hc
   next x args _ y' hop heq=>
    cases heq;simp only [c7] at hc;have hv:=hρ _ _ hc.1;split at hst
    next f first caps hy=>
     split at hst
     next GW=>
      cases hst;rw [hy] at hv;simp only [VR] at hv;obtain ⟨vf,vc,e1,e2,e3⟩:=hv;have hrun:(execOp a.eval o).run P w= .ok (.defer { target:= .fn (.func f) vc,args:=vf++args.map a.eval }) w:=by
       simp [execOp,hop,resolve,e1,Deferred.ofValue]
      refine eB.defer hrun ⟨undef,_,G,I,N,lN.other U U,rfl,Or.inr ⟨_,rfl,f,vc,rfl,GW⟩,zP.lz gY (ez.same h hk bQ E.entry (by simp [VR]))⟩
     .cases hst
    .cases hst
   .cases hc
  .cases he
 case clear sz zero y =>
  simp only [x9.D6,if_true,F9] at he;split at he
  next hst=>
   cases he;obtain ⟨w',g1,g2⟩:=Wo h hD hk bQ E.entry (by simpa [bD] using hc) hE hst;exact eB.value g1 (fin (lN.other U U) (zP.lz gY g2))
  .cases he
 case bad=>simp [x9.D6,o7] at he
 all_goals
  simp only [x9.D6,j4,if_false] at he;split at he
  next hp=>
   cases he;exact ae5 U (by simpa only [bD] using hc) hp rfl
  .cases he
end
end Go.A1
namespace Go.A1
variable [E5]
def qL (names:List Tmp):Option Tmp->Option Nat->Bool
 |none,K=>W
 |some d,K=> !names.contains d
 |some d,J s=>names[s]? ==J d
 |none,J _=>F
def qM (X:Cx)(i6:Nat->Bool):Option (Nat×Bool)->Option (Nat×Bool)->Bool
 |none,K=>W
 |some (g,b),J (g',b')=>g==g' &&b==b' &&i6 g&&(match (X.ops[g]?).bind (·.dst) with
  |some d=> !X.names.contains d
  |none=>F)
 |_,_=>F
def uM (X:Cx)(i6:Nat->Bool)(o:Oper)(i:p7):Bool :=
 bD X.P (X.ck i6) o i.op&&qL X.names o.dst i.dst&&qM X i6 o.guard i.guard
structure Stat (X:Cx)(nt:Nat):Prop where
 dup:∀(i j:Nat) d,(X.ops[i]?).bind (·.dst)=J d->(X.ops[j]?).bind (·.dst)=J d->X.names.contains d=F->i=j
 lt:∀(i:Nat) d,(X.ops[i]?).bind (·.dst)=J d->d<nt
 nod:∀(s s' :Nat) t,X.names[s]? =J t->X.names[s']? =J t->s=s'
def zN (X:Cx)(S:Nat->Prop):y7->Prop
 | .loc m=>S m/\∃t,(X.ops[m]?).bind (·.dst)=J t/\X.names.contains t=F
 | .slot s=>∃t,X.names[s]? =J t
 | .const _=>True
structure Rg (X:Cx)(l5:List p7)(E:Env)(nt:Nat)(S:Nat->Prop)(st:I9)(a:Act)(w:World)(G:Gh)(I:U3)(N:Nat->Prop):Prop where
 ri:RI X E.lim S st a w G I N
 pv:PV X l5 S st a w I
 cl:∀(j:Nat) ai y,S j->l5[j]? =J ai->ai.op=x9.load K y->zN X S y
 X8:O st.T=O X.names
 kT:O st.L=O l5
 cz:∀id,N id->id<O st.H
 Jw:E.entry<=O st.H
 size:a.tmps.size=nt
 idle:∀d,d∈a.defers->Lf X.P E.idle d
structure bB (E:Env)(H0:q6)(w0:World)(G0:Gh)(I0:U3)(N0:Nat->Prop)(H:q6)(w:World)(G:Gh)(I:U3)(N:Nat->Prop):Prop where
 ext:Ext G0 w0 G w
 gj:nr E.lim G0 w0 G w
 inj:∀id,id<E.entry->N0 id->I id=I0 id
 mono:∀id,id<E.entry->N0 id->N id
 old:∀id,id<E.entry->N id->N0 id
 hle:∀(id:Nat) (o' :y6),id<E.lim.base->H[id]? =J o' ->o'.L7<=id+1\/∃o:y6,H0[id]? =J o/\o'.L7<=o.L7
theorem bB.refl (E:Env)(H:q6)(w:World)(G:Gh)(I:U3)(N:Nat->Prop):bB E H w G I N H w G I N :=
 ⟨Ext.refl _ _,nr.refl _ _ _,λ_ _ _=>rfl,λ_ _ h=>h,λ_ _ h=>h,λ_ o _ h=>Or.inr ⟨o,h,l6 _⟩⟩
theorem bB.trans {E:Env}{H0 H1 H2:q6}{w0 w1 w2:World}{G0 G1 G2:Gh}{I0 I1 I2:U3}{N0 N1 N2:Nat->Prop}
  (h:bB E H0 w0 G0 I0 N0 H1 w1 G1 I1 N1) (k:bB E H1 w1 G1 I1 N1 H2 w2 G2 I2 N2):bB E H0 w0 G0 I0 N0 H2 w2 G2 I2 N2 where
 ext:=h.ext.trans k.ext
 gj:=h.gj.trans k.gj
 inj id hid hN:=(k.inj id hid (h.mono id hid hN)).trans (h.inj id hid hN)
 mono id hid hN:=k.mono id hid (h.mono id hid hN)
 old id hid hN:=h.old id hid (k.old id hid hN)
 hle id o' hb ho:=by
  rcases k.hle id o' hb ho with h1|⟨o1,h1,h2⟩
  .omega
  .rcases h.hle id o1 hb h1 with h3|⟨o,h3,h4⟩
   all_goals grind
section
variable {X:Cx} {l5:List p7} {E:Env} {nt:Nat} {S:Nat->Prop} {st st1 st2:I9} {a:Act} {w w' :World} {G G' :Gh} {I I' :U3} {N N' :Nat->Prop} {i6:Nat->Bool}
def Rg.cg6 (h:Rg X l5 E nt S st a w G I N){y:y7}(hy:zN X S y){id off:Nat}(hp:cA st y=J (id,off)):N id:=by
 unfold cA at hp;split at hp
 next m=>
  split at hp
  .obtain ⟨h1,t,h2,h3⟩:=hy
   have:=h.ri.L m h1 t h2 h3;simp_all [bZ,VR]
  .cases hp
 next s=>
  split at hp
  .cases hp
  .split at hp
   .obtain ⟨t,ht⟩:=hy
    have:=h.ri.T s t ht;simp_all [bZ,VR]
   .cases hp
 .cases hp
theorem V1 {A4:Option Nat}{k:Nat}{dst:Option Nat}(h:u9 A4 st1 k dst=J st2) :
  (dst=K/\st2=st1)\/∃s o9,dst=J s/\s<O st1.T/\st2={ (E7 st1 (.loc k)).2 with T:=st1.T.set s (E7 st1 (.loc k)).1,o9 }/\(o9= .slot s::st1.o9\/(o9=st1.o9/\st1.o9.any (Touch.V5 s)=W)):=by
 unfold u9 at h;split at h
 .simp_all [F2]<;>grind
 .cases dst with
  |none=>cases h;simp_all
  |some s =>
   grind [Y5,E7]
theorem EM {A4:Option Nat}{k:Nat}{dst:Option Nat}(h:u9 A4 st1 k dst=J st2)(p:Touch->Bool)(hp:st1.o9.any p=W):st2.o9.any p=W:=by
 rcases V1 h with ⟨_,rfl⟩|⟨s,o9,_,_,rfl,rfl|⟨rfl,_⟩⟩
 all_goals simp_all
theorem EK {A4:Option Nat}{k s:Nat}{dst:Option Nat}(h:u9 A4 st1 k dst=J st2)(hd:dst=J s):st2.o9.any (Touch.V5 s)=W:=by
 grind [V1,Touch.V5]
def si {A4:Option Nat}{k:Nat}{dst:Option Nat}(h:u9 A4 st1 k dst=J st2):st2.H=st1.H:=by
 grind [V1,zH]
def Ob {A4:Option Nat}{k:Nat}{dst:Option Nat}(h:u9 A4 st1 k dst=J st2):O st2.L=O st1.L:=by
 grind [V1,Fb]
def Oc {A4:Option Nat}{k:Nat}{dst:Option Nat}(h:u9 A4 st1 k dst=J st2):O st2.T=O st1.T:=by
 grind [V1]
theorem qf (st:I9)(k m:Nat)(h:m≠k):(E7 st (.loc k)).2.L[m]? =st.L[m]? :=by
 simp only [E7];split
 .simp only
  rw [D0 (λe=>h e.symm)]
 .rfl
 .rfl
theorem Oa {A4:Option Nat}{k:Nat}{dst:Option Nat}(h:u9 A4 st1 k dst=J st2){m:Nat}(hm:m≠k):st2.L[m]? =st1.L[m]? :=by
 grind [V1,qf]
def RM {A4:Option Nat}{k:Nat}{dst:Option Nat}(h:u9 A4 st1 k dst=J st2){y:y7}(hy:∀m,y= .loc m->m≠k){id off:Nat}(hp:cA st2 y=J (id,off)):cA st1 y=J (id,off):=by
 cases y with
 |const v=>exact hp
 |loc m =>
  grind [cA,Oa]
 |slot s' =>
  simp only [cA] at hp ⊢;split at hp
  .cases hp
  .have hn' :st2.o9.any (Touch.V5 s')=F:=M
   rw [if_neg (by grind [kU,EM])]
   grind [EK,V1,D0]
def Tr.ptr {k:Nat}(h:Tr N k st st1){y:y7}(hy:∀m,y= .loc m->m≠k){id off:Nat}(hp:cA st1 y=J (id,off)):cA st y=J (id,off):=by
 cases y with
 |const v=>exact hp
 |loc m =>
  simp [cA] at hp ⊢;split at hp
  next hl=>
   cases hp;rw [h.L m _ _ (hy m rfl) hl]
  .cases hp
 |slot s =>
  simp only [cA] at hp ⊢;split at hp
  .cases hp
  .rw [if_neg (by rw [kU h.o9 M];simp)]
   split at hp
   next hl=>
    cases hp;rw [h.T s _ _ hl]
   .cases hp
def cH {d:Tmp}{x:Value}(h:d<a.tmps.size):(a.put (J d) x).tmps.getD d undef=x:=by
 simp [Act.put,h]
def an {dst:Option Tmp}{t:Tmp}{x:Value}(h:dst≠J t):(a.put dst x).tmps.getD t undef=a.tmps.getD t undef:=by
 simp_all [Act.put]<;>grind
def size_put {dst:Option Tmp}{x:Value}:(a.put dst x).tmps.size=a.tmps.size:=by
 cases dst<;>simp [Act.put]
def oT {dst:Option Tmp}{x:Value}:(a.put dst x).defers=a.defers:=by
 cases dst<;>simp [Act.put]
theorem RI.defers {l:I7}{ds:List Deferred}(h:RI X l S st a w G I N):RI X l S st { a with defers:=ds } w G I N :=
 ⟨h.T,h.L,h.H,h.wf,h.X7⟩
def RI.after {l:I7}(hst:Stat X nt)(hsz:a.tmps.size=nt)(hT:O st1.T=O X.names){k:Nat}(hk:¬ S k)(bQ:k<O st1.L){o:Oper}(ho:X.ops[k]? =J o){dst:Option Nat}(hd:qL X.names o.dst dst=W)
  (h:RI X l S st1 a w G I N) {x:Value} (hv:VR G I N w (.loc k) (st1.L.getD k .any) x) {A4:Option Nat} (hts:u9 A4 st1 k dst=J st2) :
  ∃G',Ext G w G' w/\(∀id off,cR (.cell id off) G w G' w)/\(∀b id,G b= .obj id->G' b= .obj id)/\RI X l (λj=>S j\/j=k) st2 (a.put o.dst x) w G' I N:=by
 have Ag:(X.ops[k]?).bind (·.dst)=o.dst:=by rw [ho];rfl
 rcases V1 hts with ⟨rfl,rfl⟩|⟨s,dy,rfl,hs,rfl,_⟩
 .have Mg:∀d,o.dst=J d->X.names.contains d=F:=by
   intro d hd';rw [hd'] at hd;simpa [qL] using hd
  refine ⟨G,Ext.refl _ _,λ_ _ _ _ h=>⟨h,rfl⟩,λ_ _ h=>h,?_,?_,h.H,h.wf,h.X7⟩
  .intro s t ht
   rw [an ?_]
   .exact h.T s t ht
   .intro e
    have h1:=Mg t e;have h2:t∈X.names:=List.mem_of_getElem? ht;simp [h2] at h1
  .intro j hj d FQ hjn
   rcases hj with hj|rfl
   .rw [an ?_]
    .exact h.L j hj d FQ hjn
    .intro e
     have:=hst.dup j k d FQ (by rw [Ag];exact e) hjn;subst this;exact hk hj
   .rw [Ag] at FQ
    rw [FQ,cH (by rw [hsz];exact hst.lt j d (by rw [Ag];exact FQ))];exact hv
 .·cases hod:o.dst with
   |none=>rw [hod] at hd;simp [qL] at hd
   |some d =>
    rw [hod] at hd;have gY:X.names[s]? =J d:=by simpa [qL] using hd
    have hdn:X.names.contains d=W:=by
     have:d∈X.names:=List.mem_of_getElem? gY;simp [this]
    have bV8:d<a.tmps.size:=by rw [hsz];exact hst.lt k d (by rw [Ag];exact hod)
    have main:∀(v:c8) (st3:I9) (G' :Gh),lY (.loc k) G w G' ->VR G' I N w (.slot s) v x->st3.H=st1.H->(∀m,m≠k->st3.L[m]? =st1.L[m]?)->st3.T=st1.T.set s v ->
      RI X l (λj=>S j\/j=k) st3 (a.put (J d) x) w G' I N:=by
     intro v st3 G' hm hv' hH hL hT3;refine ⟨?_,?_,?_,hm.wf h.wf,?_⟩
     .intro s' t ht
      rw [hT3]
      by_cases he:s' =s
      .subst he
       rw [gY] at ht;cases ht;rw [R4 _ _ _ _ hs,cH bV8];exact hv'
      .rw [S9 _ _ _ _ _ (λe=>he e.symm),an (λe=>he (hst.nod s' s t ht (by rw [gY,<- Option.some_inj.1 e])))]
       exact VR.mono hm.ext (λ_ _=>rfl) (λ_ h=>h) _ _ _ (Or.inr (hm.keeps _ U)) (h.T s' t ht)
     .intro j hj d' FQ hjn
      have hjk:S j:=by
       rcases hj with hj|rfl
       .exact hj
       .rw [Ag,hod] at FQ;cases FQ;rw [hdn] at hjn;cases hjn
      have hne:j≠k:=by rintro rfl;exact hk hjk
      have e1:st3.L.getD j .any=st1.L.getD j .any:=by simp only [List.getD,hL j hne]
      rw [e1,an (λe=>by cases e;rw [hdn] at hjn;cases hjn)];exact VR.mono hm.ext (λ_ _=>rfl) (λ_ h=>h) _ _ _ (Or.inr (hm.keeps _ (by simp;exact hne))) (h.L j hjk d' FQ hjn)
     .rw [hH];exact h.H.MM hm U
     .rw [hH];exact h.X7
    by_cases hown:∃z n c,st1.L[k]? =J (.own z n c)
    .obtain ⟨z,n,c,aJ8⟩:=hown
     rw [bZ aJ8] at hv;obtain ⟨G',hm,hv'⟩:=kW (Av := .slot s) U hv;refine ⟨G',hm.ext,λid off=>hm.keeps _ U,hm.obj,?_⟩;have e1:(A1.E7 st1 (.loc k)).1= .own z n c:=by simp only [A1.E7,aJ8]
     exact main (.own z n c) _ G' hm hv' (zH _ _) (λm hm=>qf st1 k m hm) (by simp only [e1])
    .by_cases hnil:st1.L[k]? =J .P9
     .have e1:A1.E7 st1 (.loc k)=(.P9,st1):=by simp only [A1.E7,hnil]
      refine ⟨G,Ext.refl _ _,λ_ _ _ _ h=>⟨h,rfl⟩,λ_ _ h=>h,?_⟩;refine main .P9 _ G (lY.refl _ _ _) ?_ (zH _ _) (λm hm=>qf st1 k m hm) (by simp only [e1]);rw [bZ hnil] at hv;simpa only [VR] using hv
     .have e1:A1.E7 st1 (.loc k)=(K4 st1.T st1.L (.loc k),st1):=by
       simp only [A1.E7];split
       .rename_i z n c hj;exact absurd ⟨z,n,c,hj⟩ hown
       .rename_i hj;exact absurd hj hnil
       .rfl
      refine ⟨G,Ext.refl _ _,λ_ _ _ _ h=>⟨h,rfl⟩,λ_ _ h=>h,?_⟩;refine main (K4 st1.T st1.L (.loc k)) _ G (lY.refl _ _ _) ?_ (zH _ _) (λm hm=>qf st1 k m hm) (by simp only [e1]);simp only [K4];exact hv.K7
def PV.after (hst:Stat X nt)(hR:Rg X l5 E nt S st a w G I N){k:Nat}(hk:¬ S k){o:Oper}(ho:X.ops[k]? =J o){i:p7}(hi:l5[k]? =J i)(hd:qL X.names o.dst i.dst=W)
  (hcl:∀y,i.op= .load K y->zN X S y) (htr:Tr N k st st1) {A4:Option Nat} (hts:u9 A4 st1 k i.dst=J st2) {x:Value} {ds:List Deferred}
  (hko:∀id,N id->st1.o9.any (Touch.L5 id)=F->I' id=I id/\∀b,G b= .obj id->w'.heap[b]? =w.heap[b]?)
  (hf:st2.L[k]? =J (.tuple [])\/lN X st a w I i.op x):PV X l5 (λj=>S j\/j=k) st2 ({ a with defers:=ds }.put o.dst x) w' I' :=by
 have Ag:(X.ops[k]?).bind (·.dst)=o.dst:=by rw [ho];rfl
 have skp:∀j,j≠k->st2.L[j]? ≠J (.tuple [])->st.L[j]? ≠J (.tuple []):=by
  intro j hj h1 h2;rw [Oa hts hj] at h1;exact h1 (htr.skp j hj h2)
 have aZ4:∀p,st2.o9.any p=F->st.o9.any p=F/\st1.o9.any p=F:=by
  intro p hp;have h1:=kU (EM hts) hp;exact ⟨kU htr.o9 h1,h1⟩
 have ah8:∀(s:Nat) t,X.names[s]? =J t->st2.o9.any (Touch.V5 s)=F->o.dst≠J t:=by
  intro s t ht hh e;rw [e] at hd;cases hdi:i.dst with
  |none =>
   grind [List.mem_of_getElem?,qL]
  |some s' =>
   rw [hdi] at hd hts;have h1:X.names[s']? =J t:=by simp_all [qL]
   have:=hst.nod s s' t ht h1
   grind [EK]
 have Sz:∀(j:Nat) d,S j->(X.ops[j]?).bind (·.dst)=J d->X.names.contains d=F->o.dst≠J d:=by
  intro j d hj FQ hjn e;have:=hst.dup j k d FQ (by grind) hjn
  grind
 have Lz:∀y id off l0,zN X S y->cA st2 y=J (id,off)->st2.H[id]? =J (.cells l0)->off<O l0->st2.o9.any (Touch.dD id off)=F ->
   cA st y=J (id,off)/\st.o9.any (Touch.dD id off)=F/\(∃l,st.H[id]? =J (.cells l)/\off<O l)/\w'.cell? (ad (I' id).1 ((I' id).2+off))=w.cell? (ad (I id).1 ((I id).2+off)):=by
  intro y id off l0 hy hp hH hoff hh;have hym:∀m,y= .loc m->m≠k:=by
   rintro m rfl rfl;exact hk hy.1
  have hp1:=RM hts hym hp;have hp0:=htr.ptr hym hp1;have hN:=hR.cg6 hy hp0;have QF:st1.o9.any (Touch.L5 id)=F:=by
   cases he:st1.o9.any (Touch.L5 id) with
   |false=>rfl
   |true =>
    rw [List.any_eq_true] at he;obtain ⟨t,ht,hth⟩:=he;have:st1.o9.any (Touch.dD id off)=W:=by
     rw [List.any_eq_true];refine ⟨t,ht,?_⟩;cases t<;>simp only [Touch.L5,Touch.dD] at hth ⊢<;>first|exact hth|cases hth
    grind
  rw [si hts] at hH;obtain ⟨l,hl,hle⟩:=htr.H id l0 hN QF hH;have hO:=hR.ri.H id _ hl
  grind [OR,World.cell?]
 refine ⟨?_,?_⟩
 .intro j ai s t d hj hsk hai hop ht FQ hjn hh
  rw [an (ah8 s t ht hh)]
  rcases hj with hj|rfl
  .rw [an (Sz j d hj FQ hjn)]
   exact hR.pv.slot j ai s t d hj (skp j (by grind) hsk) hai hop ht FQ hjn (aZ4 _ hh).1
  .rw [hi] at hai;cases hai
   rw [Ag] at FQ;rw [FQ,cH (by simp only;rw [hR.size];exact hst.lt j d (by grind))]
   rcases hf with hf|hf
   .grind
   .exact hf.Q5 s t hop ht
 .intro j ai y id off d l0 hj hsk hai hop hp hH hoff hh FQ hjn
  rcases hj with hj|rfl
  .have hy:=hR.cl j ai y hj hai hop
   obtain ⟨h1,h2,⟨l,h3,h4⟩,h5⟩:=Lz y id off l0 hy hp hH hoff hh;rw [an (Sz j d hj FQ hjn),h5];exact hR.pv.cell j ai y id off d l hj (skp j (by grind) hsk) hai hop h1 h3 h4 h2 FQ hjn
  .rw [hi] at hai;cases hai
   have hy:=hcl y hop;obtain ⟨h1,h2,⟨l,h3,h4⟩,h5⟩:=Lz y id off l0 hy hp hH hoff hh;rw [Ag] at FQ;rw [FQ,cH (by simp only;rw [hR.size];exact hst.lt j d (by grind)),h5]
   rcases hf with hf|hf
   .grind
   .exact hf.load y id off hop h1
end
end Go.A1
namespace Go.A1
variable [E5]
section
variable {X:Cx} {l5:List p7} {E:Env} {nt:Nat} {S:Nat->Prop} {st st1 st2:I9} {a:Act} {w w' :World} {G G' :Gh} {I I' :U3} {N N' :Nat->Prop} {i6:Nat->Bool}
theorem xE (hR:Rg X l5 E nt S st a w G I N)(hD:∀j,i6 j=W->S j){o:Oper}{g:Option (Nat×Bool)}(hc:qM X i6 o.guard g=W){b:Bool}(hw:y8 st.L g=J b):Region.wanted o (yielded X.ops a.tmps)=b:=by
 unfold Region.wanted;cases hg:o.guard with
 |none =>
  grind [y8,qM]
 |some p =>
  obtain ⟨g0,want⟩:=p;rw [hg] at hc;cases g with
  |none=>simp [qM] at hc
  |some q =>
   obtain ⟨g1,cu5⟩:=q;simp only [qM,c7,beq_iff_eq] at hc;obtain ⟨⟨⟨rfl,rfl⟩,hDg⟩,Dt⟩:=hc;cases hd:(X.ops[g0]?).bind (·.dst) with
   |none=>simp_all
   |some d =>
    rw [hd] at Dt;simp only [p6] at Dt;have hv:=hR.ri.L g0 (hD g0 hDg) d hd Dt;have hy:yielded X.ops a.tmps g0=(match a.tmps[d]? with|some (.bool b)=>J b|_=>K):=by
     grind [yielded]
    simp [y8] at hw;split at hw
    .cases hw
     simp_all [VR,DR,bool,undef]<;>grind
    all_goals (simp_all [VR,bool]<;>grind)
structure bj7 (X:Cx)(l5:List p7)(E:Env)(nt:Nat)(S:Nat->Prop)(st:I9)(w:World)(G:Gh)(I:U3)(N:Nat->Prop)(k:Nat)(A4:Option Nat)(st2:I9)(a' :Act)(w' :World)(G' :Gh)(I' :U3)(N' :Nat->Prop):Prop where
 rg:Rg X l5 E nt (λj=>S j\/j=k) st2 a' w' G' I' N'
 since:bB E st.H w G I N st2.H w' G' I' N'
 len:O st.H<=O st2.H
 old:∀id,id<O st.H->N' id->N id\/A4=J id
theorem Na (hD:∀j,i6 j=W->S j){x:Operand}{y:y7}(hc:X.ck i6 x y=W):zN X S y:=by
 unfold Cx.ck at hc;split at hc
 .exact ⟨_,by simpa using hc⟩
 .simp only [c7,beq_iff_eq,p6] at hc
  exact ⟨hD _ hc.1.1,_,hc.1.2,hc.2⟩
 .trivial
 .trivial
 .trivial
 .cases hc
theorem MB (hD:∀j,i6 j=W->S j){o:Oper}{n:Option Nat}{y:y7}(hc:bD X.P (X.ck i6) o (.load n y)=W):zN X S y:=by
 simp [bD] at hc;obtain ⟨dst,gh,ty,pos,after,guard⟩:=o;cases gh<;>simp [G5] at hc
 grind [Na]
theorem Rg.after (hst:Stat X nt)(hR:Rg X l5 E nt S st a w G I N)(hD:∀j,i6 j=W->S j){k:Nat}(hk:¬ S k)(bQ:k<O st.L){o:Oper}(ho:X.ops[k]? =J o){i:p7}(hi:l5[k]? =J i)(hc:uM X i6 o i=W)
  {A4:Option Nat} (hne:∀i,A4=J i->E.entry<=i) (htr:Tr N k st st1) (hts:u9 A4 st1 k i.dst=J st2) {x:Value} {ds:List Deferred} (hds:ds=a.defers\/∃d,ds=d::a.defers/\Lf X.P E.idle d)
  (hf:st2.L[k]? =J (.tuple [])\/lN X st a w I i.op x) (hS:zP A4 X E.lim S E.entry st a w G I N st1 k x w' G' I' N') :
  ∃G'',bj7 X l5 E nt S st w G I N k A4 st2 ({ a with defers:=ds }.put o.dst x) w' G'' I' N' :=by
 simp [uM,c7] at hc;obtain ⟨⟨hc1,qn⟩,hc3⟩:=hc;have hm:=hS.mid;obtain ⟨G2,e1,e2,e3,e4⟩:=RI.after (l:=E.lim) (a:={ a with defers:=ds }) hst hR.size (by rw [htr.X8];exact hR.X8) hk (by rw [htr.kT];exact bQ) ho qn hm.ri.defers hm.val hts;have hpv:=PV.after (w' :=w') (I' :=I') (x:=x) (ds:=ds) hst hR hk ho hi qn (λy hy=>MB hD (by simp_all<;>omega)) htr hts (λid hN ht=>by
  obtain ⟨h1,h2⟩:=hm.ko id hN ht;simp_all) hf
 refine ⟨G2,⟨e4,hpv,?_,?_,?_,?_,?_,?_,?_⟩,⟨?_,?_,?_,?_,?_,?_⟩,?_,hS.old⟩
 .intro j ai y hj hai hop
  have lift:zN X S y->zN X (λj=>S j\/j=k) y:=by
   intro h;cases y with
   |loc m=>exact ⟨Or.inl h.1,h.2⟩
   |slot s=>exact h
   |const v=>trivial
  rcases hj with hj|rfl
  .exact lift (hR.cl j ai y hj hai hop)
  grind [MB]
 .rw [Oc hts,htr.X8];exact hR.X8
 .rw [Ob hts,htr.kT];exact hR.kT
 .intro id hid;rw [si hts];exact hS.cz id hid
 .rw [si hts];exact C9 hR.Jw hm.len
 .rw [size_put];exact hR.size
 .rw [oT]
  intro d hd
  rcases hds with rfl|⟨d',rfl,hid⟩
  .exact hR.idle d hd
  .simp [B6] at hd
   rcases hd with rfl|hd
   .exact hid
   .exact hR.idle d hd
 .exact hm.ext.trans e1
 .exact hm.gj.trans λid _=>⟨λb hb=>⟨e3 b id hb,rfl⟩,e2 id⟩
 .intro id hid hN;exact hm.inj id hid hN
 .intro id _ hN;exact hm.mono id hN
 .intro id hid hN
  rcases hS.old id (Nat.lt_of_lt_of_le hid hR.Jw) hN with h1|h1
  all_goals grind
 .intro id o' hb ho';rw [si hts] at ho';exact hm.hle id o' hb ho'
 .rw [si hts];exact hm.len
def AI (hst:Stat X nt)(SK:qF X.P E.cf E.prom)(ig:∀f args H lm r,E.cf f args H lm=J r->V2 X.P f=W)(hs:E.lim.strict<=E.lim.base)(hbe:E.lim.base<=E.entry)(hR:Rg X l5 E nt S st a w G I N)
  (hD:∀j,i6 j=W->S j) {k:Nat} (hk:¬ S k) {o:Oper} (ho:X.ops[k]? =J o) {i:p7} (hi:l5[k]? =J i) (hc:uM X i6 o i=W) {A4:Option Nat} (hid:i.op.B0=W->Ld E.lim st N A4) (hne:∀i,A4=J i->E.entry<=i/\i<O st.H)
  {rs:List Nat} (he:z6 E l5 A4 k i st=J (st2,rs)) (d5:Act->World->Prop) (Q:Exit->Act->World->Prop)
  (hK:∀a' w' G' I' N',bj7 X l5 E nt S st w G I N k A4 st2 a' w' G' I' N' ->d5 a' w'):wpOp X.P X.ops Q k d5 a w:=by
 have bQ:k<O st.L:=by rw [hR.kT];grind
 have wH :=hc;simp [uM,c7] at wH;obtain ⟨⟨hc1,qn⟩,hc3⟩:=wH;unfold wpOp;simp [ho];unfold z6 at he;split at he
 next hw=>
  rw [if_pos (xE hR hD hc3 hw)];split at he
  next st1 rs1 hW=>
   split at he
   next cj2 hts=>
    refine Or.inl ?_;have hrun:=NO (P:=X.P) SK ig rfl hR.ri hR.pv hR.X8 hR.cz (C9 hbe hR.Jw) hs hD hk bQ hc1 (A4:=A4) hid hW;refine hrun d5 Q ?_;rintro a' w' ⟨x,ds,G',I',N',hF,rfl,hds,hS⟩;have htr:Tr N k st st1:=Tr.E1 hR.cz (λi h=>(hne i h).2) (λha=>(hid ha).new) hW;obtain ⟨G'',hdone⟩:=Rg.after hst hR hD hk bQ ho hi hc (λi h=>(hne i h).1) htr hts hds (Or.inr hF) hS
    grind
   .cases he
  .cases he
 .rw [if_neg (by grind [xE])]
  split at he
  next cj2 hts=>
   cases he;have htr:Tr N k st (put st k (.tuple [])):=Tr.put _;have hS:zP A4 X E.lim S E.entry st a w G I N (put st k (.tuple [])) k undef w G I N :=
    zP.lz hR.cz (ez.same hR.ri hk bQ E.entry (by exact ⟨#[],rfl,by simp [L3]⟩))
   have hL:st2.L[k]? =J (.tuple []):=by
    grind [V1,put,E7]
   obtain ⟨G'',hdone⟩:=Rg.after hst hR hD hk bQ ho hi hc (λi h=>(hne i h).1) htr hts (Or.inl rfl) (Or.inl hL) hS;exact hK _ _ _ _ _ hdone
  .cases he
 .cases he
def oS (X:Cx):List p7->Nat->Bool
 |[],k=>X.ops.size==k
 |i::is,k=>(match X.ops[k]? with
  |some o=>uM X (λj=>decide (j<k)) o i
  |none=>F)&&oS X is (k+1)
structure Fin (X:Cx)(l5:List p7)(E:Env)(nt:Nat)(st0:I9)(w:World)(G:Gh)(I:U3)(N:Nat->Prop)(st2:I9)(a' :Act)(w' :World)(G' :Gh)(I' :U3)(N' :Nat->Prop):Prop where
 rg:Rg X l5 E nt (λj=>j<O l5) st2 a' w' G' I' N'
 since:bB E st0.H w G I N st2.H w' G' I' N'
def Rg.congr {S' :Nat->Prop}(h:Rg X l5 E nt S st a w G I N)(hS:∀j,S j↔S' j):Rg X l5 E nt S' st a w G I N:=by
 have:S=S' :=funext λj=>propext (hS j)
 simp_all
def Kk (hst:Stat X nt)(SK:qF X.P E.cf E.prom)(ig:∀f args H lm r,E.cf f args H lm=J r->V2 X.P f=W)(hs:E.lim.strict<=E.lim.base)(hbe:E.lim.base<=E.entry)(Q:Exit->Act->World->Prop) :
  ∀(is:List p7) (k:Nat),l5.drop k=is->k<=O l5->oS X is k=W->∀(st:I9) (a:Act) (w:World) (G:Gh) (I:U3) (N:Nat->Prop) (st2:I9),Rg X l5 E nt (λj=>j<k) st a w G I N->gK E l5 is k st=J st2 ->
   (∀a' w' G' I' N',Fin X l5 E nt st w G I N st2 a' w' G' I' N' ->Q .normal a' w')->wpOps X.P X.ops Q (List.range' k (O is)) a w:=by
 intro is
 induction is with
 |nil =>
  intro k hd hk _ st a w G I N st2 hR hrun hQ;cases hrun;have bQ:O l5=k:=by
   simp_all [List.length]<;>omega
  exact hQ _ _ _ _ _ ⟨M,bB.refl _ _ _ _ _ _⟩
 |cons i is ih =>
  intro k hd hk hc st a w G I N st2 hR hrun hQ;have hi:l5[k]? =J i:=by
   have:(l5.drop k)[0]? =J i:=by rw [hd];rfl
   grind
  have hd' :l5.drop (k+1)=is:=by
   have:=congrArg (List.drop 1) hd
   grind [List.drop_drop]
  simp [oS,c7] at hc;obtain ⟨hc1,qn⟩:=hc;simp [gK] at hrun;split at hrun
  next st1 rs hstep=>
   cases ho:X.ops[k]? with
   |none=>simp_all
   |some o =>
    rw [ho] at hc1;simp [p8];refine AI hst SK ig hs hbe hR (i6:=λj=>decide (j<k)) (λj hj=>M) (Nat.lt_irrefl k) ho hi hc1 (A4:=K) (λ_=>?_) (λi h=>by cases h) hstep _ _ ?_
    .exact ⟨(λhN=>by have:=hR.cz _ hN;grind [newId]),(λi h=>by cases h),by exact C9 hbe hR.Jw,by exact C9 hs (C9 hbe hR.Jw)⟩
    .intro a' w' G' I' N' hdone
     refine ih (k+1) hd' (y5 hi) qn st1 a' w' G' I' N' st2 (hdone.rg.congr λj=>V) hrun ?_;intro a'' w'' G'' I'' N'' uX;exact hQ _ _ _ _ _ ⟨uX.rg,hdone.since.trans uX.since⟩
  .cases hrun
end
end Go.A1
namespace Go.A1
variable [E5]
def y7.gb:y7->List Nat
 | .loc j=>[j]
 |_=>[]
def y7.slots:y7->List Nat
 | .slot s=>[s]
 |_=>[]
def x9.U5:x9->List y7
 | .Q5 x=>[x]
 | .pick c a b=>[c,a,b]
 | .alloc _=>[]
 | .box x=>[x]
 | .build _ parts=>parts.map (·.2.2)
 | .H6 _ _ _ parts _=>parts.map (·.2.2)
 | .load _ x=>[x]
 | .store _ a x=>[a,x]
 | .bG x=>[x]
 | .bin _ x y=>[x,y]
 | .un _ x=>[x]
 | .DS _ x=>[x]
 | .u7 _ x y=>[x,y]
 | .Gi _ _ x y=>[x,y]
 | .ql _ x=>[x]
 | .mO x=>[x]
 | .aJ _ x lo hi=>x::(lo.toList++hi.toList)
 | .off _ x=>[x]
 | .O4 _ x i=>[x,i]
 | .iE _ _ x i=>[x,i]
 | .K9 x i=>[x,i]
 | .extract x _=>[x]
 | .len x=>[x]
 | .X8 x=>[x]
 | .append _ _ _ x y=>[x,y]
 | .jJ _ xs=>xs
 | .clear _ _ x=>[x]
 | .bE _ first caps=>first++caps
 | .call _ xs=>xs
 | .bC x xs=>x::xs
 | .makeMap=>[]
 | .qz _=>[]
 | .own _ x=>[x]
 | .lookup _ _ _ m k=>[m,k]
 | .fA _ m k v=>[m,k,v]
 | .defer x=>[x]
 | .bad=>[]
def gN (l5:List p7)(i:p7):List Nat :=
 (i.op.U5.flatMap y7.gb)++(match i.guard with|some (g,_)=>[g]|none=>[]) ++
 (match i.op with
  | .append _ _ _ (.loc j) _=>(match l5[j]? with|some a=>a.op.U5.flatMap y7.gb|none=>[])
  | .own _ (.loc j)=>(match l5[j]? with|some a=>a.op.U5.flatMap y7.gb|none=>[])
  |_=>[])
def iq (i:p7):List Nat:=i.op.U5.flatMap y7.slots
theorem aW {α β:Type}{f g:α->β}{l:List α}(h:∀x,x∈l->f x=g x):l.map f=l.map g:=List.map_congr_left h
def mz {ρ ρ' :y7->c8}{ps:List (Nat×Nat×y7)}(h:∀x,x∈ps.map (·.2.2)->ρ' x=ρ x):(ps.map λ(o,s,x)=>(o,s,ρ' x))=ps.map λ(o,s,x)=>(o,s,ρ x):=by
 grind [List.map_congr_left]
def zT {ρ ρ' :y7->c8}{d:Nat}{o:Option y7}(h:∀x,x∈o.toList->ρ' x=ρ x):Y9 ρ' d o=Y9 ρ d o:=by
 simp_all [Y9]<;>grind
def pQ {ρ ρ' :y7->c8}{H:q6}{op:x9}(h:∀x,x∈op.U5->ρ' x=ρ x):o7 ρ' H op=o7 ρ H op:=by
 cases op<;>simp only [x9.U5] at h
 case build=>simp [o7,mz h]
 case H6 sz len zero parts ob=>cases ob<;>simp [o7,mz h]
 case jJ isMax xs=>grind [o7,aW]
 case bE f first caps =>
  simp_all [o7,aW]
 case aJ sz x lo hi =>
  have h2:∀d,Y9 ρ' d lo=Y9 ρ d lo:=λd=>zT λy hy=>h y M
  have h3:∀d,Y9 ρ' d hi=Y9 ρ d hi:=λd=>zT λy hy=>h y M
  simp_all [o7]
 case load n x=>cases n<;>simp [o7,h x U]
 case pick c a b=>simp_all [o7]
 case bin b x y=>simp_all [o7]
 case u7 b x y=>simp_all [o7]
 case Gi b ks x y=>simp_all [o7]
 case O4 s x y=>simp_all [o7]
 case iE n s x y=>simp_all [o7]
 case K9 x y=>simp_all [o7]
 case lookup kk z ok x y=>simp_all [o7]
 case bG x=>simp_all [o7]
 case un b x=>simp_all [o7]
 case DS b x=>simp_all [o7]
 case ql k x=>simp_all [o7]
 case mO x=>simp_all [o7]
 case off k x=>simp_all [o7]
 case extract x i=>simp_all [o7]
 case len x=>simp_all [o7]
 case X8 x=>simp_all [o7]
 all_goals rfl
def V8:Option y6->Option y6->Prop
 |some (.cells l),J (.cells l')=>l.map c8.K7=l'.map c8.K7
 |a,b=>a=b
theorem V8.refl (o:Option y6):V8 o o:=by
 simp_all [V8]<;>grind
def V8.symm {a b:Option y6}(h:V8 a b):V8 b a:=by
 simp_all [V8,absurd]<;>grind
theorem V8.trans {a b c:Option y6}(h:V8 a b)(k:V8 b c):V8 a c:=by
 simp_all [V8]<;>grind
theorem Si (v:c8):v.K7.K7=v.K7:=by cases v<;>rfl
def aN7 {H H' :q6}{id off n:Nat}(h:V8 H'[id]? H[id]?){vs:List c8}(hr:rd H id off n=J vs):∃vs',rd H' id off n=J vs' /\vs'.map c8.K7=vs.map c8.K7:=by
 unfold rd at hr ⊢;split at hr
 next l hl=>
  split at hr
  .cases hr
   rw [hl] at h;cases h' :H'[id]? with
   |none=>simp_all [V8]
   |some o =>
    rw [h'] at h;cases o with
    |cells l' =>
     have h:l'.map c8.K7=l.map c8.K7:=by grind [V8]
     have Zm:O l'=O l:=by simpa using congrArg List.length h
     simp_all
    |dead=>simp [V8] at h
    |map es=>simp [V8] at h
  .cases hr
 .cases hr
def Ni {ρ:y7->c8}{H H' :q6}{op:x9}{v:c8}{rs:List Nat}(h:o7 ρ H op=J (v,rs))(hr:∀id,id∈rs->V8 H'[id]? H[id]?):o7 ρ H' op=J (v,rs):=by
 cases op
 case load n x =>
  cases n with
  |none =>
   simp only [o7] at h ⊢;split at h
   next id off hp=>
    split at h
    next u hu=>
     cases h;obtain ⟨vs',h1,h2⟩:=aN7 (hr id U) hu;obtain ⟨u',rfl⟩:∃u',vs' =[u']:=by
      have:=congrArg List.length h2;simp at this;exact List.length_eq_one_iff.1 this
     simp at h2;simp only [h1,h2]
    .cases h
   .exact h
   .cases h
  |some n =>
   simp only [o7] at h ⊢;split at h
   next id off hp=>
    split at h
    next us hu=>
     cases h;obtain ⟨vs',h1,h2⟩:=aN7 (hr id U) hu;simp only [h1,h2]
    .cases h
   .exact h
   .cases h
 case lookup kk zero ok m k =>
  simp only [o7] at h ⊢;split at h
  next id key hp hq=>
   split at h
   next es hes=>
    split at h
    next hf hft=>
     cases h;have:=hr id U;rw [hes] at this;have h' :H'[id]? =J (.map es):=by
      cases h' :H'[id]? with
      |none=>rw [h'] at this;simp [V8] at this
      |some o=>rw [h'] at this;cases o<;>simp_all [V8]
     simp only [h',hf,hft]
    .cases h
   .cases h
  .exact h
  .cases h
 case H6 sz len zero parts ob=>cases ob<;>exact h
 all_goals exact h
structure Still (k:Nat)(dst A4:Option Nat)(d:List Touch)(st st' :I9):Prop where
 L:∀m,m≠k->(st'.L.getD m .any).K7=(st.L.getD m .any).K7
 Gb:∀m,m≠k->∀b,st'.L[m]? =J (c8.d (.bool b))↔st.L[m]? =J (c8.d (.bool b))
 Gt:∀m,m≠k->(st'.L[m]? =J (c8.tuple [])↔st.L[m]? =J (c8.tuple []))
 T:∀s,dst≠J s->(st'.T.getD s .any).K7=(st.T.getD s .any).K7
 o9:st'.o9=d++st.o9
 H:∀id:Nat,d.any (Touch.L5 id)=F->A4≠J id->V8 st'.H[id]? st.H[id]?
 QS:O st.H<=O st'.H
 kT:O st'.L=O st.L
 X8:O st'.T=O st.T
section
variable {k:Nat} {dst A4:Option Nat} {d d1 d2:List Touch} {st st1 st' :I9}
theorem Still.refl (k:Nat)(dst A4:Option Nat)(st:I9):Still k dst A4 [] st st :=
 ⟨λ_ _=>rfl,λ_ _ _=>Iff.rfl,λ_ _=>Iff.rfl,λ_ _=>rfl,rfl,λ_ _ _=>V8.refl _,l6 _,rfl,rfl⟩
theorem Still.trans (h:Still k dst A4 d1 st st1)(g:Still k dst A4 d2 st1 st'):Still k dst A4 (d2++d1) st st' where
 L m hm:=(g.L m hm).trans (h.L m hm)
 Gb m hm b:=(g.Gb m hm b).trans (h.Gb m hm b)
 Gt m hm:=(g.Gt m hm).trans (h.Gt m hm)
 T s hs:=(g.T s hs).trans (h.T s hs)
 o9:=by rw [g.o9,h.o9,D3]
 H id hd hn:=by
  simp only [List.any_append,J3] at hd;exact (g.H id hd.1 hn).trans (h.H id hd.2 hn)
 QS:=C9 h.QS g.QS
 kT:=g.kT.trans h.kT
 X8:=g.X8.trans h.X8
theorem Still.put (v:c8):Still k dst A4 [] st (put st k v) where
 L m hm:=by grind [A1.put,S9]
 Gb m hm b:=by grind [A1.put,D0]
 Gt m hm:=by grind [A1.put,D0]
 T _ _:=rfl
 o9:=rfl
 H _ _ _:=V8.refl _
 QS:=l6 _
 kT:=by simp [A1.put]
 X8:=rfl
def Still.D9 {j z n:Nat}{c:List Data}(hj:st.L[j]? =J (.own z n c)):Still k dst A4 [] st { st with L:=st.L.set j (.d (.slice n c)) } where
 L m _:=by
  by_cases e:j=m
  .subst e
   rw [R4 _ _ _ _ (y5 hj),bZ hj];rfl
  simp_all
 Gb m _ b:=by
  grind
 Gt m _:=by
  grind
 T _ _:=rfl
 o9:=rfl
 H _ _ _:=V8.refl _
 QS:=l6 _
 kT:=U
 X8:=rfl
theorem Still.E7 (y:y7):Still k dst A4 [] st (E7 st y).2:=by
 cases y with
 |loc j =>
  simp only [A1.E7];split
  next hj=>
   exact Still.D9 hj
  .exact Still.refl _ _ _ _
  .exact Still.refl _ _ _ _
 |slot s=>exact Still.refl _ _ _ _
 |const v=>exact Still.refl _ _ _ _
def Still.heap {H' :q6}(h2:∀id:Nat,d.any (Touch.L5 id)=F->A4≠J id->V8 H'[id]? st.H[id]?)(hl:O st.H<=O H'):Still k dst A4 d st { st with H:=H',o9:=d++st.o9 } :=
 ⟨λ_ _=>rfl,λ_ _ _=>Iff.rfl,λ_ _=>Iff.rfl,λ_ _=>rfl,rfl,h2,hl,rfl,rfl⟩
def Still.newObj {i:Nat}(o:y6):Still k dst (J i) [] st (N7 st (J i) o) :=
 ⟨λ_ _=>rfl,λ_ _ _=>Iff.rfl,λ_ _=>Iff.rfl,λ_ _=>rfl,rfl,λid _ hn=>by
  simp_all [N7,D0,V8.refl],(by simp [N7]),rfl,rfl⟩
theorem Still.Z3 {l:I7}{sz len:Nat}{cells:List Data}{op:x9}(h:Z3 l st sz op=J (len,cells,st')):∃d,Still k dst A4 d st st' :=by
 unfold A1.Z3 at h;split at h
 next s=>
  split at h
  .cases h
  .split at h
   next hs=>
    split at h
    .cases h
     refine ⟨[.slot s],λ_ _=>rfl,λ_ _ _=>Iff.rfl,λ_ _=>Iff.rfl,λs' _=>?_,rfl,λ_ _ _=>V8.refl _,l6 _,rfl,U⟩
     by_cases e:s=s'
     .subst e
      rw [R4 _ _ _ _ (y5 hs),bZ hs];rfl
     simp_all
    .cases h
   .cases h
 .split at h
  next id off ay1=>
   split at h
   .cases h
   .split at h
    next cs hcs=>
     split at h
     next hco=>
      split at h
      .cases h
       refine ⟨[.cell id off],Still.heap (λid' _ _=>?_) U⟩
       by_cases he:id=id'
       .subst he
        rw [N6 (y5 hcs),hcs];apply List.ext_getElem?;intro n;simp only [List.getElem?_map]
        by_cases e:off=n
        .subst e
         rw [N6 (y5 hco),hco];rfl
        simp_all
       simp_all [D0,V8.refl]
      .cases h
     .cases h
    .cases h
  .cases h
 .cases h
theorem Still.R8 {l:I7}{l5:List p7}{sz len:Nat}{cells:List Data}{y:y7}(h:R8 l l5 st sz y=J (len,cells,st')):∃d,Still k dst A4 d st st' :=by
 unfold A1.R8 at h;split at h
 .split at h
  .cases h;exact ⟨[],Still.refl _ _ _ _⟩
  .cases h
 .cases h
 .cases h
 .split at h
  next hj=>
   split at h
   .cases h
    exact ⟨[],Still.D9 hj⟩
   .cases h
  .split at h
   .exact Still.Z3 h
   .cases h
  .cases h
theorem Still.D5 {E:Env}{f:FuncId}{args:List c8}(h:D5 E k f args st=J st'):∃d,Still k dst K d st st' :=by
 unfold A1.D5 at h;split at h
 .split at h
  next v H1 _=>
   split at h
   next hlen=>
    cases h;refine ⟨[]++[.below (O H1)],Still.trans (Still.heap (λid hd _=>?_) hlen) (Still.put _)⟩
    grind [Touch.L5,List.getElem?_eq_none,V8.refl]
   .cases h
  .cases h
 .simp only at h
  generalize G6 st.H E.lim.strict 8 (C5 args)=n at h;generalize (args.headD .any).L7=m at h;split at h
  .split at h
   .split at h
    .split at h
     .cases h
      refine ⟨[]++[.below n],Still.trans (Still.heap (λid hd _=>?_) D) (Still.put _)⟩;simp_all [Touch.L5,y3,List.getElem?_drop,V8.refl]
     .cases h
    .cases h
   .split at h
    .split at h
     .cases h
      exact ⟨_,Still.put _⟩
     .cases h
    .cases h
   .split at h
    .split at h
     .cases h
      refine ⟨[]++[.below m],Still.trans (Still.heap (λid hd _=>?_) D) (Still.put _)⟩;simp_all [Touch.L5,y3,List.getElem?_drop,List.take,V8.refl]
     .cases h
    .cases h
  .cases h
def am3 {H H' :q6}{id off:Nat}{vs:List c8}(h:wr H id off vs=J H'):O H'=O H:=by
 grind [wr]
theorem Still.U2 {E:Env}{n:Nat}{a:c8}{x:y7}(h:U2 E k n st a x=J st'):∃d,Still k dst K d st st' :=by
 unfold A1.U2 at h;split at h
 next id off=>
  split at h
  .split at h
   .split at h
    next H' hw=>
     cases h;refine ⟨[]++([.obj id]++[]),Still.trans (Still.trans (Still.E7 x) (Still.heap (λid' hd _=>?_) (by rw [am3 hw];omega))) (Still.put _)⟩
     grind [xG,V8.refl,Touch.L5]
    .cases h
   .cases h
  .cases h
 .cases h
theorem Still.ah {E:Env}{sz:Nat}{zero:List c8}{a:c8}(h:ah E k sz zero st a=J st'):∃d,Still k dst K d st st' :=by
 unfold A1.ah at h;split at h
 next id z lo len=>
  split at h
  .split at h
   next H' hw=>
    cases h;refine ⟨[]++[.obj id],Still.trans (Still.heap (λid' hd _=>?_) (by rw [am3 hw];omega)) (Still.put _)⟩
    grind [xG,V8.refl,Touch.L5]
   .cases h
  .cases h
 .cases h
  exact ⟨_,Still.put _⟩
 .cases h
theorem Still.W9 {E:Env}{kk:KK}{m key v:c8}(h:W9 E k kk st m key v=J st'):∃d,Still k dst K d st st' :=by
 unfold A1.W9 at h;split at h
 next id kd _=>
  split at h
  .split at h
   .split at h
    .split at h
     .cases h
      refine ⟨[]++[.obj id],Still.trans (Still.heap (λid' hd _=>?_) U) (Still.put _)⟩;rw [D0]
      .exact V8.refl _
      .rintro rfl
       simp [Touch.L5] at hd
     .cases h
    .cases h
   .cases h
  .cases h
 .cases h
theorem Still.F9 {E:Env}{l5:List p7}{op:x9}(hk:I5 st op=F)(hn:A4.isSome=op.B0)(h:F9 E l5 A4 k st op=J st'):∃d,Still k dst A4 d st st' :=by
 cases op<;>simp only [A1.F9] at h<;>try (cases h;done)
 all_goals (simp only [x9.B0] at hn)
 case alloc zero =>
  obtain ⟨i,rfl⟩:=Option.isSome_iff_exists.1 hn;cases h;exact ⟨_,(Still.newObj _).trans (Still.put _)⟩
 case box x =>
  obtain ⟨i,rfl⟩:=Option.isSome_iff_exists.1 hn;split at h
  .cases h;exact ⟨_,(Still.newObj _).trans (Still.put _)⟩
  .cases h
 case qz x =>
  cases h;exact ⟨_,Still.put _⟩
 case own sz x =>
  split at h
  next ht=>
   obtain ⟨d,hd⟩:=Still.R8 (k:=k) (dst:=dst) (A4:=A4) ht;cases h;exact ⟨_,hd.trans (Still.put _)⟩
  .cases h
 case makeMap =>
  obtain ⟨i,rfl⟩:=Option.isSome_iff_exists.1 hn;cases h;exact ⟨_,(Still.newObj _).trans (Still.put _)⟩
 case H6 sz len zero parts ob =>
  cases ob
  .cases h
  .obtain ⟨i,rfl⟩:=Option.isSome_iff_exists.1 hn
   simp only at h;split at h
   .split at h
    .cases h;exact ⟨_,(Still.newObj _).trans (Still.put _)⟩
    .cases h
   .cases h
 case store n a x =>
  have:A4=K:=by simpa using hn
  subst this;exact Still.U2 h
 case append sz bytes ob x y =>
  split at h
  next hx=>
   simp [I5,hx] at hk
  .cases ob with
   |true =>
    obtain ⟨i,rfl⟩:=Option.isSome_iff_exists.1 hn;unfold A1.Q1 at h;simp only [if_true] at h;split at h
    .split at h
     .split at h
      .cases h;exact ⟨_,Still.put _⟩
      .cases h;exact ⟨_,(Still.newObj _).trans (Still.put _)⟩
     .cases h
    .cases h
   |false =>
    have:A4=K:=by simpa using hn
    subst this;unfold A1.Q1 at h;simp only [j4,if_false] at h;split at h
    .split at h
     .split at h
      next ht=>
       split at h
       .cases h
        obtain ⟨d,hd⟩:=Still.R8 (k:=k) (dst:=dst) (A4:=K) ht;exact ⟨_,hd.trans (Still.put _)⟩
       .cases h
      .cases h
     .cases h
    .cases h
 case clear sz zero x =>
  have:A4=K:=by simpa using hn
  subst this;exact Still.ah h
 case call f xs =>
  have:A4=K:=by simpa using hn
  subst this;exact Still.D5 h
 case bC x xs =>
  have:A4=K:=by simpa using hn
  subst this;split at h
  .exact Still.D5 h
  .cases h
 case fA =>
  have:A4=K:=by simpa using hn
  subst this;exact Still.W9 h
 case defer x =>
  split at h
  .split at h
   .cases h;exact ⟨_,Still.put _⟩
   .cases h
  .cases h
theorem Still.F2 {cb2 :Option Nat}(h:u9 cb2 st k dst=J st'):∃d,Still k dst A4 d st st' :=by
 rcases V1 h with ⟨_,rfl⟩|⟨s,o9,rfl,_,rfl,WK⟩
 .exact ⟨_,Still.refl _ _ _ _⟩
 .have hx:=Still.E7 (k:=k) (dst:=J s) (A4:=A4) (st:=st) (.loc k)
  have key:∀d,o9=d++st.o9->Still k (J s) A4 d st { (A1.E7 st (.loc k)).2 with T:=st.T.set s (A1.E7 st (.loc k)).1,o9 }:=by
   intro d hd;refine ⟨hx.L,hx.Gb,hx.Gt,λs' hs=>?_,hd,λid _ hn=>hx.H id rfl hn,hx.QS,hx.kT,U⟩;simp_all
  rcases WK with rfl|⟨rfl,_⟩
  .exact ⟨[.slot s],key _ rfl⟩
  .exact ⟨[],key _ rfl⟩
theorem Still.z6 {E:Env}{l5:List p7}{i:p7}{rs:List Nat}(hk:I5 st i.op=F)(hn:A4.isSome=i.op.B0)(h:z6 E l5 A4 k i st=J (st',rs)):∃d,Still k i.dst A4 d st st' :=by
 unfold A1.z6 at h;split at h
 .split at h
  next st1 rs1 hW=>
   split at h
   next st2 hts=>
    cases h;have h1:∃d,Still k i.dst A4 d st st1:=by
     unfold A1.E1 at hW;split at hW
     .split at hW
      next he=>
       cases hW;exact Still.F9 hk hn he
      .cases hW
     .split at hW
      .cases hW
       exact ⟨_,(Still.E7 _).trans (Still.put _)⟩
      .split at hW
       .cases hW
        exact ⟨_,Still.put _⟩
       .cases hW
    obtain ⟨d1,h1⟩:=h1;obtain ⟨d2,h2⟩:=Still.F2 (A4:=A4) hts;exact ⟨_,h1.trans h2⟩
   .cases h
  .cases h
 .split at h
  next hts=>
   cases h;obtain ⟨d2,h2⟩:=Still.F2 (A4:=A4) hts;exact ⟨_,(Still.put _).trans h2⟩
  .cases h
 .cases h
theorem Still.K4 (h:Still k dst A4 d st st'){x:y7}(hl:k∉x.gb)(ht:∀s,s∈x.slots->dst≠J s):K4 st'.T st'.L x=K4 st.T st.L x:=by
 cases x with
 |loc j =>
  exact h.L j (λe=>hl (by simp [y7.gb,e]))
 |slot s =>
  exact h.T s (ht s (by simp [y7.slots]))
 |const v=>rfl
def Still.wanted (h:Still k dst A4 d st st'){g:Option (Nat×Bool)}(hg:∀j b,g=J (j,b)->j≠k):y8 st'.L g=y8 st.L g:=by
 cases g with
 |none=>rfl
 |some p =>
  obtain ⟨j,want⟩:=p;have hj:=hg j want rfl;have h1:=h.Gb j hj;have h2:=h.Gt j hj
  grind [y8,absurd]
theorem Still.JH {E:Env}{i:p7}{rs:List Nat}(h:Still k dst A4 d st st'):(eO E i A4 st st' rs).JH=iI A4++d:=by
 simp only [eO,h.o9];simp
def Still.reads {E:Env}{i:p7}{rs:List Nat}(h:Still k dst A4 d st st'){ids:List Nat}(hh:J2 (eO E i A4 st st' rs).JH ids=F){id:Nat}(hid:id∈ids):V8 st'.H[id]? st.H[id]? :=by
 rw [h.JH] at hh;unfold J2 at hh;have hno:∀t,t∈(iI A4++d:List Touch)->t.L5 id=F:=by
  grind
 refine h.H id ?_ ?_
 all_goals grind [List.any_eq_false,iI,Touch.L5]
end
end Go.A1
namespace Go.A1
variable [E5]
section
variable {E:Env} {l5:List p7} {A4:Option Nat} {k q:Nat} {v:c8} {st st1 st2 st' :I9}
theorem tC {x:y7}(h:q∉x.gb):K4 (put st q v).T (put st q v).L x=K4 st.T st.L x:=by
 simp_all [K4,put,y7.gb]<;>grind
theorem put_comm (h:q≠k)(u:c8):put (put st q v) k u=put (put st k u) q v:=by
 simp_all [put,List.set_comm]
theorem pX {l:List c8}{q j:Nat}(h:q≠j)(v:c8):(l.set q v)[j]? =l[j]? :=D0 h
def Fc {x:y7}(h:q∉x.gb):E7 (put st q v) x=((E7 st x).1,put (E7 st x).2 q v):=by
 cases x with
 |loc j =>
  grind [y7.gb,E7,put,pX,K4,List.getD,List.set_comm]
 |slot s=>rfl
 |const c=>rfl
theorem jo (o:y6):N7 (put st q v) A4 o=put (N7 st A4 o) q v:=by cases A4<;>rfl
theorem nZ:newId (put st q v) A4=newId st A4:=rfl
def Hy {x:y7}(h:q∉x.gb):cA (put st q v) x=cA st x:=by
 simp_all [y7.gb,cA,put]<;>grind
def NW {l:I7}{sz:Nat}{op:x9}(h:q∉op.U5.flatMap y7.gb):Z3 l (put st q v) sz op=(Z3 l st sz op).map λp=>(p.1,p.2.1,put p.2.2 q v):=by
 unfold Z3;split
 .have e1:(put st q v).o9=st.o9:=rfl
  have e2:(put st q v).T=st.T:=rfl;simp [e1,e2];split
  .rfl
  .split
   .split
    all_goals rfl
   .rfl
 next x=>
  have hx:q∉x.gb:=λe=>h (by simp [x9.U5,e])
  rw [Hy hx];have e1:(put st q v).o9=st.o9:=rfl;have e2:(put st q v).H=st.H:=rfl;split
  .simp [e1,e2]
   split
   .rfl
   .split
    .split
     .split
      all_goals rfl
     .rfl
    .rfl
  .rfl
 .rfl
def AJ {l:I7}{sz:Nat}{x:y7}(h:q∉x.gb)(h2:∀j a,x= .loc j->l5[j]? =J a->q∉a.op.U5.flatMap y7.gb) :
  R8 l l5 (put st q v) sz x=(R8 l l5 st sz x).map λp=>(p.1,p.2.1,put p.2.2 q v):=by
 cases x with
 |const c =>
  unfold R8;cases c<;>first|rfl|skip
  simp_all
 |slot s=>rfl
 |loc j =>
  have hj:q≠j:=λe=>h (by simp [y7.gb,e])
  have e:(put st q v).L[j]? =st.L[j]? :=by simp_all [put,pX]
  simp [R8];rw [e];cases hl:st.L[j]? with
  |none=>rfl
  |some b =>
   cases b with
   |own z len cells =>
    grind [put,List.set_comm]
   |d x =>
    cases x with
    |slice n c =>
     cases ha:l5[j]? with
     |none=>rfl
     |some a=>simp_all [NW]
    |_=>rfl
   |_=>rfl
def zV (h:q≠k){f:FuncId}{args:List c8}:D5 E k f args (put st q v)=(D5 E k f args st).map λs=>put s q v:=by
 have e1:(put st q v).H=st.H:=rfl;have e2:(put st q v).o9=st.o9:=rfl;have key:∀(H:q6) (t:List Touch) (u:c8),put { put st q v with H:=H,o9:=t } k u=put (put { st with H:=H,o9:=t } k u) q v:=by
  simp_all [put,List.set_comm]
 unfold D5;simp [e1];split
 .split
  all_goals simp_all
 .split
  .split
   .split
    all_goals simp_all
   .split
    all_goals simp_all
   .split
    all_goals simp_all
  .rfl
def KG (h:q≠k){n:Nat}{a:c8}{x:y7}(hx:q∉x.gb):U2 E k n (put st q v) a x=(U2 E k n st a x).map λs=>put s q v:=by
 unfold U2;simp [Fc hx];cases a with
 |ptr id off =>
  simp only;split
  .split
   .have e:(put (E7 st x).2 q v).H=(E7 st x).2.H:=rfl
    split
    all_goals simp_all [put,O9,List.set_comm]
   .rfl
  .rfl
 |_=>rfl
def Jn (h:q≠k){sz:Nat}{zero:List c8}{a:c8}:ah E k sz zero (put st q v) a=(ah E k sz zero st a).map λs=>put s q v:=by
 have e:(put st q v).H=st.H:=rfl;unfold ah;split
 .split
  .split
   all_goals grind [put,List.set_comm]
  .rfl
 all_goals grind [put_comm]
def Gn (h:q≠k){kk:KK}{m key x:c8}:W9 E k kk (put st q v) m key x=(W9 E k kk st m key x).map λs=>put s q v:=by
 have e:(put st q v).H=st.H:=rfl;unfold W9;split
 .rw [e]
  split
  .split
   .split
    .split
     .simp only [put,O9]
      congr 2
      exact List.set_comm _ _ h
     .rfl
    .rfl
   .rfl
  .rfl
 .rfl
theorem QZ {l:I7}{op:x9}(h:q∉op.U5.flatMap y7.gb):rF l (put st q v) op=rF l st op:=by
 unfold rF;split
 .rfl
 next x=>
  have hx:q∉x.gb:=λe=>h (by simp [x9.U5,e])
  rw [Hy hx];rfl
 .rfl
def WN {l:I7}{x:y7}(h:q∉x.gb)(h2:∀j a,x= .loc j->l5[j]? =J a->q∉a.op.U5.flatMap y7.gb):isNil l l5 (put st q v) x=isNil l l5 st x:=by
 cases x with
 |const c=>cases c<;>rfl
 |slot s=>rfl
 |loc j =>
  grind [y7.gb,put,pX,isNil,QZ]
def FZ (h:q≠k){sz bytes:Nat}{ob:Bool}{x:y7}{y:c8}(hx:q∉x.gb)(h2:∀j a,x= .loc j->l5[j]? =J a->q∉a.op.U5.flatMap y7.gb) :
  Q1 E l5 A4 k sz bytes ob (put st q v) x y=(Q1 E l5 A4 k sz bytes ob st x y).map λs=>put s q v:=by
 have e:(put st q v).H=st.H:=rfl;unfold Q1;rw [e,WN hx h2,AJ hx h2];split
 .split
  .grind [put_comm,jo,nZ]
  .split
   all_goals grind [R8,put_comm]
 .rfl
theorem T1 {i:p7}{x:y7}(hx:x∈i.op.U5)(h:q∉gN l5 i):q∉x.gb:=by
 simp_all [gN,D3,K8,List.mem_flatMap]
def fe {i:p7}{g:Nat}{b:Bool}(hg:i.guard=J (g,b))(h:q∉gN l5 i):g≠q:=by
 grind [gN]
def Gp {i:p7}{sz bytes:Nat}{ob:Bool}{x y:y7}(hop:i.op= .append sz bytes ob x y)(h:q∉gN l5 i):∀j a,x= .loc j->l5[j]? =J a->q∉a.op.U5.flatMap y7.gb:=by
 grind [gN,List.mem_append_right]
def DM {i:p7}{sz:Nat}{x:y7}(hop:i.op= .own sz x)(h:q∉gN l5 i):∀j a,x= .loc j->l5[j]? =J a->q∉a.op.U5.flatMap y7.gb:=by
 rintro j a rfl ha hq;apply h;unfold gN;rw [hop];simp only [ha];exact List.mem_append_right _ hq
def Lb (st:I9)(op:x9)(v:c8):Prop:=∀sz Ys ob x y id z lo n,op= .append sz Ys ob x y->K4 st.T st.L x= .B8 id z lo n->v.kill id=v
def Lb.of {op:x9}(h:I5 st op=F):Lb st op v:=λ_ _ _ _ _ _ _ _ _ e hx=>by subst e;simp [I5,hx] at h
theorem Hj (id:Nat):∀(l:List c8) (j:Nat) (x:c8),K6 id (l.set j x)=(K6 id l).set j (x.kill id)
 |[],_,_=>rfl
 |a::l,0,x=>rfl
 |a::l,j+1,x=>by simp only [r9,K6,Hj id l j x]
def FY (h:q≠k){sz bytes id lo len:Nat}{y:c8}(hv:v.kill id=v):V6 E k sz bytes (put st q v) id lo len y=(V6 E k sz bytes st id lo len y).map λs=>put s q v:=by
 unfold V6;split
 .have e1:(put st q v).H=st.H:=rfl
  rw [e1];split
  .split
   .simp only [O9,Option.some.injEq]
    rw [<- put_comm h];simp only [put,Hj,hv]
   .rfl
  .rfl
 .rfl
def Wm {i:p7}(h:q≠k)(hu:q∉gN l5 i)(hk:Lb st i.op v):F9 E l5 A4 k (put st q v) i.op=(F9 E l5 A4 k st i.op).map λs=>put s q v:=by
 have hρ:∀x,x∈i.op.U5->K4 (put st q v).T (put st q v).L x=K4 st.T st.L x:=λx hx=>tC (T1 hx hu)
 cases hop:i.op<;>simp only [hop,x9.U5] at hρ<;>simp only [F9]<;>try rfl
 case alloc zero=>simp only [jo,nZ,put_comm h,O9]
 case box x =>
  rw [hρ x U];split
  .simp only [jo,nZ,put_comm h,O9]
  .rfl
 case makeMap=>simp only [jo,nZ,put_comm h,O9]
 case qz x=>simp only [put_comm h,O9]
 case H6 sz len zero parts ob =>
  cases ob
  .rfl
  .have e:(parts.map λx=>(x.1,x.2.1,K4 (put st q v).T (put st q v).L x.2.2))=(parts.map λx=>(x.1,x.2.1,K4 st.T st.L x.2.2)):=mz hρ
   simp only [e];cases cS zero (parts.map λx=>(x.1,x.2.1,K4 st.T st.L x.2.2)) with
   |none=>rfl
   |some cs =>
    simp only;split
    .simp only [jo,nZ,put_comm h,O9]
    .rfl
 case store n a x =>
  rw [hρ a U];exact KG h (T1 (by simp [hop,x9.U5]) hu)
 case append sz bytes ob x y =>
  rw [hρ x U,hρ y U];split
  next hx=>
   split
   .exact FY h (hk _ _ _ _ _ _ _ _ _ hop hx)
   .rfl
  .exact FZ h (T1 (by simp [hop,x9.U5]) hu) (Gp hop hu)
 case own sz x =>
  rw [AJ (T1 (by simp [hop,x9.U5]) hu) (DM hop hu)];cases R8 E.lim l5 st sz x with
  |none=>rfl
  |some p =>
   obtain ⟨len,cells,s1⟩:=p;simp only [O9,put_comm h]
 case clear sz zero x =>
  rw [hρ x U];exact Jn h
 case call f xs =>
  rw [aW hρ];exact zV h
 case bC x xs =>
  rw [hρ x U,aW (l:=xs) λy hy=>hρ y (by simp [hy])];split
  .exact zV h
  .rfl
 case fA kk m key x =>
  rw [hρ m U,hρ key U,hρ x U];exact Gn h
 case defer x =>
  rw [hρ x U];split
  .split
   .simp only [put_comm h,O9]
   .rfl
  .rfl
def EL (h:q≠k){dst:Option Nat}:u9 A4 (put st q v) k dst=(u9 A4 st k dst).map λs=>put s q v:=by
 have hx:q∉(y7.loc k).gb:=by grind [y7.gb]
 have e1:(put st q v).T=st.T:=rfl;have e2:(put st q v).o9=st.o9:=rfl;cases A4<;>cases dst<;>simp [u9,F2,Y5,Fc hx,e1]<;>first|rfl|(split<;>rfl)
def wanted_put {g:Option (Nat×Bool)}(h:∀j b,g=J (j,b)->j≠q):y8 (put st q v).L g=y8 st.L g:=by
 cases g with
 |none=>rfl
 |some p =>
  grind [y8,put,pX]
def kG {i:p7}(h:q≠k)(hu:q∉gN l5 i)(hk:Lb st i.op v):z6 E l5 A4 k i (put st q v)=(z6 E l5 A4 k i st).map λp=>(put p.1 q v,p.2):=by
 have hρ:∀x,x∈i.op.U5->K4 (put st q v).T (put st q v).L x=K4 st.T st.L x:=λx hx=>tC (T1 hx hu)
 have hW:E1 E l5 A4 k i.op (put st q v)=(E1 E l5 A4 k i.op st).map λp=>(put p.1 q v,p.2):=by
  unfold E1;split
  .rw [Wm h hu hk]
   cases F9 E l5 A4 k st i.op<;>rfl
  .cases hop:i.op with
   |Q5 x =>
    simp only [Fc (T1 (x:=x) (by simp [hop,x9.U5]) hu),put_comm h,O9]
   |_ =>
    simp only;rw [<- hop,pQ hρ];have e:(put st q v).H=st.H:=rfl;rw [e];cases hp:o7 (K4 st.T st.L) st.H i.op with
    |none=>rfl
    |some p=>simp only [put_comm h,O9]
 unfold z6;rw [wanted_put (λj b hg=>fe hg hu),hW];split
 .cases hp:E1 E l5 A4 k i.op st with
  |none=>rfl
  |some p =>
   obtain ⟨s1,rs⟩:=p;simp only [O9];rw [EL h];cases u9 A4 s1 k i.dst<;>rfl
 .rw [put_comm h,EL h]
  cases u9 A4 (put st k (.tuple [])) k i.dst<;>rfl
 .rfl
def bt (st:I9)(i:Nat)(o:y6):I9:={ st with H:=st.H.set i o }
theorem sg {H:q6}{n i:Nat}{o:y6}(h:n<=i):(H.set i o).take n=H.take n:=List.take_set_of_le h
theorem Hl (H:q6)(s:Nat):∀(j m:Nat),m<=G6 H s j m
 |0,m=>by simp [G6]
 |j+1,m=>by
  unfold G6;split
  .omega
  .simp only
   split
   .omega
   .exact C9 (Nat.le_max_left _ _) (Hl H s j _)
theorem kM (H:q6)(s i:Nat)(o:y6):∀(j n:Nat),G6 H s j n<=i->G6 (H.set i o) s j n=G6 H s j n
 |0,n,_=>rfl
 |j+1,n,h=>by
  have hn:n<=i:=C9 (Hl H s (j+1) n) h;unfold G6 at h ⊢;split
  .rfl
  next gY=>
   rw [if_neg gY] at h;simp [sg hn] at h ⊢;split
   .rfl
   next hm=>
    rw [if_neg hm] at h;exact kM H s i o j _ h
def zZ (H:q6)(s i:Nat)(o:y6)(j n:Nat)(h:G6 (H.set i o) s j n<=i):G6 H s j n=G6 (H.set i o) s j n:=by
 rcases A5 i (O H) with hi|hi
 .have:=kM (H.set i o) s i H[i] j n h
  simp_all
 .rw [List.set_eq_of_length_le hi]
def KH {H:q6}{s n i:Nat}{o:y6}(h:n<=i):E9 (H.set i o) s n=E9 H s n:=by
 grind [E9,sg]
def LO {H:q6}{n i:Nat}{o:y6}(h:n<=i):(H.set i o).drop n=(H.drop n).set (i - n) o:=by
 apply List.ext_getElem?
 grind
theorem Ct {A H:q6}{n i:Nat}{o:y6}(ha:O A=n)(h:n<=i):A++(H.set i o).drop n=(A++H.drop n).set i o:=by
 simp_all [LO,List.set_append,if_neg]
theorem we {f:FuncId}{args:List c8}{i:Nat}{o:y6}(hi:i<O st.H)(hs:(if E.prom f then O st.H else G6 st.H E.lim.strict 8 (C5 args))<=i) :
  D5 E k f args (bt st i o)=(D5 E k f args st).map λs=>bt s i o:=by
 have e1:(bt st i o).H=st.H.set i o:=rfl;have e2:(bt st i o).o9=st.o9:=rfl;unfold D5;simp [e1]
 by_cases hp:E.prom f=W
 .grind
 .rw [if_neg hp] at hs
  rw [if_neg hp,if_neg hp,kM _ _ _ _ _ _ hs];simp [sg hs,KH hs,List.length_set];split
  .split
   .split
    all_goals simp_all [O9,put,bt,Ct]
   .split
    .split
     all_goals rfl
    .rfl
   .split
    all_goals grind [put,bt,Ct,C9]
  .rfl
theorem AK {dst:Option Nat}{i:Nat}{o:y6}:u9 A4 (bt st i o) k dst=(u9 A4 st k dst).map λs=>bt s i o:=by
 have hx:E7 (bt st i o) (.loc k)=((E7 st (.loc k)).1,bt (E7 st (.loc k)).2 i o):=by
  grind [E7,bt]
 have e1:(bt st i o).T=st.T:=rfl;have e2:(bt st i o).o9=st.o9:=rfl;cases A4<;>cases dst<;>simp [u9,F2,Y5,hx,e1]<;>first|rfl|(split<;>rfl)
def uN (i:p7):Bool:=match i.op with
 | .call .. =>W
 | .bC .. =>W
 |_=>F
def RF {i:p7}{m:Nat}{o:y6}(hc:uN i=W)(hi:m<O st.H)(hs:M9 E st i.op<=m):z6 E l5 A4 k i (bt st m o)=(z6 E l5 A4 k i st).map λp=>(bt p.1 m o,p.2):=by
 have hW:E1 E l5 A4 k i.op (bt st m o)=(E1 E l5 A4 k i.op st).map λp=>(bt p.1 m o,p.2):=by
  unfold uN at hc;unfold E1;have e:∀x,K4 (bt st m o).T (bt st m o).L x=K4 st.T st.L x:=λ_=>rfl
  split at hc
  next f xs hop=>
   rw [hop] at hs ⊢;simp [x9.D6,F9];have:D5 E k f (xs.map (K4 (bt st m o).T (bt st m o).L)) (bt st m o)=(D5 E k f (xs.map (K4 st.T st.L)) st).map λs=>bt s m o:=we hi hs
   grind
  next x xs hop=>
   rw [hop] at hs ⊢;simp [x9.D6,F9];rw [e x];simp [M9] at hs;cases hx:K4 st.T st.L x with
   |func f first caps =>
    grind [D5,K4,bt,we]
   |_=>rfl
  .cases hc
 unfold z6;have e3:y8 (bt st m o).L i.guard=y8 st.L i.guard:=rfl;rw [e3,hW];split
 .grind [E1,AK,u9]
 .have e4:put (bt st m o) k (.tuple [])=bt (put st k (.tuple [])) m o:=rfl
  grind [AK,u9,put]
 .rfl
def Xt {i:p7}{m:Nat}{o:y6}(hs:M9 E (bt st m o) i.op<=m):M9 E st i.op=M9 E (bt st m o) i.op:=by
 have e:∀x,K4 (bt st m o).T (bt st m o).L x=K4 st.T st.L x:=λ_=>rfl
 have e1:(bt st m o).H=st.H.set m o:=rfl;cases hop:i.op<;>rw [hop] at hs<;>simp [M9] at hs ⊢
 case call f xs =>
  by_cases hp:E.prom f=W
  .simp_all
  .rw [if_neg hp] at hs ⊢
   rw [if_neg hp];exact zZ _ _ _ _ _ _ hs
 case bC x xs =>
  simp [e x,e1] at hs ⊢;split at hs
  next f first caps hx=>
   by_cases hp:E.prom f=W
   .simp_all
   .rw [if_neg hp] at hs ⊢
    rw [if_neg hp];exact zZ _ _ _ _ _ _ hs
  .rfl
def cO (s:I9)(dst:Option Nat)(u:c8):I9:=match dst with
 |none=>s
 |some t=>{ s with T:=s.T.set t u }
def Rq (s:I9)(dst:Option Nat)(u:c8):(cO s dst u).L=s.L:=by cases dst<;>rfl
def Rp (s:I9)(dst:Option Nat)(u:c8):(cO s dst u).H=s.H:=by cases dst<;>rfl
def ah4 (s:I9)(dst:Option Nat)(u:c8):(cO s dst u).o9=s.o9:=by cases dst<;>rfl
def HK (s:I9)(dst:Option Nat)(u:c8):O (cO s dst u).T=O s.T:=by cases dst<;>simp [cO]
theorem xb {s:I9}{dst:Option Nat}{u:c8}{x:y7}(h:∀t,dst=J t->t∉x.slots):K4 (cO s dst u).T (cO s dst u).L x=K4 s.T s.L x:=by
 simp_all [K4,cO,y7.slots]<;>grind
def wg {f:FuncId}{args:List c8}{dst:Option Nat}{u:c8}:D5 E k f args (cO st dst u)=(D5 E k f args st).map λs=>cO s dst u:=by
 cases dst with
 |none=>grind [cO,D5]
 |some t =>
  unfold D5;have e1:(cO st (J t) u).H=st.H:=rfl;have e2:(cO st (J t) u).o9=st.o9:=rfl;simp [e1];split
  .split
   .split<;>rfl
   .rfl
  .split
   .split
    .split
     .split<;>rfl
     .rfl
    .split
     .split<;>rfl
     .rfl
    .split
     .split<;>rfl
     .rfl
   .rfl
def AL {dst dst' :Option Nat}{u:c8}(h:∀s,dst=J s->dst' ≠J s):u9 A4 (cO st dst' u) k dst=(u9 A4 st k dst).map λs=>cO s dst' u:=by
 cases dst' with
 |none=>simp_all [cO,u9]
 |some t =>
  have hx:E7 (cO st (J t) u) (.loc k)=((E7 st (.loc k)).1,cO (E7 st (.loc k)).2 (J t) u):=by
   simp [E7,cO];cases st.L[k]? with
   |none=>rfl
   |some a=>cases a<;>rfl
  have e2:(cO st (J t) u).o9=st.o9:=rfl;have e3:O (cO st (J t) u).T=O st.T:=HK _ _ _;cases dst with
  |none=>cases A4<;>rfl
  |some s =>
   have hne:t≠s:=λe=>h s rfl (by rw [e])
   have e4:∀x,(cO st (J t) u).T.set s x=(st.T.set s x).set t u:=λx=>List.set_comm _ _ hne
   cases A4<;>simp [u9,F2,Y5,hx,e2,e3,e4]<;>split<;>rfl
def Gc (i:p7):Bool:= !i.op.D6&&(match i.op with
 | .Q5 _=>F
 |_=>W)
def EE {op:x9}(h:op.D6=F)(hm:∀y,op≠ .Q5 y):E1 E l5 A4 k op st=(o7 (K4 st.T st.L) st.H op).map λp=>(put st k p.1,p.2):=by
 unfold E1;rw [h];cases op<;>first
  |exact (hm _ rfl).elim
  |(simp only [j4,if_false]
    generalize o7 _ _ _=r;cases r<;>rfl)
def Sm {i:p7}(h:Gc i=W):i.op.D6=F/\∀y,i.op≠ .Q5 y:=by
 simp only [Gc,c7,p6] at h;refine ⟨h.1,λy e=>?_⟩;rw [e] at h;cases h.2
def nC {i:p7}(h:Gc i=W)(st:I9):I5 st i.op=F:=by
 have h1:=(Sm h).1;cases hop:i.op<;>rw [hop] at h1<;>first|rfl|(cases h1)
def ED {i:p7}{dst:Option Nat}{u:c8}(hc:uN i=W\/Gc i=W)(hu:∀t,dst=J t->t∉iq i)(hd:∀s,i.dst=J s->dst≠J s) :
  z6 E l5 A4 k i (cO st dst u)=(z6 E l5 A4 k i st).map λp=>(cO p.1 dst u,p.2):=by
 have hρ:∀x,x∈i.op.U5->K4 (cO st dst u).T (cO st dst u).L x=K4 st.T st.L x:=by
  intro x hx;refine xb λt ht hs=>hu t ht ?_
  unfold iq;exact List.mem_flatMap.2 ⟨x,hx,hs⟩
 have hW:E1 E l5 A4 k i.op (cO st dst u)=(E1 E l5 A4 k i.op st).map λp=>(cO p.1 dst u,p.2):=by
  rcases D4 (Gc i) with hd1|hd1
  .obtain ⟨h1,h2⟩:=Sm hd1
   rw [EE h1 h2,EE h1 h2,pQ hρ,Rp];have e4:∀v,put (cO st dst u) k v=cO (put st k v) dst u:=λv=>by cases dst<;>rfl
   cases o7 (K4 st.T st.L) st.H i.op with
   |none=>rfl
   |some p=>simp only [O9,e4]
  replace hc:uN i=W:=hc.resolve_right (by rw [hd1];simp)
  unfold uN at hc;unfold E1;split at hc
  next f xs hop=>
   rw [hop] at hρ ⊢;simp only [x9.D6,if_true,F9];rw [aW (l:=xs) λy hy=>hρ y (by simp [x9.U5,hy]),wg];cases D5 E k f (xs.map (K4 st.T st.L)) st<;>rfl
  next x xs hop=>
   rw [hop] at hρ ⊢;simp only [x9.D6,if_true,F9];rw [hρ x (by simp [x9.U5]),aW (l:=xs) λy hy=>hρ y (by simp [x9.U5,hy])];cases hx:K4 st.T st.L x with
   |func f first caps =>
    simp only;rw [wg];cases D5 E k f (first++xs.map (K4 st.T st.L)++caps) st<;>rfl
   |_=>rfl
  .cases hc
 unfold z6;rw [Rq,hW];split
 .cases hp:E1 E l5 A4 k i.op st with
  |none=>rfl
  |some p =>
   obtain ⟨s1,rs⟩:=p;simp only [O9];rw [AL hd];cases u9 A4 s1 k i.dst<;>rfl
 .have e4:put (cO st dst u) k (.tuple [])=cO (put st k (.tuple [])) dst u:=by cases dst<;>rfl
  rw [e4,AL hd];cases u9 A4 (put st k (.tuple [])) k i.dst<;>rfl
 .rfl
end
end Go.A1
namespace Go.A1
variable [E5]
def CQ (i:p7):Bool:= !i.op.D6&&i.dst.isNone&&(match i.op with
 | .Q5 (.loc _)=>F
 |_=>W)
def tK (i:p7):Bool:=match i.op with
 | .qz _=>W
 | .alloc _=>W
 | .box _=>W
 | .makeMap=>W
 | .H6 _ _ _ _ b=>b
 |_=>F
section
variable {E:Env} {l5:List p7} {A4:Option Nat} {k q:Nat} {st st1 st2 st' :I9}
def iA {i:p7}(h:CQ i=W)(st:I9):I5 st i.op=F:=by
 simp_all [CQ,x9.D6,I5]<;>grind
def fI {i:p7}(h:CQ i=W)(st:I9):M9 E st i.op=0:=by
 simp_all [CQ,x9.D6,M9]<;>grind
def cE {i:p7}(h:tK i=W)(st:I9):I5 st i.op=F:=by
 grind [tK,I5]
def fH {i:p7}(h:tK i=W)(st:I9):M9 E st i.op=0:=by
 grind [tK,M9]
def iw {i:p7}(h:tK i=W):i.op.B0=W:=by
 grind [tK,x9.B0]
def kD {i:p7}(h:uN i=W)(st:I9):I5 st i.op=F:=by
 grind [uN,I5]
theorem mC {s:I9}{dst:Option Nat}(h:dst.isNone=W):u9 A4 s k dst=J s:=by
 cases dst with
 |none=>cases A4<;>rfl
 |some _=>simp at h
def Jc {i:p7}(hP:CQ i=W){rs:List Nat}(h:z6 E l5 A4 k i st=J (st',rs)) :
  ∃v,st' =put st k v/\∀s2:I9,(∀x,x∈i.op.U5->K4 s2.T s2.L x=K4 st.T st.L x)->y8 s2.L i.guard=y8 st.L i.guard->(∀id,id∈rs->V8 s2.H[id]? st.H[id]?) ->
   z6 E l5 A4 k i s2=J (put s2 k v,rs):=by
 simp only [CQ,c7,p6] at hP;obtain ⟨⟨h1,h2⟩,h3⟩:=hP;unfold z6 at h;split at h
 next hw=>
  split at h
  next s1 rs1 hW=>
   rw [mC h2] at h;cases h;unfold E1 at hW;rw [h1] at hW;simp [j4,if_false] at hW;have other:∀{v:c8},(∀x,i.op≠ .Q5 x)->o7 (K4 st.T st.L) st.H i.op=J (v,rs)->st' =put st k v->∃v,st' =put st k v/\∀s2:I9,(∀x,x∈i.op.U5->K4 s2.T s2.L x=K4 st.T st.L x)->y8 s2.L i.guard=y8 st.L i.guard->(∀id,id∈rs->V8 s2.H[id]? st.H[id]?) ->
     z6 E l5 A4 k i s2=J (put s2 k v,rs):=by
    intro v hm hp e;refine ⟨v,e,λs2 hρ hwd hr=>?_⟩;unfold z6;rw [hwd,hw];have:E1 E l5 A4 k i.op s2=J (put s2 k v,rs):=by
     unfold E1;have hp2:o7 (K4 s2.T s2.L) s2.H i.op=J (v,rs):=Ni (by simp_all [pQ]) hr;simp_all
    simp_all [mC]
   split at hW
   next x hop=>
    cases hW;refine ⟨(E7 st x).1,?_,λs2 hρ hwd hr=>?_⟩
    .cases x with
     |loc j=>simp_all
     |slot s=>rfl
     |const c=>rfl
    .unfold z6
     have e1:E7 s2 x=((E7 st x).1,s2):=by
      simp_all [x9.U5,E7]<;>grind
     simp_all [E1,x9.D6,j4,if_false,mC]
   grind
  .cases h
 all_goals grind [mC,z6]
def qC (s:I9)(n:Nat):Option y6->I9
 |some o=>bt s n o
 |none=>s
inductive NF (k n:Nat) (dst:Option Nat):(I9->I9)->Prop where
 |mk (o:Option y6) (v u:c8):NF k n dst (λs=>cO (put (qC s n o) k v) dst u)
inductive NF0 (k:Nat) (dst:Option Nat):(I9->I9)->Prop where
 |mk (v u:c8):NF0 k dst (λs=>cO (put s k v) dst u)
structure Alike (i:p7)(st s2:I9):Prop where
 T:O s2.T=O st.T
 L:O s2.L=O st.L
 o9:∀s,i.dst=J s->s2.o9.any (Touch.V5 s)=W
def NZ {s:I9}{v:c8}{dst:Option Nat}(hv:∀z n c,v≠ .own z n c){s' :I9}(h:Y5 (put s k v) k dst=J s') :
  ∃u,s' =cO (put s k v) dst u/\∀s2:I9,O s2.T=O s.T->O s2.L=O s.L->(∀t,dst=J t->s2.o9.any (Touch.V5 t)=W)->Y5 (put s2 k v) k dst=J (cO (put s2 k v) dst u):=by
 cases dst with
 |none=>cases h;exact ⟨.any,rfl,λs2 _ _ _=>rfl⟩
 |some t =>
  have hx:∀s:I9,E7 (put s k v) (.loc k)=((if k<O s.L then v.Wk else .any),put s k v):=by
   simp_all [E7,put,K4,List.getD,c8.K7,c8.Wk,absurd]<;>grind
  simp only [Y5,hx] at h;split at h
  next hc=>
   simp [c7,decide_eq_true_eq] at hc;cases h;refine ⟨_,rfl,λs2 h1 h2 h3=>?_⟩;simp only [Y5,hx];have:(decide (t<O (put s2 k v).T)&&(put s2 k v).o9.any (Touch.V5 t))=W:=by
    simp_all [c7,decide_eq_true_eq,put]
   rw [if_pos this,h2];rfl
  .cases h
def Kn (s:I9)(n:Nat)(o:Option y6):(qC s n o).T=s.T:=by cases o<;>rfl
def El (s:I9)(n:Nat)(o:Option y6):(qC s n o).L=s.L:=by cases o<;>rfl
def NA (s:I9)(n:Nat)(o:Option y6):(qC s n o).o9=s.o9:=by cases o<;>rfl
def Jb {i:p7}{n:Nat}(hN:tK i=W){rs:List Nat}(h:z6 E l5 (J n) k i st=J (st',rs)) :
  rs=[]/\∃f,NF k n i.dst f/\(i.op.makes=F->NF0 k i.dst f)/\st' =f st/\∀s2:I9,(∀x,x∈i.op.U5->K4 s2.T s2.L x=K4 st.T st.L x)->y8 s2.L i.guard=y8 st.L i.guard->Alike i st s2->z6 E l5 (J n) k i s2=J (f s2,[]):=by
 unfold tK at hN;have h3:=hN;have cE1:i.op.D6=W:=by
  grind [x9.D6]
 have slot:∀(o:Option y6) (v:c8),(i.op.makes=F->o=K)->(∀z n c,v≠ .own z n c)->(∀s2:I9,(∀x,x∈i.op.U5->K4 s2.T s2.L x=K4 st.T st.L x)->y8 s2.L i.guard=y8 st.L i.guard->z6 E l5 (J n) k i s2=(Y5 (put (qC s2 n o) k v) k i.dst).map λs=>(s,[])) ->
   rs=[]/\∃f,NF k n i.dst f/\(i.op.makes=F->NF0 k i.dst f)/\st' =f st/\∀s2:I9,(∀x,x∈i.op.U5->K4 s2.T s2.L x=K4 st.T st.L x)->y8 s2.L i.guard=y8 st.L i.guard->Alike i st s2->z6 E l5 (J n) k i s2=J (f s2,[]):=by
  intro o v ho hv hs;rw [hs st (λ_ _=>rfl) rfl] at h;cases ht:Y5 (put (qC st n o) k v) k i.dst with
  |none=>simp_all
  |some s' =>
   rw [ht] at h;obtain ⟨rfl,rfl⟩:=h;obtain ⟨u,h4,h5⟩:=NZ hv ht;refine ⟨rfl,_,NF.mk o v u,λhm=>by rw [ho hm];exact NF0.mk v u,h4,λs2 hρ hw ha=>?_⟩;rw [hs s2 hρ hw,h5 (qC s2 n o) (by rw [Kn,Kn];exact ha.T) (by rw [El,El];exact ha.L) (λt ht=>by rw [NA];exact ha.o9 t ht)];rfl
 obtain ⟨wd,hw⟩:∃wd,y8 st.L i.guard=wd:=⟨_,rfl⟩;cases wd with
 |none=>simp_all [z6]
 |some b =>
  cases b with
  |false =>
   refine slot K (.tuple []) (λ_=>rfl) U λs2 hρ hwd=>?_
   unfold z6
   grind [u9,qC,Y5,put]
  |true =>
   by_cases hcn:∃x,i.op= .qz x
   .obtain ⟨x,hx⟩:=hcn
    refine slot K (.d x) (λ_=>rfl) U λs2 hρ hwd=>?_
    grind [z6,E1,x9.D6,F9,u9,qC,Y5,put]
   have hmk:i.op.makes=W:=by
    cases hop:i.op<;>rw [hop] at h3<;>first|exact h3|simp_all|simp_all|rfl
   have key:∀(o:y6) (v:c8),(∀z n c,v≠ .own z n c)->(∀s2:I9,(∀x,x∈i.op.U5->K4 s2.T s2.L x=K4 st.T st.L x)->F9 E l5 (J n) k s2 i.op=J (put (bt s2 n o) k v)) ->
     rs=[]/\∃f,NF k n i.dst f/\(i.op.makes=F->NF0 k i.dst f)/\st' =f st/\∀s2:I9,(∀x,x∈i.op.U5->K4 s2.T s2.L x=K4 st.T st.L x)->y8 s2.L i.guard=y8 st.L i.guard->Alike i st s2->z6 E l5 (J n) k i s2=J (f s2,[]):=by
    intro o v hv h5;refine slot (J o) v (λh=>M) hv λs2 hρ hwd=>?_
    unfold z6
    grind [E1,put,bt,u9,qC,Y5]
   obtain ⟨op,hop⟩:∃op,i.op=op:=⟨_,rfl⟩;have he:∃s1,F9 E l5 (J n) k st i.op=J s1:=by
    grind [z6,E1]
   obtain ⟨s1,he⟩:=he;have bV4 :∀x,op≠ .qz x:=λx e=>hcn ⟨x,hop.trans e⟩
   cases op<;>(try (exact absurd rfl (bV4 _)))<;>rw [hop] at h3<;>simp at h3<;>(try (cases h3;done))<;>rw [hop] at he<;>simp only [F9] at he
   next zero=>
    refine key (.cells zero) (.ptr n 0) U (λs2 _=>?_);rw [hop];rfl
   next x=>
    split at he
    next l hl=>
     refine key (.cells l) (.ptr n 0) U (λs2 hρ=>?_);rw [hop];simp only [F9];rw [hρ x (by simp [hop,x9.U5]),hl];rfl
    .cases he
   next sz len zero parts ob=>
    subst h3;simp only at he;split at he
    next cs hcs=>
     split at he
     next hl=>
      refine key (.cells cs) (.B8 n sz 0 len) U (λs2 hρ=>?_);rw [hop];simp only [F9];have e:(parts.map λx=>(x.1,x.2.1,K4 s2.T s2.L x.2.2))=(parts.map λx=>(x.1,x.2.1,K4 st.T st.L x.2.2)):=mz (λx hx=>hρ x (by grind [x9.U5]));have yP :cS zero (parts.map λx=>(x.1,x.2.1,K4 st.T st.L x.2.2))=J cs:=hcs;simp only [e,yP,if_pos hl];rfl
     .cases he
    .cases he
   .refine key (.map []) (.map n) U (λs2 _=>?_)
    rw [hop];rfl
end
end Go.A1
namespace Go.A1
variable [E5]
def av1 (i:p7):Bool:=match i.op with
 | .qz _=>W
 |_=>F
def yD {i:p7}(h:av1 i=W):tK i=W/\i.op.makes=F:=by
 unfold av1 at h;unfold tK;cases hop:i.op<;>rw [hop] at h<;>first|exact ⟨rfl,rfl⟩|(cases h)
def JZ (l5:List p7)(j:Nat)(a:p7)(i:Nat)(b:p7):Bool :=
 !(gN l5 b).contains j&& !(gN l5 a).contains i &&
 (match b.dst with|some s=> !(iq a).contains s&&a.dst != J s|none=>W)&&(match a.dst with|some s=> !(iq b).contains s|none=>W) &&
 ((CQ a&&(CQ b||a.cB.contains i))||(CQ b&&b.cB.contains j)||(tK a&&tK b)||(tK a&&uN b&&a.cB.contains i)||(uN a&&tK b&&b.cB.contains j)||(av1 a&&Gc b)||(Gc a&&av1 b))
def Sa (E:Env)(l5:List p7)(X9:Nat->Option Nat)(lg:Nat->lQ)(k:Nat)(st st' :I9):Prop :=
 ∃i,l5[k]? =J i/\lD E l5 (X9 k) k i st=J (st',lg k)
structure Wd (l5:List p7)(X9:Nat->Option Nat):Prop where
 alloc:∀(k:Nat) i,l5[k]? =J i->(X9 k).isSome=i.op.B0
 inj:∀j k n,X9 j=J n->X9 k=J n->j=k
def RZ (l5:List p7)(lg:Nat->lQ):Prop :=
 ∀(k:Nat) i e,l5[k]? =J i->e∈i.cB->J2 (lg e).JH (lg k).reads=F/\(i.op.makes=W->(lg e).Km<=(lg k).id)
section
variable {E:Env} {l5:List p7} {A4:Option Nat} {k q:Nat} {v:c8} {st st1 st2 st' :I9}
def cI {i:p7}{l:lQ}:lD E l5 A4 k i st=J (st',l)↔(I5 st i.op&&l5.any λa=>a.cB.contains k&& !calm st i.op a)=F/\∃rs,z6 E l5 A4 k i st=J (st',rs)/\l=eO E i A4 st st' rs:=by
 grind [lD]
def eS {i:p7}{l:lQ}(h:I5 st i.op=F/\∃rs,z6 E l5 A4 k i st=J (st',rs)/\l=eO E i A4 st st' rs):lD E l5 A4 k i st=J (st',l) :=
 cI.2 ⟨by rw [h.1];rfl,h.2⟩
def Th {j:Nat}{i b:p7}{q:Nat}(h:(I5 st i.op&&l5.any λa=>a.cB.contains j&& !calm st i.op a)=F)(hk:I5 st i.op=W)(hb:l5[q]? =J b)(hu:j∈b.cB):calm st i.op b=W:=by
 grind
def Lv {op:x9}{a:p7}(h:calm st op a=W):∃sz Ys ob x y s id z lo n j o,op= .append sz Ys ob x y/\a.op= .Q5 (.slot s)/\a.dst=K/\a.guard=K/\K4 st.T st.L x= .B8 id z lo n/\st.T[s]? =J (.ptr j o)/\j≠id:=by
 unfold calm at h;split at h
 next sz Ys ob x y s ho=>
  simp [c7,Option.isNone_iff_eq_none] at h;obtain ⟨⟨h1,h2⟩,h3⟩:=h;split at h3
  next id z lo n j o h4 h5=>
   exact ⟨_,_,_,_,_,_,_,_,_,_,_,_,rfl,ho,h1,h2,h4,h5,λe=>M⟩
  .cases h3
 .cases h
def CH {s2:I9}{op:x9}{a:p7}(h:∀x,x∈op.U5->K4 s2.T s2.L x=K4 st.T st.L x)(hT:s2.T=st.T):calm s2 op a=calm st op a:=by
 unfold calm
 grind [x9.U5]
def Lw {sz Ys :Nat}{ob:Bool}{x y:y7}{id z lo n j o:Nat}(h:K4 st.T st.L x= .B8 id z lo n)(hj:j≠id):Lb st (.append sz Ys ob x y) (.ptr j o):=λ_ _ _ x' _ id' _ _ _ e hx=>by
 simp_all [c8.kill]
def wR {a:p7}{s j o:Nat}(h1:a.op= .Q5 (.slot s))(h2:a.dst=K)(h3:a.guard=K)(h:st.T[s]? =J (.ptr j o)):z6 E l5 A4 k a st=J (put st k (.ptr j o),[]):=by
 have e:(E7 st (.slot s))=(.ptr j o,st):=by simp [E7,K4,h,c8.K7]
 simp [z6,h3,E1,h1,e,h2];cases A4<;>rfl
def Lm {i:p7}{sz Ys :Nat}{ob:Bool}{x y:y7}{id z lo n s j o:Nat}{rs:List Nat}(hop:i.op= .append sz Ys ob x y)(hx:K4 st.T st.L x= .B8 id z lo n)(h:z6 E l5 A4 k i st=J (st',rs))(hs:i.dst≠J s)(hT:st.T[s]? =J (.ptr j o))(hj:j≠id):st'.T[s]? =J (.ptr j o):=by
 have slot:∀s1 s2:I9,u9 A4 s1 k i.dst=J s2->s1.T[s]? =J (.ptr j o)->s2.T[s]? =J (.ptr j o):=by
  intro s1 s2 h h1;cases hd:i.dst with
  |none=>rw [hd] at h;cases A4<;>cases h<;>exact h1
  |some t =>
   cases A4<;>simp only [u9,F2,Y5] at h<;>split at h<;>first|grind|grind
 unfold z6 at h;split at h
 .split at h
  next s1 rs1 h1=>
   split at h
   next s2 h2=>
    cases h;refine slot _ _ h2 ?_;simp [E1,hop,x9.D6,if_true,F9,hx] at h1;split at h1
    next s3 h3=>
     cases h1;split at h3
     .unfold V6 at h3
      split at h3
      .split at h3
       .split at h3
        .cases h3
         have e:∀(l:List c8) (s:Nat),l[s]? =J (.ptr j o)->(K6 id l)[s]? =J (.ptr j o):=by
          intro l
          induction l with
          |nil=>simp_all
          |cons a l ih =>
           grind [K6,c8.kill]
         exact e _ _ hT
        .cases h3
       .cases h3
      .cases h3
     .cases h3
    .cases h1
   .cases h
  .cases h
 .split at h
  next s2 h2=>
   cases h;exact slot _ _ h2 hT
  .cases h
 .cases h
def iZ {s2:I9}{op:x9}(h:∀x,x∈op.U5->K4 s2.T s2.L x=K4 st.T st.L x):I5 s2 op=I5 st op:=by
 cases op<;>simp [I5];simp_all [x9.U5]
def iJ {s2:I9}{op:x9}(h:∀x,x∈op.U5->K4 s2.T s2.L x=K4 st.T st.L x)(hH:s2.H=st.H):M9 E s2 op=M9 E st op:=by
 cases op<;>simp [M9,x9.U5] at h ⊢
 all_goals simp_all [call,aW]
def X4 {i:p7}(hu:q∉gN l5 i):∀x,x∈i.op.U5->K4 (put st q v).T (put st q v).L x=K4 st.T st.L x :=
 λ_ hx=>tC (T1 hx hu)
theorem NF.K4 {n:Nat}{dst:Option Nat}{f:I9->I9}(hf:NF k n dst f){x:y7}(h:k∉x.gb)(ht:∀t,dst=J t->t∉x.slots)(s:I9):K4 (f s).T (f s).L x=K4 s.T s.L x:=by
 cases hf with
 |mk o v u =>
  simp_all [xb,tC,Kn,El]
def NF.wanted {n:Nat}{dst:Option Nat}{f:I9->I9}(hf:NF k n dst f){g:Option (Nat×Bool)}(h:∀j b,g=J (j,b)->j≠k)(s:I9):y8 (f s).L g=y8 s.L g:=by
 cases hf with
 |mk o v u =>
  simp_all [Rq,wanted_put,El]
theorem NF.o9 {n:Nat}{dst:Option Nat}{f:I9->I9}(hf:NF k n dst f)(s:I9):(f s).o9=s.o9:=by
 cases hf with
 |mk o v u =>
  rw [ah4];exact NA _ _ _
def NF.X8 {n:Nat}{dst:Option Nat}{f:I9->I9}(hf:NF k n dst f)(s:I9):O (f s).T=O s.T:=by
 cases hf with
 |mk o v u =>
  rw [HK];show O (qC s n o).T=_
  rw [Kn]
def NF.kT {n:Nat}{dst:Option Nat}{f:I9->I9}(hf:NF k n dst f)(s:I9):O (f s).L=O s.L:=by
 cases hf with
 |mk o v u =>
  simp_all [Rq,put,El]
def NF.comm {n m j i:Nat}{d e:Option Nat}{f g:I9->I9}(hf:NF j n d f)(hg:NF i m e g)(hji:j≠i)(hnm:n≠m)(hde:∀s,e=J s->d≠J s)(s:I9):f (g s)=g (f s):=by
 cases hf with
 |mk o v u =>
  cases hg with
  |mk o' v' u' =>
   have uY:∀(l:List y6) (a b:y6),(l.set m b).set n a=(l.set n a).set m b:=λl a b=>List.set_comm _ _ (λe=>hnm e.symm)
   have hL:∀(l:List c8) (a b:c8),(l.set i b).set j a=(l.set j a).set i b:=λl a b=>List.set_comm _ _ (λe=>hji e.symm)
   cases o<;>cases o' <;>cases d<;>cases e<;>simp [cO,qC,bt,put,hL]
   all_goals grind [set,List.set_comm]
def Ro {i:p7}{m:Nat}{o:y6}(hs:M9 E st i.op<=m):M9 E (bt st m o) i.op=M9 E st i.op:=by
 have e:∀x,K4 (bt st m o).T (bt st m o).L x=K4 st.T st.L x:=λ_=>rfl
 have e1:(bt st m o).H=st.H.set m o:=rfl;have e2:∀xs,List.map (K4 (bt st m o).T (bt st m o).L) xs=List.map (K4 st.T st.L) xs:=λ_=>rfl
 cases hop:i.op<;>rw [hop] at hs<;>simp [M9] at hs ⊢
 case call f xs =>
  simp [e2]
  by_cases hp:E.prom f=W
  all_goals simp_all [if_pos,if_neg,kM]
 case bC x xs =>
  simp [e x,e2];split at hs
  next f first caps hx=>
   by_cases hp:E.prom f=W
   all_goals simp_all [if_true,if_neg,kM]
  .rfl
def NF.Km {n j:Nat}{dst:Option Nat}{f:I9->I9}(hf:NF j n dst f){i:p7}(hu:j∉gN l5 i)(ht:∀t,dst=J t->t∉iq i) :
  ∃o:Option y6,M9 E (f st) i.op=M9 E (qC st n o) i.op:=by
 cases hf with
 |mk o v u =>
  refine ⟨o,?_⟩;refine iJ (λx hx=>?_) ?_
  .grind [xb,tC,T1,iq]
  .simp [Rp]
   rfl
def bj6 {i:p7}{n j:Nat}{dst:Option Nat}{f:I9->I9}(hf:NF j n dst f)(hC:uN i=W)(hjk:j≠k)(hu:j∉gN l5 i)(ht:∀t,dst=J t->t∉iq i)(hd:∀s,i.dst=J s->dst≠J s)(hn:n<O st.H)(hs:M9 E st i.op<=n) :
  z6 E l5 A4 k i (f st)=(z6 E l5 A4 k i st).map (λp=>(f p.1,p.2))/\M9 E (f st) i.op=M9 E st i.op:=by
 refine ⟨?_,?_⟩
 .cases hf with
  |mk o v u =>
   have h1:=ED (E:=E) (l5:=l5) (A4:=A4) (k:=k) (st:=put (qC st n o) j v) (u:=u) (.inl hC) ht hd;have h2:=kG (E:=E) (A4:=A4) (v:=v) (st:=qC st n o) hjk hu (.of (kD hC _));have h3:z6 E l5 A4 k i (qC st n o)=(z6 E l5 A4 k i st).map (λp=>(qC p.1 n o,p.2)):=by
    cases o with
    |none=>simp only [qC];cases z6 E l5 A4 k i st<;>rfl
    |some o=>exact RF hC hn hs
   simp only;rw [h1,h2,h3];cases z6 E l5 A4 k i st<;>rfl
 .obtain ⟨o,ho⟩:=hf.Km (E:=E) (st:=st) hu ht
  rw [ho];cases o with
  |none=>rfl
  |some o=>exact Ro hs
def aH2 {i:p7}{j:Nat}{dst:Option Nat}{f:I9->I9}(hf:NF0 j dst f)(hC:uN i=W\/Gc i=W)(hjk:j≠k)(hu:j∉gN l5 i)(ht:∀t,dst=J t->t∉iq i)(hd:∀s,i.dst=J s->dst≠J s) :
  z6 E l5 A4 k i (f st)=(z6 E l5 A4 k i st).map (λp=>(f p.1,p.2))/\M9 E (f st) i.op=M9 E st i.op:=by
 cases hf with
 |mk v u =>
  have h1:=ED (E:=E) (l5:=l5) (A4:=A4) (k:=k) (st:=put st j v) (u:=u) hC ht hd;have h2:=kG (E:=E) (A4:=A4) (v:=v) (st:=st) hjk hu (.of (hC.elim (λh=>kD h _) (λh=>nC h _)));refine ⟨?_,?_⟩
  .simp only
   rw [h1,h2];cases z6 E l5 A4 k i st<;>rfl
  .refine iJ (λx hx=>?_) (by rw [Rp];rfl)
   rw [xb (λt ht' =>λhs=>ht t ht' (by unfold iq;exact List.mem_flatMap.2 ⟨x,hx,hs⟩)),tC (T1 hx hu)]
def VZ {i:p7}{n j:Nat}{dst:Option Nat}{f:I9->I9}(hf:NF j n dst f)(hu:j∉gN l5 i)(ht:∀t,dst=J t->t∉iq i)(hs:M9 E (f st) i.op<=n):M9 E st i.op=M9 E (f st) i.op:=by
 obtain ⟨o,ho⟩:=hf.Km (E:=E) (st:=st) hu ht;rw [ho] at hs ⊢;cases o with
 |none=>rfl
 |some o=>exact Xt hs
def nR {i:p7}{s s2 s' s2' :I9}{rs:List Nat}(h1:s2.o9=s.o9)(h2:s2'.o9=s'.o9)(h3:M9 E s2 i.op=M9 E s i.op):eO E i A4 s2 s2' rs=eO E i A4 s s' rs:=by
 simp_all [eO]
def fM {i:p7}{s s2 s' s2' :I9}{rs:List Nat}(h1:s2'.o9.take (O s2'.o9 - O s2.o9)=s'.o9.take (O s'.o9 - O s.o9))(h3:M9 E s2 i.op=M9 E s i.op):eO E i A4 s2 s2' rs=eO E i A4 s s' rs:=by
 simp_all [eO]
def Still.Ki {i b:p7}{d:List Touch}{BD:Option Nat}{kb:Nat}(h:Still kb b.dst BD d st st')(hl:kb∉gN l5 i)(ht:∀s,b.dst=J s->s∉iq i):∀x,x∈i.op.U5->A1.K4 st'.T st'.L x=A1.K4 st.T st.L x:=by
 intro x hx;refine h.K4 (T1 hx hl) λs hs e=>ht s e ?_
 simp_all [iq,List.mem_flatMap]
def Still.tI {i b:p7}{d:List Touch}{BD:Option Nat}{kb:Nat}(h:Still kb b.dst BD d st st')(hl:kb∉gN l5 i):y8 st'.L i.guard=y8 st.L i.guard :=
 h.wanted λ_ _ hg=>fe hg hl
def kI (l5:List p7)(st:I9):Prop:=∀(k:Nat) i s,l5[k]? =J i->i.op.B0=W->i.dst=J s->st.o9.any (Touch.V5 s)=W
def Still.marked {kb:Nat}{dst BD:Option Nat}{d:List Touch}(h:Still kb dst BD d st st')(hm:kI l5 st):kI l5 st' :=by
 intro k i s hi ha hd;rw [h.o9,List.any_append,hm k i s hi ha hd];simp
def zy {i:p7}{rs:List Nat}(hn:A4.isSome=i.op.B0)(h:z6 E l5 A4 k i st=J (st',rs)):O st.H<=O st'.H/\∃d,st'.o9=d++st.o9:=by
 cases hk:I5 st i.op with
 |false =>
  obtain ⟨d,hd⟩:=Still.z6 hk hn h;exact ⟨hd.QS,d,hd.o9⟩
 |true =>
  have slot:∀{s s2:I9} {dst:Option Nat},u9 A4 s k dst=J s2->O s.H=O s2.H/\∃d,s2.o9=d++s.o9:=by
   intro s s2 dst h;have hx:(E7 s (.loc k)).2.H=s.H/\(E7 s (.loc k)).2.o9=s.o9:=by
    simp only [E7];split<;>exact ⟨rfl,rfl⟩
   cases dst with
   |none=>cases A4<;>simp only [u9,F2,Y5,Option.some.injEq] at h<;>subst h<;>exact ⟨rfl,[],rfl⟩
   |some t =>
    cases A4<;>simp only [u9,F2,Y5] at h
    .split at h
     .cases h;exact ⟨by simp only [hx.1],[_],rfl⟩
     .cases h
    .split at h
     .cases h;exact ⟨by simp only [hx.1],[],by simp only [hx.2];rfl⟩
     .cases h
  have cg7:∀{v:c8} {s2:I9},u9 A4 (put st k v) k i.dst=J s2->O st.H<=O s2.H/\∃d,s2.o9=d++st.o9:=by
   intro v s2 h;obtain ⟨h1,d,h2⟩:=slot h;exact ⟨Nat.le_of_eq h1,d,h2⟩
  simp only [z6] at h;split at h
  .split at h
   next s1 rs1 h1=>
    split at h
    next s2 h2=>
     cases h;obtain ⟨e1,d,e2⟩:=slot h2;have hw:O st.H<=O s1.H/\∃d,s1.o9=d++st.o9:=by
      cases hop:i.op<;>rw [hop] at hk h1<;>simp only [I5,j4] at hk
      next sz bytes ob x y=>
       simp only [E1,x9.D6,if_true] at h1;split at h1
       next s3 h3=>
        cases h1;simp only [F9] at h3;split at hk
        next id z lo len hr=>
         rw [hr] at h3;simp only at h3;split at h3
         .simp only [V6] at h3
          split at h3
          .split at h3
           .split at h3
            .cases h3
             refine ⟨by simp [put];omega,[_],rfl⟩
            .cases h3
           .cases h3
          .cases h3
         .cases h3
        .cases hk
       .cases h1
     obtain ⟨e3,d2,e4⟩:=hw;exact ⟨V,d++d2,by rw [e2,e4,D3]⟩
    .cases h
   .cases h
  .split at h
   next s2 h2=>
    cases h;exact cg7 h2
   .cases h
  .cases h
theorem kI.ext (hm:kI l5 st)(h:∃d,st'.o9=d++st.o9):kI l5 st' :=by
 obtain ⟨d,h⟩:=h;intro k i s hi ha hd;rw [h,List.any_append,hm k i s hi ha hd];simp
def swap {X9:Nat->Option Nat}{lg:Nat->lQ}(hn:Wd l5 X9)(hlg:RZ l5 lg){j i:Nat}{a b:p7}(hp:JZ l5 j a i b=W)(ha:l5[j]? =J a)(hb:l5[i]? =J b)(hji:j≠i)
  (hin:∀k n,X9 k=J n->n<O st.H) (vN:kI l5 st) (h1:Sa E l5 X9 lg j st st1) (h2:Sa E l5 X9 lg i st1 st2):∃NJ,Sa E l5 X9 lg i st NJ /\Sa E l5 X9 lg j NJ st2:=by
 obtain ⟨a',ha',h1⟩:=h1;rw [ha] at ha';cases ha';obtain ⟨b',hb',h2⟩:=h2;rw [hb] at hb';cases hb';obtain ⟨ka0,rsa,sa,la⟩:=cI.1 h1;obtain ⟨kb0,rsb,sb,lb⟩:=cI.1 h2;simp only [JZ,c7,p6,List.contains_eq_mem,decide_eq_false_iff_not] at hp;obtain ⟨⟨⟨⟨u1,u2⟩,t1⟩,t2⟩,ga⟩:=hp;have t1' :∀s,b.dst=J s->s∉iq a:=by
  intro s hs;rw [hs] at t1;simp at t1;exact t1.1
 have t3:∀s,b.dst=J s->a.dst≠J s:=by
  intro s hs;rw [hs] at t1;simp at t1;exact t1.2
 have t4:∀s,a.dst=J s->b.dst≠J s:=λs hs h=>t3 s h hs
 have t2' :∀s,a.dst=J s->s∉iq b:=by
  intro s hs;rw [hs] at t2;simpa using t2
 have aa7:=hn.alloc j a ha;have BD:=hn.alloc i b hb;simp only [Bool.or_eq_true,c7,decide_eq_true_eq] at ga;cases kb:I5 st1 b.op with
 |true =>
  have hu:CQ a=W/\i∈a.cB:=by
   rcases ga with (((((h|h)|h)|h)|h)|h)|h
   .rcases h.2 with h2|h2
    .rw [iA h2] at kb;cases kb
    .exact ⟨h.1,h2⟩
   .rw [iA h.1] at kb;cases kb
   .rw [cE h.2] at kb;cases kb
   .rw [kD h.1.2] at kb;cases kb
   .rw [cE h.1.2] at kb;cases kb
   .rw [nC h.2] at kb;cases kb
   .rw [cE (yD h.2).1] at kb;cases kb
  obtain ⟨sz,Ys,ob,x,y,s,id,z,lo,n,jd,o,hop,Zp,hd,hg,hx,hT,hne⟩:=Lv (Th kb0 kb ha hu.2);obtain ⟨v,e0,_⟩:=Jc hu.1 sa;have hT0:st.T[s]? =J (.ptr jd o):=by rw [e0] at hT;exact hT
  rw [wR Zp hd hg hT0] at sa;obtain ⟨rfl,rfl⟩:put st j (.ptr jd o)=st1/\[]=rsa:=by simpa using sa
  have hx0:K4 st.T st.L x= .B8 id z lo n:=by rw [<- X4 u1 x (by simp [hop,x9.U5])];exact hx
  rw [kG hji u1 (by rw [hop];exact Lw hx0 hne)] at sb;cases KX:z6 E l5 (X9 i) i b st with
  |none=>rw [KX] at sb;cases sb
  |some p =>
   obtain ⟨s',rs'⟩:=p;rw [KX] at sb;simp only [O9,Option.some.injEq,Prod.mk.injEq] at sb;obtain ⟨rfl,rfl⟩:=sb;have hTs:=Lm hop hx0 KX (λe=>t1' s e (by simp [iq,Zp,x9.U5,y7.slots])) hT0 hne;refine ⟨s',⟨b,hb,cI.2 ⟨?_,rs',KX,?_⟩⟩,a,ha,cI.2 ⟨by rw [iA hu.1];rfl,[],wR Zp hd hg hTs,?_⟩⟩
   .rw [<- kb0,iZ (X4 u1)]
    simp only [CH (X4 u1) (show (put st j (.ptr jd o)).T=st.T from rfl)]
   .rw [lb];exact nR rfl rfl (iJ (X4 u1) rfl)
   .rw [la];exact (fM (by simp [put]) (by rw [fI hu.1,fI hu.1])).symm
 |false =>
 cases ka:I5 st a.op with
 |true =>
  have hu:CQ b=W/\j∈b.cB:=by
   rcases ga with (((((h|h)|h)|h)|h)|h)|h
   .rw [iA h.1] at ka;cases ka
   .exact ⟨h.1,h.2⟩
   .rw [cE h.1] at ka;cases ka
   .rw [cE h.1.1] at ka;cases ka
   .rw [kD h.1.1] at ka;cases ka
   .rw [cE (yD h.1).1] at ka;cases ka
   .rw [nC h.1] at ka;cases ka
  obtain ⟨sz,Ys,ob,x,y,s,id,z,lo,n,jd,o,hop,Zp,hd,hg,hx,hT,hne⟩:=Lv (Th ka0 ka hb hu.2);have hT1:=Lm hop hx sa (λe=>t2' s e (by simp [iq,Zp,x9.U5,y7.slots])) hT hne;rw [wR Zp hd hg hT1] at sb;obtain ⟨rfl,rfl⟩:put st1 i (.ptr jd o)=st2/\[]=rsb:=by simpa using sb
  refine ⟨put st i (.ptr jd o),⟨b,hb,cI.2 ⟨by rw [iA hu.1];rfl,[],wR Zp hd hg hT,?_⟩⟩,a,ha,cI.2 ⟨?_,rsa,?_,?_⟩⟩
  .rw [lb];exact fM (by simp [put]) (by rw [fI hu.1,fI hu.1])
  .rw [<- ka0,iZ (X4 u2)]
   simp only [CH (X4 u2) (show (put st i (.ptr jd o)).T=st.T from rfl)]
  .rw [kG (λe=>hji e.symm) u2 (by rw [hop];exact Lw hx hne),sa]
   rfl
  .rw [la];exact (nR (s:=st) (s2:=put st i (.ptr jd o)) (s' :=st1) (s2' :=put st1 i (.ptr jd o)) rfl rfl (iJ (X4 u2) rfl)).symm
 |false =>
 obtain ⟨da,stA⟩:=Still.z6 ka aa7 sa;have aY0:tK a=W->(uN b=W\/Gc b=W)->(a.op.makes=W->uN b=W/\i∈a.cB)->∃NJ,Sa E l5 X9 lg i st NJ /\Sa E l5 X9 lg j NJ st2:=by
  intro XW hCD Zo;have hkb:∀s,I5 s b.op=F:=λs=>hCD.elim (λh=>kD h s) (λh=>nC h s)
  have vM:=iw XW;rw [vM] at aa7;obtain ⟨n,hn1⟩:=Option.isSome_iff_exists.1 aa7;rw [hn1] at sa;obtain ⟨rfl,f,hf,hf0,rfl,Ta⟩:=Jb XW sa;obtain ⟨hs1,hs2⟩:z6 E l5 (X9 i) i b (f st)=(z6 E l5 (X9 i) i b st).map (λp=>(f p.1,p.2))/\M9 E (f st) b.op=M9 E st b.op:=by
   cases hmk:a.op.makes with
   |true =>
    have ay5:M9 E (f st) b.op<=n:=by
     have:=(hlg j a i ha (Zo hmk).2).2 hmk;rw [lb,la] at this;simpa [eO,hn1] using this
    have bp0:=VZ hf u1 t2' ay5;exact bj6 (E:=E) (l5:=l5) (A4:=X9 i) hf (Zo hmk).1 hji u1 t2' t3 (hin j n hn1) (by rw [bp0];exact ay5)
   |false=>exact aH2 (hf0 hmk) hCD hji u1 t2' t3
  rw [hs1] at sb;cases KX:z6 E l5 (X9 i) i b st with
  |none=>rw [KX] at sb;cases sb
  |some p =>
   obtain ⟨s',rs'⟩:=p;rw [KX] at sb;simp only [O9,Option.some.injEq,Prod.mk.injEq] at sb;obtain ⟨rfl,rfl⟩:=sb;obtain ⟨db,stB⟩:=Still.z6 (hkb st) BD KX;refine ⟨s',⟨b,hb,eS ⟨hkb _,rs',KX,?_⟩⟩,a,ha,eS ⟨cE XW _,[],?_,?_⟩⟩
   .rw [lb]
    exact nR (hf.o9 _) (hf.o9 _) hs2
   .rw [hn1]
    exact Ta s' (stB.Ki u2 t1') (stB.tI u2) ⟨stB.X8,stB.kT,λs hs=>stB.marked vN j a s ha vM hs⟩
   .rw [la]
    refine fM ?_ ?_
    .simp [hf.o9]
    .rw [fH XW,fH XW]
 have aY1:tK b=W->(uN a=W\/Gc a=W)->(b.op.makes=W->uN a=W/\j∈b.cB)->∃NJ,Sa E l5 X9 lg i st NJ /\Sa E l5 X9 lg j NJ st2:=by
  intro XX hCD Zo;have hka:∀s,I5 s a.op=F:=λs=>hCD.elim (λh=>kD h s) (λh=>nC h s)
  have vM:=iw XX;rw [vM] at BD;obtain ⟨m,SM⟩:=Option.isSome_iff_exists.1 BD;rw [SM] at sb;obtain ⟨rfl,g,hg,hg0,rfl,Tb⟩:=Jb XX sb;obtain ⟨hs1,hs2⟩:z6 E l5 (X9 j) j a (g st)=(z6 E l5 (X9 j) j a st).map (λp=>(g p.1,p.2))/\M9 E (g st) a.op=M9 E st a.op:=by
   cases hmk:b.op.makes with
   |true =>
    have ay5:M9 E st a.op<=m:=by
     have:=(hlg i b j hb (Zo hmk).2).2 hmk;rw [lb,la] at this;simpa [eO,SM] using this
    exact bj6 (E:=E) (l5:=l5) (A4:=X9 j) hg (Zo hmk).1 (λe=>hji e.symm) u2 t1' t4 (hin i m SM) ay5
   |false=>exact aH2 (hg0 hmk) hCD (λe=>hji e.symm) u2 t1' t4
  have sb0:z6 E l5 (J m) i b st=J (g st,[]) :=
   Tb st (λx hx=>(stA.Ki u1 t2' x hx).symm) (stA.tI u1).symm ⟨stA.X8.symm,stA.kT.symm,λs hs=>vN i b s hb vM hs⟩
  refine ⟨g st,⟨b,hb,eS ⟨cE XX _,[],by rw [SM];exact sb0,?_⟩⟩,a,ha,eS ⟨hka _,rsa,?_,?_⟩⟩
  .rw [lb]
   refine fM ?_ ?_
   .simp [hg.o9]
   .rw [fH XX,fH XX]
  .rw [hs1,sa];rfl
  .rw [la]
   exact (nR (hg.o9 _) (hg.o9 _) hs2).symm
 rcases ga with (((((ga|ga)|ga)|ga)|ga)|ga)|ga
 ·
  obtain ⟨hPa,ga⟩:=ga;obtain ⟨v,rfl,Ta⟩:=Jc hPa sa;have kb' :I5 st b.op=F:=by rw [<- iZ (X4 u1)];exact kb
  have hs:=kG (E:=E) (A4:=X9 i) (v:=v) hji u1 (.of kb');rw [hs] at sb;cases KX:z6 E l5 (X9 i) i b st with
  |none=>rw [KX] at sb;cases sb
  |some p =>
   obtain ⟨s',rs'⟩:=p;rw [KX] at sb;simp only [O9,Option.some.injEq,Prod.mk.injEq] at sb;obtain ⟨rfl,rfl⟩:=sb;have lb' :lg i=eO E b (X9 i) st s' rs' :=by rw [lb];exact nR rfl rfl (iJ (X4 u1) rfl)
   obtain ⟨db,stB⟩:=Still.z6 kb' BD KX;refine ⟨s',⟨b,hb,eS ⟨kb',rs',KX,lb'⟩⟩,a,ha,eS ⟨iA hPa _,rsa,?_,?_⟩⟩
   .refine Ta s' (stB.Ki u2 t1') (stB.tI u2) λid hid=>?_
    rcases ga with hPb|hun
    .obtain ⟨u,rfl,_⟩:=Jc hPb KX
     exact V8.refl _
    .have:=(hlg j a i ha hun).1
     rw [lb',la] at this;exact stB.reads (E:=E) (i:=b) (rs:=rs') this hid
   .rw [la]
    refine (fM ?_ ?_).symm
    .simp [put]
    .rw [fI hPa,fI hPa]
 ·
  obtain ⟨hPb,hun⟩:=ga;obtain ⟨v,rfl,Tb⟩:=Jc hPb sb;have sb0:z6 E l5 (X9 i) i b st=J (put st i v,rsb):=by
   refine Tb st (λx hx=>(stA.Ki u1 t2' x hx).symm) (stA.tI u1).symm λid hid=>?_
   have:=(hlg i b j hb hun).1;rw [la,lb] at this;exact (stA.reads (E:=E) (i:=a) (rs:=rsa) this hid).symm
  refine ⟨put st i v,⟨b,hb,eS ⟨iA hPb _,rsb,sb0,?_⟩⟩,a,ha,eS ⟨by rw [iZ (X4 u2)];exact ka,rsa,?_,?_⟩⟩
  .rw [lb]
   refine (fM ?_ ?_)
   .simp [put]
   .rw [fI hPb,fI hPb]
  .rw [kG (λe=>hji e.symm) u2 (.of ka),sa]
   rfl
  .rw [la]
   exact (nR (s:=st) (s2:=put st i v) (s' :=st1) (s2' :=put st1 i v) rfl rfl (iJ (X4 u2) rfl)).symm
 ·
  obtain ⟨XW,XX⟩:=ga;rw [iw XW] at aa7;rw [iw XX] at BD;obtain ⟨n,hn1⟩:=Option.isSome_iff_exists.1 aa7;obtain ⟨m,SM⟩:=Option.isSome_iff_exists.1 BD;rw [hn1] at sa;rw [SM] at sb;obtain ⟨rfl,f,hf,hf0,rfl,Ta⟩:=Jb XW sa;obtain ⟨rfl,g,hg,hg0,rfl,Tb⟩:=Jb XX sb;have hnm:n≠m:=by
   rintro rfl;exact hji (hn.inj j i n hn1 SM)
  have ut:∀{c:p7} {x:y7} {t:Nat},x∈c.op.U5->t∉iq c->t∉x.slots:=by
   intro c x t hx ht h;apply ht;unfold iq;exact List.mem_flatMap.2 ⟨x,hx,h⟩
  have sb0:z6 E l5 (J m) i b st=J (g st,[]) :=
   Tb st (λx hx=>(hf.K4 (T1 hx u1) (λt ht=>ut hx (t2' t ht)) st).symm) (hf.wanted (λ_ _ h=>fe h u1) st).symm ⟨(hf.X8 st).symm,(hf.kT st).symm,λs hs=>vN i b s hb (iw XX) hs⟩
  have sa0:z6 E l5 (J n) j a (g st)=J (f (g st),[]) :=
   Ta (g st) (λx hx=>hg.K4 (T1 hx u2) (λt ht=>ut hx (t1' t ht)) st) (hg.wanted (λ_ _ h=>fe h u2) st) ⟨hg.X8 st,hg.kT st,λs hs=>by rw [hg.o9];exact vN j a s ha (iw XW) hs⟩
  refine ⟨g st,⟨b,hb,eS ⟨cE XX _,[],by rw [SM];exact sb0,?_⟩⟩,a,ha,eS ⟨cE XW _,[],by rw [hn1,sa0,hf.comm hg hji hnm t3],?_⟩⟩
  .rw [lb]
   refine fM ?_ ?_
   .simp [hf.o9,hg.o9]
   .rw [fH XX,fH XX]
  .rw [la]
   refine (fM ?_ ?_)
   .simp [hf.o9,hg.o9]
   .rw [fH XW,fH XW]
 .exact aY0 ga.1.1 (.inl ga.1.2) λ_=>⟨ga.1.2,ga.2⟩
 .exact aY1 ga.1.2 (.inl ga.1.1) λ_=>⟨ga.1.1,ga.2⟩
 .exact aY0 (yD ga.1).1 (.inr ga.2) λh=>by rw [(yD ga.1).2] at h;cases h
 .exact aY1 (yD ga.2).1 (.inr ga.1) λh=>by rw [(yD ga.2).2] at h;cases h
end
end Go.A1
namespace Go.A1
variable [E5]
inductive vS (E:Env) (l5:List p7) (X9:Nat->Option Nat) (lg:Nat->lQ):List Nat->I9->I9->Prop where
 |nil (st:I9):vS E l5 X9 lg [] st st
 |cons {k:Nat} {ks:List Nat} {st st1 st2:I9}:Sa E l5 X9 lg k st st1->vS E l5 X9 lg ks st1 st2->vS E l5 X9 lg (k::ks) st st2
section
variable {E:Env} {l5:List p7} {X9:Nat->Option Nat} {lg:Nat->lQ} {st st1 st2 fin:I9}
theorem Sa.len (hn:Wd l5 X9){k:Nat}(h:Sa E l5 X9 lg k st st1):O st.H<=O st1.H:=by
 obtain ⟨i,hi,h⟩:=h;obtain ⟨hk,rs,hs,_⟩:=cI.1 h;exact (zy (hn.alloc k i hi) hs).1
def Sa.marked (hn:Wd l5 X9){k:Nat}(h:Sa E l5 X9 lg k st st1)(hm:kI l5 st):kI l5 st1:=by
 obtain ⟨i,hi,h⟩:=h;obtain ⟨hk,rs,hs,_⟩:=cI.1 h;exact hm.ext (zy (hn.alloc k i hi) hs).2
theorem vS.front (hn:Wd l5 X9)(hlg:RZ l5 lg){i:Nat}{b:p7}(hb:l5[i]? =J b){rest:List Nat} :
  ∀(js:List Nat) (st:I9),(∀j,j∈js->j≠i/\∃a,l5[j]? =J a/\JZ l5 j a i b=W)->(∀k n,X9 k=J n->n<O st.H)->kI l5 st->vS E l5 X9 lg (js++i::rest) st fin ->
   ∃st',Sa E l5 X9 lg i st st' /\vS E l5 X9 lg (js++rest) st' fin
 |[],st,_,_,_,h=>by
  cases h with
  |cons h1 h2=>grind
 |j::js,st,hj,hin,vN,h=>by
  cases h with
  |cons h1 h2 =>
   obtain ⟨s2,g1,g2⟩:=vS.front hn hlg hb js _ (λj' hj' =>hj j' (by simp [hj'])) (λk n hk=>Nat.lt_of_lt_of_le (hin k n hk) (h1.len hn)) (h1.marked hn vN) h2;obtain ⟨hne,a,ha,hp⟩:=hj j U;obtain ⟨s1,e1,e2⟩:=swap hn hlg hp ha hb hne hin vN h1 g1;exact ⟨s1,e1,vS.cons e2 g2⟩
end
def direct (o:Oper):List Nat:=(o.after.toList.filter (Region.binds .any)).map (·.on)
def Qd:List Oper->List (List Nat)->List (List Nat)
 |[],acc=>acc
 |o::os,acc=>Qd os (acc++[((direct o).flatMap λe=>e::acc.getD e []).eraseDups])
def MX (qE:List (List Nat))(k:Nat)(o:Oper):Bool :=
 (qE.getD k []).all λj=>(direct o).contains j||(direct o).any λe=>(qE.getD e []).contains j
def CM (l5:List p7)(qE:List (List Nat))(i:Nat)(b:p7):Bool :=
 (List.range i).all λj=>(qE.getD i []).contains j||(match l5[j]? with
  |some a=>JZ l5 j a i b
  |none=>F)
def qJ (X:Cx)(l5:List p7)(qE:List (List Nat)):List p7->Nat->Bool
 |[],k=>X.ops.size==k
 |i::is,k=>(match X.ops[k]? with
  |some o=>MX qE k o&&(direct o).all (λe=>decide (e<k))&&uM X (λj=>(qE.getD k []).contains j) o i&&CM l5 qE k i
  |none=>F)&&qJ X l5 qE is (k+1)
theorem CJ {X:Cx}{l5:List p7}{qE:List (List Nat)}:∀(is:List p7) (k:Nat),l5.drop k=is->qJ X l5 qE is k=W->∀(m:Nat) b,k<=m->l5[m]? =J b ->
  ∃o,X.ops[m]? =J o/\MX qE m o=W/\(∀e,e∈direct o->e<m)/\uM X (λj=>(qE.getD m []).contains j) o b=W/\CM l5 qE m b=W
 |[],k,hd,_,m,b,hkm,hb=>by
  simp_all [List.length]<;>grind
 |i::is,k,hd,h,m,b,hkm,hb=>by
  simp only [qJ,c7] at h
  by_cases e:m=k
  .subst e
   have hi:l5[m]? =J i:=by
    have:(l5.drop m)[0]? =J i:=by rw [hd];rfl
    grind
   grind
  .have hd' :l5.drop (k+1)=is:=by
    have:=congrArg (List.drop 1) hd
    grind [List.drop_drop]
   exact CJ is (k+1) hd' h.2 m b V hb
theorem qK {X:Cx}{l5:List p7}{qE:List (List Nat)}:∀(is:List p7) (k:Nat),qJ X l5 qE is k=W->X.ops.size=k+O is
 |[],k,h=>by grind [qJ]
 |i::is,k,h=>by
  simp [qJ,c7] at h;have:=qK is (k+1) h.2
  grind
def Ye (X:Cx)(S:Nat->Prop):Prop:=∀(k:Nat) o,S k->X.ops[k]? =J o->∀e,e∈direct o->S e
def Qe {X:Cx}{qE:List (List Nat)}{S:Nat->Prop}(hc:Ye X S)(hok:∀(k:Nat) o,X.ops[k]? =J o->MX qE k o=W/\∀e,e∈direct o->e<k)(hout:∀k,X.ops.size<=k->qE.getD k []=[]) :
  ∀(n k:Nat),k<=n->∀o,X.ops[k]? =J o->(∀e,e∈direct o->S e)->∀j,j∈qE.getD k []->S j:=by
 intro n
 induction n with
 |zero =>
  grind [MX]
 |succ n ih =>
  intro k hk o ho hd j hj;obtain ⟨h1,h2⟩:=hok k o ho;have:=M1.1 h1 j hj;simp [Bool.or_eq_true,List.contains_eq_mem,decide_eq_true_eq,List.any_eq_true] at this
  rcases this with h|⟨e,he,hej⟩
  .exact hd j h
  .have hlt:=h2 e he
   cases hoe:X.ops[e]? with
   |none =>
    simp_all
   |some oe=>exact ih e V oe hoe (hc e oe (hd e he) hoe) j hej
def eP (n:Nat)(listed:Array Bool):List Nat:=(List.range n).filter λj=> !listed.getD j F
def Nr {n i:Nat}{listed:Array Bool}(hi:i<n)(hu:listed.getD i F=F)(hs:listed.size=n) :
  ∃js rest,eP n listed=js++i::rest/\eP n (listed.setIfInBounds i W)=js++rest/\∀j,j∈js->j<i/\listed.getD j F=F:=by
 refine ⟨(List.range i).filter λj=> !listed.getD j F,(List.range' (i+1) (n - i - 1)).filter λj=> !listed.getD j F,?_,?_,?_⟩
 .unfold eP
  have:List.range n=List.range i++i::List.range' (i+1) (n - i - 1):=by
   have h:=List.range'_append_1 (s:=0) (m:=i) (n:=n - i - 1+1)
   grind [List.range_eq_range',List.range'_succ]
  simp_all
 .unfold eP
  have:List.range n=List.range i++i::List.range' (i+1) (n - i - 1):=by
   have h:=List.range'_append_1 (s:=0) (m:=i) (n:=n - i - 1+1)
   grind [List.range_eq_range',List.range'_succ]
  rw [this,List.filter_append,List.filter_cons];have e1:(!(listed.setIfInBounds i W).getD i F)=F:=by simp [hs,hi]
  rw [e1]
  congr 1
  .refine List.filter_congr λj hj=>?_
   simp_all<;>grind
  .refine List.filter_congr λj hj=>?_
   simp_all<;>grind
 simp_all
section
variable {X:Cx} {l5:List p7} {E:Env} {nt:Nat} {X9:Nat->Option Nat} {lg:Nat->lQ} {fin:I9} {qE:List (List Nat)}
def Wf (hst:Stat X nt)(SK:qF X.P E.cf E.prom)(ig:∀f args H lm r,E.cf f args H lm=J r->V2 X.P f=W)(hs:E.lim.strict<=E.lim.base)(hbe:E.lim.base<=E.entry)(Q:Exit->Act->World->Prop)
  (Mb:qJ X l5 qE l5 0=W) (hout:∀k,X.ops.size<=k->qE.getD k []=[]) (hn:Wd l5 X9) (hne:∀k n,X9 k=J n->E.entry<=n) (hlg:RZ l5 lg) :
  ∀(fuel:Nat) (listed:Array Bool) (st:I9) (a:Act) (w:World) (G:Gh) (I:U3) (N:Nat->Prop),Rg X l5 E nt (λj=>listed.getD j F=W) st a w G I N->listed.size=O l5->Ye X (λj=>listed.getD j F=W) ->
   (∀k n,X9 k=J n->n<O st.H)->kI l5 st->(∀k n,X9 k=J n->listed.getD k F=F->¬ N n)->vS E l5 X9 lg (eP (O l5) listed) st fin->O (eP (O l5) listed)<=fuel ->
   (∀a' w' G' I' N',Fin X l5 E nt st w G I N fin a' w' G' I' N' ->Q .normal a' w')->wpAny X.P .any X.ops Q fuel listed a w:=by
 have hsize:X.ops.size=O l5:=by grind [qK]
 have Mc:=λ(m:Nat) b hb=>CJ l5 0 U Mb m b (O0 _) hb
 have Zs:∀(k:Nat) o,X.ops[k]? =J o->MX qE k o=W/\∀e,e∈direct o->e<k:=by
  intro k o ho;have hk:k<O l5:=by
   grind
  obtain ⟨o',h1,h2,h3,_⟩:=Mc k l5[k] (o6 hk);simp_all
 have hdone:∀(listed:Array Bool),listed.size=O l5->Region.ready .any X.ops listed=[]->eP (O l5) listed=[]:=by
  intro listed hls hr;cases Zu:eP (O l5) listed with
  |nil=>rfl
  |cons i rest =>
   exfalso;have hi:i<O l5/\listed.getD i F=F/\∀j,j<i->listed.getD j F=W:=by
    have hm:i∈eP (O l5) listed:=M
    unfold eP at hm;simp only [List.mem_filter,List.mem_range,p6] at hm;refine ⟨hm.1,hm.2,λj hj=>?_⟩;cases hlj:listed.getD j F with
    |true=>rfl
    |false =>
     have hjm:j∈eP (O l5) listed:=by
      grind [eP,p6]
     have bG3:(eP (O l5) listed).Pairwise (·<·):=List.Pairwise.filter _ List.pairwise_lt_range
     grind [M7]
   obtain ⟨o,ho,_,hlt,_⟩:=Mc i l5[i] (o6 hi.1);have:i∈Region.ready .any X.ops listed:=by
    grind [mem_ready,direct]
   simp_all
 have hend:∀(listed:Array Bool) (st:I9) (a:Act) (w:World) (G:Gh) (I:U3) (N:Nat->Prop),Rg X l5 E nt (λj=>listed.getD j F=W) st a w G I N->listed.size=O l5->vS E l5 X9 lg (eP (O l5) listed) st fin->eP (O l5) listed=[] ->
   Fin X l5 E nt st w G I N fin a w G I N:=by
  intro listed st a w G I N hR hls hrun Zu;rw [Zu] at hrun;cases hrun;refine ⟨hR.congr λj=>?_,bB.refl _ _ _ _ _ _⟩;constructor
  .grind
  simp_all [eP,List.mem_filter,List.mem_range,p6]
 intro fuel
 induction fuel with
 |zero =>
  intro listed st a w G I N hR hls hcl hin vN hfr hrun hfl hQ;have Zu:eP (O l5) listed=[]:=List.length_eq_zero_iff.1 V;refine ⟨?_,hQ _ _ _ _ _ (hend listed st a w G I N hR hls hrun Zu)⟩;cases hr:Region.ready .any X.ops listed with
  |nil=>rfl
  |cons i rest =>
   exfalso;have:i∈Region.ready .any X.ops listed:=by rw [hr];simp
   obtain ⟨h0,o,ho,_⟩:=mem_ready.1 this;have hi:i<O l5:=by grind
   have Af:i<listed.size:=V
   have:i∈eP (O l5) listed:=by
    grind [eP,p6]
   grind
 |succ fuel ih =>
  intro listed st a w G I N hR hls hcl hin vN hfr hrun hfl hQ;refine ⟨λhr=>hQ _ _ _ _ _ (hend listed st a w G I N hR hls hrun (hdone listed hls hr)),λi hi=>?_⟩;obtain ⟨h0,o,ho,hall⟩:=mem_ready.1 hi;have hia:i<O l5:=by grind
  have Af:i<listed.size:=V
  have hun:listed.getD i F=F:=by
   grind
  obtain ⟨b,hb⟩:∃b,l5[i]? =J b:=⟨_,o6 hia⟩;obtain ⟨o',ho',hoa,hlt,hci,jG⟩:=Mc i b hb;rw [ho] at ho';cases ho';have bV7:∀e,e∈direct o->listed.getD e F=W:=by
   grind [direct]
  have bV2:=Qe hcl Zs hout i i (l6 _) o ho bV7;obtain ⟨js,rest,hr1,hr2,hjs⟩:=Nr hia hun hls;rw [hr1] at hrun;obtain ⟨st1,bX9,cp0⟩:=vS.front hn hlg hb js st (λj hj=>by
   obtain ⟨hji,hju⟩:=hjs j hj
   grind [CM]) hin vN hrun
  obtain ⟨b',hb',hD⟩:=bX9;rw [hb] at hb';cases hb';obtain ⟨hk,rs,hstep,cF3⟩:=cI.1 hD;have hstill:=(zy (hn.alloc i b hb) hstep).2;refine AI hst SK ig hs hbe hR (i6:=λj=>(qE.getD i []).contains j) (λj hj=>bV2 j (by simpa using hj)) (by grind) ho hb hci (A4:=X9 i) (λvM=>?_) (λn hni=>⟨hne i n hni,hin i n hni⟩) hstep _ _ ?_
  .have:=hn.alloc i b hb
   rw [vM] at this;obtain ⟨n,hni⟩:=Option.isSome_iff_exists.1 this;rw [hni];have h1:=hne i n hni;exact ⟨hfr i n hni hun,(λm hm=>by grind),by grind [newId],by grind [newId]⟩
  .intro a' w' G' I' N' hdn
   have uY:∀j,(listed.setIfInBounds i W).getD j F=W↔(listed.getD j F=W\/j=i):=by
    intro j
    by_cases e:j=i
    .subst e;simp [Af]
    .rw [Go.getD_set_ne F (λh=>e h.symm)]
     simp [e]
   refine ih (listed.setIfInBounds i W) st1 a' w' G' I' N' (hdn.rg.congr λj=>(uY j).symm) (by simp [hls]) ?_ (λk n hk=>Nat.lt_of_lt_of_le (hin k n hk) hdn.len) (vN.ext hstill) ?_ (by grind) ?_ ?_
   .intro k ok hk hok e he
    rw [uY] at hk ⊢
    rcases hk with hk|rfl
    .exact Or.inl (hcl k ok hk hok e he)
    grind
   .intro k n hk hku hN
    have bW3 :listed.getD k F=F/\k≠i:=by
     grind
    rcases hdn.old n (hin k n hk) hN with h|h
    .grind
    .exact bW3.2 (hn.inj k i n hk h)
   .grind
   .intro a'' w'' G'' I'' N'' hf
    exact hQ _ _ _ _ _ ⟨hf.rg,hdn.since.trans hf.since⟩
def uc (l5:List p7)(base:Nat)(k:Nat):Option Nat :=
 match l5[k]? with
 |some i=>if i.op.B0 then J (base+O ((l5.take k).filter (·.op.B0))) else K
 |none=>K
def aA6 (l5:List p7)(base:Nat):Wd l5 (uc l5 base):=by
 refine ⟨λk i hi=>?_,λj k n hj hk=>?_⟩
 .grind [uc]
 .have key:∀a b n,a<b->uc l5 base a=J n->uc l5 base b=J n->False:=by
   intro a b n hab ha hb;unfold uc at ha hb;split at ha
   .split at ha
    .split at hb
     .split at hb
      .have h1:O ((l5.take (a+1)).filter (·.op.B0))=O ((l5.take a).filter (·.op.B0))+1:=by
        simp_all [List.take_add_one,List.filter_append]
       grind [List.Sublist.length_le,List.Sublist.filter,List.take_sublist_take_left]
      .cases hb
     .cases hb
    .cases ha
   .cases ha
  grind
theorem AB {base:Nat}:∀(is:List p7) (k:Nat) (na:Nat) (st st2:I9) (QT:List lQ) (lgf:Nat->lQ),l5.drop k=is->na=base+O ((l5.take k).filter (·.op.B0))->S6 E l5 is k na st=J (st2,QT) ->
  (∀m,m<O is->lgf (k+m)=QT.getD m ⟨[],[],0,0⟩)->O QT=O is/\vS E l5 (uc l5 base) lgf (List.range' k (O is)) st st2
 |[],k,na,st,st2,QT,lgf,hd,hna,h,hl=>by
  cases h;exact ⟨rfl,vS.nil _⟩
 |i::is,k,na,st,st2,QT,lgf,hd,hna,h,hl=>by
  have hi:l5[k]? =J i:=by
   have:(l5.drop k)[0]? =J i:=by rw [hd];rfl
   grind
  have hd' :l5.drop (k+1)=is:=by
   have:=congrArg (List.drop 1) hd
   grind [List.drop_drop]
  simp [S6] at h;split at h
  next st1 l hstep=>
   split at h
   next st3 lg3 hrun=>
    cases h;have bW7 :(if i.op.B0=W then na+1 else na)=base+O ((l5.take (k+1)).filter (·.op.B0)):=by
     grind
    obtain ⟨g1,g2⟩:=AB is (k+1) _ st1 st2 lg3 lgf hd' bW7 hrun (λm hm=>by
     simp_all<;>grind)
    refine ⟨by simp [g1],?_⟩;refine vS.cons ⟨i,hi,?_⟩ g2
    grind [uc]
   .cases h
  .cases h
def WX {QT:List lQ}(hlen:O QT=O l5)(h:ud l5 QT=W):RZ l5 (λk=>QT.getD k ⟨[],[],0,0⟩):=by
 intro k i e hi he;unfold ud at h;have hk:=y5 hi;have hz:(i,QT.getD k ⟨[],[],0,0⟩)∈l5.zip QT:=by
  refine List.mem_of_getElem? (i:=k) ?_;simp_all
 grind
end
end Go.A1
namespace Go.A1
variable [E5]
structure Cd (P:Program)(names:List Tmp)(E:Env)(nt:Nat)(st:St)(a:Act)(w:World)(G:Gh)(I:U3)(N:Nat->Prop):Prop where
 T:∀(s:Nat) t,names[s]? =J t->VR G I N w (.slot s) (st.T.getD s .any) (a.tmps.getD t undef)
 H:HR G I N w st.H
 wf:WF G w
 X7:Wa E.lim st.H
 X8:O st.T=O names
 cz:∀id,N id->id<O st.H
 Jw:E.entry<=O st.H
 size:a.tmps.size=nt
 idle:∀d,d∈a.defers->Lf P E.idle d
def uR (names:List Tmp):List (Option Tmp)->Bool
 |[]=>W
 |none::r=>uR names r
 |some d::r=>(names.contains d|| !r.contains (J d))&&uR names r
def mg:List Tmp->Bool
 |[]=>W
 |x::xs=> !xs.contains x&&mg xs
theorem ua:∀(l:List Tmp),mg l=W->∀(s s' :Nat) t,l[s]? =J t->l[s']? =J t->s=s'
 |[],_,s,s',t,h,_=>by simp at h
 |x::xs,hok,s,s',t,h,h' =>by
  simp [mg,c7,List.contains_eq_mem] at hok;cases s with
  |zero =>
   grind
  |succ s =>
   cases s' with
   |zero =>
    grind
   |succ s' =>rw [ua xs hok.2 s s' t (by simpa using h) M]
theorem wA (names:List Tmp):∀(l:List (Option Tmp)),uR names l=W->∀(i j:Nat) d,l[i]? =J (J d)->l[j]? =J (J d)->names.contains d=F->i=j
 |[],_,i,j,d,h,_,_=>by simp at h
 |x::xs,hok,i,j,d,h,h',hn=>by
  have wK:uR names xs=W:=by
   cases x with
   |none=>exact hok
   |some d' =>simp_all [uR,c7]
  have hnot:x=J d->J d∉xs:=by
   grind [uR,absurd]
  cases i with
  |zero =>
   grind
  |succ i =>
   cases j with
   |zero =>
    grind
   |succ j=>rw [wA names xs wK i j d (by simpa using h) M hn]
def fF (P:Program)(names:List Tmp)(nt:Nat)(ops:Array Oper)(l5:List p7)(draw:Bool):Bool :=
 uR names (ops.toList.map (·.dst))&&(ops.toList.all λo=>match o.dst with|some d=>decide (d<nt)|none=>W) &&
 (if draw then
   let qE:=Qd ops.toList []
   decide (O qE<=ops.size)&&qJ ⟨P,names,ops⟩ l5 qE l5 0&&P.follows .mixedOrders
  else oS ⟨P,names,ops⟩ l5 0)
def aF6 {P:Program}{names:List Tmp}{nt:Nat}{ops:Array Oper}{l5:List p7}{draw:Bool}(hn:mg names=W)(h:fF P names nt ops l5 draw=W):Stat ⟨P,names,ops⟩ nt:=by
 simp [fF,c7] at h;obtain ⟨⟨h1,h2⟩,_⟩:=h;have get:∀(i:Nat) d,(ops[i]?).bind (·.dst)=J d->(ops.toList.map (·.dst))[i]? =J (J d):=by
  simp_all<;>grind
 refine ⟨λi j d hi hj hc=>wA names _ h1 i j d (get i d hi) (get j d hj) hc,λi d hd=>?_,λs s' t=>ua names hn s s' t⟩
 grind
section
variable {P:Program} {names:List Tmp} {E:Env} {nt:Nat} {st:St} {a:Act} {w:World} {G:Gh} {I:U3} {N:Nat->Prop} {ops:Array Oper} {l5:List p7}
def Cd.start (h:Cd P names E nt st a w G I N)(X:Cx)(hX:X=⟨P,names,ops⟩){S:Nat->Prop}(hS:∀j,¬ S j){H' :q6}(ext:q6)(hH:H' =st.H++ext)(bm8:∀o,o∈ext->o= .dead){L:List c8}(hL:O L=O l5)(o9:List Touch) :
  Rg X l5 E nt S ⟨st.T,H',L,o9⟩ a w G I N:=by
 subst hX;subst hH;have get:∀(id:Nat) o,(st.H++ext)[id]? =J o->st.H[id]? =J o\/o= .dead:=by
  intro id o ho
  rcases A5 id (O st.H) with hlt|hge
  .grind
  .rw [y3 hge] at ho
   exact Or.inr (bm8 o (List.mem_of_getElem? ho))
 refine ⟨⟨h.T,λj hj=>absurd hj (hS j),λid o ho=>?_,h.wf,λid o ho=>?_⟩,⟨λj _ _ _ _ hj=>absurd hj (hS j),λj _ _ _ _ _ _ hj=>absurd hj (hS j)⟩,λj _ _ hj=>absurd hj (hS j),h.X8,hL,λid hid=>?_,?_,h.size,h.idle⟩
 .rcases get id o ho with h1|rfl
  .exact h.H id o h1
  .simp [OR]
 .rcases get id o ho with h1|rfl
  .exact h.X7 id o h1
  .simp [y6.L7]
 .have:=h.cz id hid;simp;omega
 .have:=h.Jw;simp;omega
theorem Cd.drew (h:Cd P names E nt st a w G I N)(n:Nat)(hn:w.drawn<=n):Cd P names E nt st a { w with drawn:=n } G I N/\bB E st.H w G I N st.H { w with drawn:=n } G I N:=by
 have hx:Ext G w G { w with drawn:=n }:=(Ext.refl G w).drew n hn;have hk:∀pl,cR pl G w G { w with drawn:=n }:=λ_ _ _ h=>⟨h,rfl⟩
 refine ⟨⟨λs t ht=>VR.mono hx (λ_ _=>rfl) (λ_ h=>h) _ _ _ (Or.inr (hk _)) (h.T s t ht),λid o ho=>OR.mono (w:=w) hx.sub (λ_ _=>rfl) (λ_ h=>h) id o (λh=>⟨h,rfl⟩) (λ_=>hk _) (h.H id o ho),h.wf,h.X7,h.X8,h.cz,h.Jw,h.size,h.idle⟩,?_⟩;exact ⟨hx,λid _=>⟨λ_ h=>⟨h,rfl⟩,λ_=>hk _⟩,λ_ _ _=>rfl,λ_ _ h=>h,λ_ _ h=>h,λ_ o _ h=>Or.inr ⟨o,h,l6 _⟩⟩
def Cd.done {X:Cx}(hX:X=⟨P,names,ops⟩){S:Nat->Prop}{r:I9}(h:Rg X l5 E nt S r a w G I N):Cd P names E nt ⟨r.T,r.H⟩ a w G I N:=by
 subst hX;exact ⟨h.ri.T,h.ri.H,h.ri.wf,h.ri.X7,h.X8,h.cz,h.Jw,h.size,h.idle⟩
structure RV (P:Program)(E:Env):Prop where
 cf:qF P E.cf E.prom
 can:∀f args H lm r,E.cf f args H lm=J r->V2 P f=W
 strict:E.lim.strict<=E.lim.base
 base:E.lim.base<=E.entry
def bB.yI {H0 ext H:q6}{w0 w:World}{G0 G:Gh}{I0 I:U3}{N0 N:Nat->Prop}(hb:E.lim.base<=O H0)(h:bB E (H0++ext) w0 G0 I0 N0 H w G I N):bB E H0 w0 G0 I0 N0 H w G I N:=by
 refine ⟨h.ext,h.gj,h.inj,h.mono,h.old,λid o' hid ho=>?_⟩
 rcases h.hle id o' hid ho with h1|⟨o,h1,h2⟩
 all_goals grind
def wZ (hE:RV P E)(hn:mg names=W){draw:Bool}(hc:fF P names nt ops l5 draw=W)(h:Cd P names E nt st a w G I N){r:I9}(hr:T5 E l5 draw st.T st.H=J r)(id:Nat)(Q:Exit->Act->World->Prop)
  (hQ:∀a' w' G' I' N',Rg ⟨P,names,ops⟩ l5 E nt (λj=>j<O l5) r a' w' G' I' N' ->bB E st.H w G I N r.H w' G' I' N' ->Q .normal a' w'):(Code.region id ops draw).wp P Q a w:=by
 have hst:=aF6 hn hc;simp only [fF,c7] at hc;obtain ⟨_,hc⟩:=hc;unfold T5 at hr;cases draw with
 |false =>
  refine wp_region ?_;have hsz:ops.size=O l5:=by
   have:∀(is:List p7) (k:Nat),oS ⟨P,names,ops⟩ is k=W->ops.size=k+O is:=by
    intro is
    induction is with
    |nil=>simp_all [oS]
    |cons i is ih =>
     grind [oS]
   grind
  rw [hsz,List.range_eq_range'];have hR:Rg ⟨P,names,ops⟩ l5 E nt (λj=>j<0) ⟨st.T,st.H,c9 (O l5) .any,[]⟩ a w G I N :=
   h.start _ rfl (λj=>U) [] U U U []
  refine Kk (X:=⟨P,names,ops⟩) hst hE.cf hE.can hE.strict hE.base Q l5 0 U U hc _ a w G I N r hR hr ?_;intro a' w' G' I' N' hf;exact hQ a' w' G' I' N' hf.rg hf.since
 |true =>
  simp only [if_true,c7,decide_eq_true_eq] at hr hc;obtain ⟨⟨cH0,bm1⟩,bW6⟩:=hc;split at hr
  next r' QT hrun=>
   split at hr
   next hok=>
    cases hr;refine wp_region_any bW6 ?_;obtain ⟨h2,aU8⟩:=h.drew (w.drawn+1) (Nat.le_succ _);have hR:Rg ⟨P,names,ops⟩ l5 E nt (λj=>(Array.replicate ops.size F).getD j F=W) ⟨st.T,st.H++aO l5,c9 (O l5) .any,slotsOf l5⟩ a { w with drawn:=w.drawn+1 } G I N :=
     h2.start _ rfl (λj=>by
      simp_all<;>grind) (aO l5) rfl (by
      simp_all [aO]) U (slotsOf l5)
    have bo0:kI l5 ⟨st.T,st.H++aO l5,c9 (O l5) .any,slotsOf l5⟩:=by
     intro k i s hi ha hd;simp_all [Touch.V5,slotsOf]<;>grind
    have hsize:ops.size=O l5:=by
     have:=qK (X:=⟨P,names,ops⟩) l5 0 bm1;simp_all
    obtain ⟨hlen,cC1⟩:=AB (base:=O st.H) l5 0 (O st.H) _ r QT (λk=>QT.getD k ⟨[],[],0,0⟩) U U hrun (λm _=>U);have Zu:eP (O l5) (Array.replicate ops.size F)=List.range' 0 (O l5):=by
     simp_all [eP,List.filter_eq_self,List.range_eq_range']
    have hlt:∀k n,uc l5 (O st.H) k=J n->O st.H<=n/\n<O (st.H++aO l5):=by
     intro k n hk;unfold uc at hk;split at hk
     .split at hk
      .have h1:O ((l5.take (k+1)).filter (·.op.B0))=O ((l5.take k).filter (·.op.B0))+1:=by
        simp_all [List.take_add_one,List.filter_append]
       grind [List.Sublist.length_le,List.Sublist.filter,List.take_sublist,aO]
      .cases hk
     .cases hk
    refine Wf (X:=⟨P,names,ops⟩) (qE:=Qd ops.toList []) (X9:=uc l5 (O st.H)) (lg:=λk=>QT.getD k ⟨[],[],0,0⟩) (fin:=r) hst hE.cf hE.can hE.strict hE.base Q bm1 (λk hk=>?_) (aA6 l5 _) (λk n hk=>?_) (WX hlen hok)
     ops.size (Array.replicate ops.size F) _ a _ G I N hR (by simp [hsize]) ?_ (λk n hk=>(hlt k n hk).2) bo0 (λk n hk _ hN=>?_) M M ?_
    .grind
    .have:=(hlt k n hk).1;have:=h.Jw;omega
    .intro k o hk
     simp_all<;>grind
    .have h1:=h.cz n hN;grind
    .intro a' w' G' I' N' hf
     have hb:E.lim.base<=O st.H:=C9 hE.base h.Jw;exact hQ a' w' G' I' N' hf.rg (aU8.trans (hf.since.yI hb))
   .cases hr
  .cases hr
end
end Go.A1
namespace Go.A1
variable [E5]
section
variable {P:Program} {names:List Tmp} {E:Env} {nt:Nat} {st st' :St} {a:Act} {w:World} {G:Gh} {I:U3} {N:Nat->Prop}
theorem AA:∀(cs:List c8) (k i id sz lo len:Nat),fN cs k=J (i,id,sz,lo,len)->∃j,i=k+j/\cs[j]? =J (.B8 id sz lo len)
 |[],_,_,_,_,_,_,h=>by simp [fN] at h
 |c::cs,k,i,id,sz,lo,len,h=>by
  cases c
  case B8 id' sz' lo' len' =>
   simp_all [fN,Option.some.injEq,Prod.mk.injEq]
  all_goals
   obtain ⟨j,h1,h2⟩:=AA cs (k+1) i id sz lo len (by simp_all [fN]);simp_all<;>grind
def Qt {pl:Place}{v:c8}{d:Data}{x:Value}(hd:v.data? =J d)(h:VR G I N w pl v x):DR G w d x:=by
 have h2:VR G I N w pl v.K7 x:=h.K7;cases v<;>simp [c8.data?] at hd<;>first|cases hd|skip
 all_goals simp_all [c8.K7,VR]
theorem YQ (b:Nat)(aT9:∀o,kA G b o):∀(vs:List c8) (xs:List Data) (o:Nat),P7 vs=J xs->(∀j v,vs[j]? =J v->∃u,w.cell? (ad b (o+j))=J u/\∀d,v.data? =J d->DR G w d u)->gq G w b o xs
 |[],xs,o,h,_=>by simp_all [P7,gq]
 |v::vs,xs,o,h,hv=>by
  unfold P7 at h;cases hd:v.data? with
  |none=>simp_all
  |some d =>
   rw [hd] at h;cases hds:P7 vs with
   |none=>simp_all
   |some ds =>
    rw [hds] at h;cases h;obtain ⟨u,h1,h2⟩:=hv 0 v rfl;refine ⟨aT9 o,⟨u,V,h2 d hd⟩,YQ b aT9 vs ds (o+1) hds λj v' hj=>?_⟩;obtain ⟨u',g1,g2⟩:=hv (j+1) v' M
    grind
def Zk (h:Cd P names E nt st a w G I N){s:Nat}(hr:wG E.lim E.entry s st=J st'):∃G' N',Cd P names E nt st' a w G' I N' /\bB E st.H w G I N st'.H w G' I N' :=by
 unfold wG at hr;split at hr
 next b hT=>
  split at hr
  next cs hb=>
   split at hr
   next i id sz lo len bX4=>
    split at hr
    next vs hvs=>
     split at hr
     next xs hxs=>
      split at hr
      next eH=>
       cases hr;obtain ⟨hbase,QD,hmay,hbb,hne⟩:=eH;obtain ⟨j,hj,hcj⟩:=AA cs 0 i id sz lo len bX4;obtain rfl:i=j:=V
       obtain ⟨old,hold,hlen,bZ2⟩:∃old,st.H[id]? =J (.cells old)/\lo+len * sz<=O old/\vs=(old.drop lo).take (len * sz):=by
        grind [rd]
       have hO:=h.H id _ hold;simp only [OR] at hO;obtain ⟨hN,c,e,f,g1,g2,g3,g4,g5⟩:=hO;have hlt:(I id).1<w.heap.size:=by
        grind
       have aT8:=y5 hold;have hx:Ext G w (kH G (I id).1 .nj) w:=by
        refine ⟨rfl,rfl,rfl,λ_=>l6 _,l6 _,λb' o hi=>⟨?_,rfl⟩,λb' hb' =>⟨?_,rfl⟩,λ_ c _ _ hc=>⟨c,hc,rfl⟩⟩
        all_goals grind [kA,sj,M5]
       have hkp:∀q,cR q G w (kH G (I id).1 .nj) w:=λq b' n hb' =>⟨by grind [M5],rfl⟩
       have QF:∀id',id' ≠id->∀b',G b' = .obj id' ->(kH G (I id).1 .nj) b' = .obj id' /\w.heap[b']? =w.heap[b']? :=λid' hid b' hb' =>⟨by grind [M5],rfl⟩
       have vr:∀{pl:Place} {v:c8} {u:Value},VR G I N w pl v u->VR (kH G (I id).1 .nj) I (λi=>N i/\i≠id) w pl (v.kill id) u :=
        λhv=>VR.mono hx (λ_ _=>rfl) (λ_ h=>h) _ _ _ (Or.inr (hkp _)) (VR.kill id _ _ _ hv)
       have uY:∀(id' :Nat) (o' :y6),(((st.H.take E.lim.base++(st.H.drop E.lim.base).map (y6.kill id)).set id .dead).set b (.cells ((K6 id cs).set i (.d (.slice len xs)))))[id']? =J o' ->
         (id' =b/\o' = .cells ((K6 id cs).set i (.d (.slice len xs))))\/(id' ≠b/\id' =id/\o' = .dead)\/(id' ≠b/\id' ≠id/\id' <E.lim.base/\st.H[id']? =J o')\/(id' ≠b/\id' ≠id/\E.lim.base<=id' /\∃o1,st.H[id']? =J o1/\o' =o1.kill id):=by
        intro id' o' ho'
        by_cases e1:id' =b
        .grind
        .rw [D0 (λe=>e1 e.symm)] at ho'
         grind
       have yO:C5 ((K6 id cs).set i (.d (.slice len xs)))<=C5 cs:=C9 (oQ _ _ _) (fE id cs);refine ⟨kH G (I id).1 .nj,λi=>N i/\i≠id,⟨?_,?_,?_,?_,?_,?_,?_,h.size,h.idle⟩,⟨hx,?_,λ_ _ _=>rfl,?_,λ_ _ hn=>hn.1,?_⟩⟩
       .intro s' t ht
        simp only [yL];exact vr (h.T s' t ht)
       .intro id' o' ho'
        rcases uY id' o' ho' with ⟨rfl,rfl⟩|⟨_,rfl,rfl⟩|⟨e1,e2,e3,e4⟩|⟨e1,e2,e3,o1,e4,rfl⟩
        .have hk:=OR.kill id (λe=>hne e.symm) _ (h.H id' _ hb)
         have hk:=OR.mono hx (λ_ _=>rfl) (λ_ h=>h) id' _ (λhb' =>QF id' (λe=>hne e.symm) _ hb') (λ_=>hkp _) hk;simp only [y6.kill,OR] at hk ⊢;obtain ⟨k0,c2,e2,f2,k1,k2,k3,k4,k5⟩:=hk;refine ⟨k0,c2,e2,f2,k1,k2,k3,by grind,λi' x' hx' =>?_⟩
         by_cases ei:i' =i
         .subst ei
          have Af:i' <O (K6 id cs):=by grind
          rw [N6 Af] at hx';cases hx';have hOb:=h.H id' _ hb;simp only [OR] at hOb;obtain ⟨_,c3,e3,f3,m1,_,_,_,m5⟩:=hOb;rw [k1] at m1;cases m1;obtain ⟨u,u1,u2⟩:=m5 i' _ hcj;refine ⟨u,u1,?_⟩;simp only [VR] at u2 ⊢;obtain ⟨_,cap,rfl,u3,_⟩:=u2;simp only [DR];refine Or.inr ⟨(I id).1,(I id).2+lo,cap,rfl,u3,YQ _ (λo=>by grind [kA,sj]) vs xs _ hxs λj v hj=>?_⟩;subst bZ2;have hj2:j<len * sz/\old[lo+j]? =J v:=by
           grind
          obtain ⟨y,y1,y2⟩:=g5 _ _ hj2.2;refine ⟨y,?_,λd hd=>DR.mono hx.nj _ _ (Qt hd y2)⟩
          grind [World.cell?,O8]
         grind
        .simp [OR]
        .have Zn:=OR.low (n:=E.lim.base) e3 o' ((h.X7 id' o' e4).2 e3) (h.H id' o' e4)
         exact OR.mono hx (λ_ _=>rfl) (λi hi=>⟨hi.1,V⟩) id' o' (λhb' =>QF id' e2 _ hb') (λ_=>hkp _) Zn
        .exact OR.mono hx (λ_ _=>rfl) (λ_ h=>h) id' _ (λhb' =>QF id' e2 _ hb') (λ_=>hkp _) (OR.kill id e2 o1 (h.H id' o1 e4))
       .intro b' hb'
        rw [M5 V];exact h.wf b' hb'
       .intro id' o' ho'
        rcases uY id' o' ho' with ⟨rfl,rfl⟩|⟨_,rfl,rfl⟩|⟨e1,e2,e3,e4⟩|⟨e1,e2,e3,o1,e4,rfl⟩
        .obtain ⟨d1,d2⟩:=h.X7 id' _ hb
         grind [y6.L7,C9]
        .simp_all [y6.L7]
        .exact h.X7 id' o' e4
        .obtain ⟨d1,d2⟩:=h.X7 id' o1 e4
         grind [Hs,C9]
       .rw [U1];exact h.X8
       .intro id' hn
        have:=h.cz id' hn.1
        grind
       .grind
       .intro id' hm
        grind
       all_goals grind
      .cases hr
     .cases hr
    .cases hr
   .cases hr
  .cases hr
 .cases hr
def FU (E:Env)(H:q6)(w:World)(G:Gh)(I:U3)(N:Nat->Prop)(H' :q6)(w' :World)(G' :Gh)(I' :U3)(N' :Nat->Prop):Prop :=
 ∀H0 w0 G0 I0 N0,(E.entry=0->∀b n pl,G0 b≠ .grow n pl)->bB E H0 w0 G0 I0 N0 H w G I N->bB E H0 w0 G0 I0 N0 H' w' G' I' N'
def bB.trn {E:Env}{H H' :q6}{w w' :World}{G G' :Gh}{I I' :U3}{N N' :Nat->Prop}(h:bB E H w G I N H' w' G' I' N'):FU E H w G I N H' w' G' I' N' :=
 λ_ _ _ _ _ _ h0=>h0.trans h
theorem FU.refl (E:Env)(H:q6)(w:World)(G:Gh)(I:U3)(N:Nat->Prop):FU E H w G I N H w G I N:=λ_ _ _ _ _ _ h=>h
theorem FU.trans {E:Env}{H0 H1 H2:q6}{w0 w1 w2:World}{G0 G1 G2:Gh}{I0 I1 I2:U3}{N0 N1 N2:Nat->Prop}
  (h:FU E H0 w0 G0 I0 N0 H1 w1 G1 I1 N1) (k:FU E H1 w1 G1 I1 N1 H2 w2 G2 I2 N2):FU E H0 w0 G0 I0 N0 H2 w2 G2 I2 N2 :=
 λH w G I N hg hs=>k H w G I N hg (h H w G I N hg hs)
theorem fL:∀l:List c8,O (T8 l)=O l
 |[]=>rfl
 |_::l=>by simp [T8,fL l]
theorem qU:∀(l:List c8) (i:Nat),(T8 l)[i]? =(l[i]?).map c8.forget
 |[],_=>by rfl
 |_::_,0=>by rfl
 |_::l,i+1=>by simpa [T8] using qU l i
def Ad (l:List c8)(s:Nat):(T8 l).getD s .any=(l.getD s .any).forget:=by
 grind [qU,c8.forget]
section
variable {G' :Gh} {I' :U3} {N' :Nat->Prop}
mutual
theorem VR.forget (hI:∀id,N id->I' id=I id)(hN:∀id,N id->N' id):∀(pl:Place) (v:c8) (u:Value),VR G I N w pl v u->VR G' I' N' w pl v.forget u
 |_,.any,_,_=>by simp [c8.forget,VR]
 |_,.d x,_,h=>by
  cases x
  case slice n cells =>
   cases cells with
   |nil =>
    simp_all [c8.forget,VR,DR,gq]
   |cons c cs=>simp [c8.forget,VR]
  all_goals simp_all [c8.forget,VR,DR]
 |_,.ptr id off,_,h=>by
  simp_all [c8.forget,VR]
 |_,.U9 _,_,_=>by simp [c8.forget,VR]
 |_,.B8 id sz lo len,_,h=>by
  simp_all [c8.forget,VR]
 |_,.own _ _ _,_,_=>by simp [c8.forget,VR]
 |_,.P9,_,h=>by simp_all [c8.forget,VR]
 |_,.agg l,_,h=>by
  obtain ⟨cs,h1,h2⟩:=h;exact ⟨cs,h1,L3.forget hI hN l _ h2⟩
 |_,.tuple l,_,h=>by
  obtain ⟨cs,h1,h2⟩:=h;exact ⟨cs,h1,L3.forget hI hN l _ h2⟩
 |_,.func f a b,_,h=>by
  obtain ⟨x,y,h1,h2,h3⟩:=h;exact ⟨x,y,h1,L3.forget hI hN a _ h2,L3.forget hI hN b _ h3⟩
 |_,.map id,_,h=>by
  simp_all [c8.forget,VR]
theorem L3.forget (hI:∀id,N id->I' id=I id)(hN:∀id,N id->N' id):∀(l:List c8) (vs:List Value),L3 G I N w l vs->L3 G' I' N' w (T8 l) vs
 |[],_,h=>by grind [T8,L3]
 |a::as,vs,h=>by
  obtain ⟨x,xs,h1,h2,h3⟩:=h;exact ⟨x,xs,h1,VR.forget hI hN .none a x h2,L3.forget hI hN as xs h3⟩
end
theorem ER.forget (hI:∀id,N id->I' id=I id)(hN:∀id,N id->N' id):∀(l:List (Key×c8)) (es:List MapEntry),ER G I N w l es->ER G' I' N' w (l.map λp=>(p.1,p.2.forget)) es
 |[],_,h=>by grind [ER]
 |(k,v)::r,es,h=>by
  obtain ⟨e,es',h1,h2,h3,h4⟩:=h;exact ⟨e,es',h1,h2,VR.forget hI hN _ _ _ h3,ER.forget hI hN r es' h4⟩
theorem OR.forget (hI:∀id,N id->I' id=I id)(hN:∀id,N id->N' id)(hG:∀b id,G b= .obj id->G' b= .obj id)(id:Nat)(o:y6)(h:OR G I N w id o):OR G' I' N' w id o.forget:=by
 cases o with
 |dead=>simp [y6.forget,OR]
 |cells l =>
  simp [y6.forget,OR] at h ⊢
  grind [fL,qU,VR.forget]
 |map es =>
  grind [y6.forget,OR,ER.forget]
end
theorem As:∀(cs:List c8) (k i sz len:Nat) (xs:List Data),Ar cs k=J (i,sz,len,xs)->∃j,i=k+j/\cs[j]? =J (.own sz len xs)
 |[],_,_,_,_,_,h=>by simp [Ar] at h
 |c::cs,k,i,sz,len,xs,h=>by
  cases c
  case own sz' len' xs' =>
   simp_all [Ar,Option.some.injEq,Prod.mk.injEq]
  all_goals
   obtain ⟨j,h1,h2⟩:=As cs (k+1) i sz len xs (by simp_all [Ar]);simp_all<;>grind
theorem Ju {b:Nat}:∀(xs:List Data) (o i:Nat) (d:Data),gq G w b o xs->xs[i]? =J d->∃x,w.cell? (ad b (o+i))=J x/\DR G w d x
 |[],_,_,_,_,h=>by simp at h
 |c::cs,o,0,d,hd,h=>by
  simp_all [gq]
 |c::cs,o,i+1,d,hd,h=>by
  obtain ⟨x,h1,h2⟩:=Ju cs (o+1) i d hd.2.2 (by simpa using h)
  grind
def Sy {G' :Gh}{d:Data}{x:Value}(hf:d.flat=W)(h:DR G w d x):DR G' w d x:=by
 cases d
 case slice n cs=>simp [Data.flat] at hf
 all_goals simp_all [DR]
def ak8 (_h:Cd P names E nt st a w G I N){b2 n2 m:Nat}{pl2:Place}(cu9:b2<w.heap.size)(k6:G b2= .grow n2 pl2)(hG:∀b' id,G b' = .obj id->kH G b2 (.obj m) b' = .obj id)(QD:E.entry=0)(hbase:E.lim.base=0){H' :q6}{I' :U3}{N' :Nat->Prop} :
  FU E st.H w G I N H' w (kH G b2 (.obj m)) I' N' :=by
 intro H0 w0 G0 I0 N0 hg hs;have hne:∀b',(kA G0 b' =kA G0 b')/\((G0 b' = .nj\/∃n,G0 b' = .held n)->b' ≠b2):=λb' =>⟨rfl,λhi e=>by
  subst e;have:=(hs.ext.still b' hi).1;simp_all⟩
 have aT9:∀b' o',kA G0 b' o' ->G0 b' = .nj\/∃n,G0 b' = .held n:=λb' o' hi=>by
  grind [kA,absurd]
 refine ⟨⟨hs.ext.os,hs.ext.tape,hs.ext.output,hs.ext.drawn,hs.ext.size,λb' o' hi=>?_,λb' hi=>?_,hs.ext.shape⟩,?_,?_,?_,?_,?_⟩
 .obtain ⟨q1,q2⟩:=hs.ext.nj b' o' hi
  grind [kA,M5]
 .obtain ⟨q1,q2⟩:=hs.ext.still b' hi
  simp_all [M5]
 .intro id hm
  obtain ⟨p1,p2⟩:=hs.gj id hm;refine ⟨λb' hb' =>?_,λoff b' n hb' =>absurd hb' (hg QD _ _ _)⟩;simp_all
 all_goals omega
def aS3 (hbase:E.lim.base=0){H' :q6}:FU E st.H w G I N H' w G I N:=λ_ _ _ _ _ _ hs=>⟨hs.ext,hs.gj,hs.inj,hs.mono,hs.old,λid o' hlt=>V⟩
def ak7 (h:Cd P names E nt st a w G I N){s:Nat}(hr:NY E.lim E.entry s st=J st'):∃G' I' N',Cd P names E nt st' a w G' I' N' /\FU E st.H w G I N st'.H w G' I' N' :=by
 unfold NY at hr;split at hr
 next b hT=>
  split at hr
  next cs hb=>
   split at hr
   next i sz len xs how=>
    split at hr
    .cases hr
     exact ⟨G,I,N,h,FU.refl _ _ _ _ _ _⟩
    split at hr
    next hl0 eH=>
     cases hr;obtain ⟨QD,hbase,Zw,SL⟩:=eH;obtain ⟨j,hj,hcj⟩:=As cs 0 i sz len xs how;obtain rfl:i=j:=V
     have hO:=h.H b _ hb;simp only [OR] at hO;obtain ⟨hN,c,e,f,g1,g2,g3,g4,g5⟩:=hO;obtain ⟨v,v1,v2⟩:=g5 i _ hcj;simp only [VR] at v2;obtain ⟨hlen,v2⟩:=v2
     rcases v2 with ⟨_,v2⟩|⟨_,b2,o,cap,c2,e2,f2,rfl,k2,k3,k4,k5,k6,k7⟩
     .exact absurd v2 hl0
     have hb2:b2<w.heap.size:=by
      rcases A5 b2 w.heap.size with h|h
      .exact h
      .rw [Array.getElem?_eq_none h] at k3;cases k3
     have hbl:=y5 hb;have hI:∀id,N id->(λk=>if k=O st.H then (b2,o) else I k) id=I id:=λid hid=>by
      have:=h.cz id hid;simp only;rw [if_neg V]
     have hN' :∀id,N id->(λk=>N k\/k=O st.H) id:=λid hid=> .inl hid
     have hG:∀b' id,G b' = .obj id->kH G b2 (.obj (O st.H)) b' = .obj id:=λb' id hb' =>by
      rw [M5 (by rintro rfl;rw [k6] at hb';cases hb')];exact hb'
     have uY:∀(id' :Nat) (o' :y6),((st.H.map y6.forget).set b (.cells ((T8 cs).set i (.B8 (O st.H) sz 0 len)))++[.cells (xs.map .d)])[id']? =J o' ->
       (id' =b/\o' = .cells ((T8 cs).set i (.B8 (O st.H) sz 0 len)))\/(id' ≠b/\∃o1,st.H[id']? =J o1/\o' =o1.forget)\/(id' =O st.H/\o' = .cells (xs.map .d)):=by
      intro id' o' ho'
      rcases A5 id' (O st.H) with hlt|hge
      .rw [B9 (by simpa using hlt)] at ho'
       by_cases e1:id' =b
       .subst e1
        rw [N6 (by simpa using hlt)] at ho';cases ho';exact .inl ⟨rfl,rfl⟩
       .rw [D0 (λe=>e1 e.symm),List.getElem?_map] at ho'
        cases h1:st.H[id']? with
        |none=>rw [h1] at ho';cases ho'
        |some o1 =>
         rw [h1] at ho';cases ho';exact .inr (.inl ⟨e1,o1,rfl,rfl⟩)
      .rw [y3 (by simpa using hge)] at ho'
       have h0:id' - O ((st.H.map y6.forget).set b (.cells ((T8 cs).set i (.B8 (O st.H) sz 0 len))))=0:=by
        have:=y5 ho';simp only [List.length_singleton] at this;omega
       rw [h0] at ho';simp only [List.length_set,A7] at h0;simp only [List.getElem?_cons_zero,Option.some.injEq] at ho';exact .inr (.inr ⟨V,ho'.symm⟩)
     have bp1:VR (kH G b2 (.obj (O st.H))) (λk=>if k=O st.H then (b2,o) else I k) (λk=>N k\/k=O st.H) w (.cell b i) (.B8 (O st.H) sz 0 len) (.slice (J (ad b2 o)) len cap):=by
      simp only [VR,if_true,Nat.add_zero];exact ⟨.inr trivial,cap,rfl,k2,c2,e2,f2,k3,k4⟩
     refine ⟨kH G b2 (.obj (O st.H)),λk=>if k=O st.H then (b2,o) else I k,λk=>N k\/k=O st.H,⟨?_,?_,?_,?_,?_,?_,?_,h.size,h.idle⟩,?_⟩
     .intro s' t ht
      simp only [Ad];exact VR.forget hI hN' _ _ _ (h.T s' t ht)
     .intro id' o' ho'
      rcases uY id' o' ho' with ⟨rfl,rfl⟩|⟨_,o1,h1,rfl⟩|⟨rfl,rfl⟩
      .have hk:=OR.forget hI hN' hG id' _ (h.H id' _ hb)
       simp only [y6.forget,OR] at hk ⊢;obtain ⟨q0,c3,e3,f3,q1,q2,q3,q4,q5⟩:=hk;refine ⟨q0,c3,e3,f3,q1,q2,q3,by simpa using q4,λi' x' hx' =>?_⟩
       by_cases ei:i' =i
       .subst ei
        rw [N6 (by rw [fL];exact y5 hcj)] at hx';cases hx';rw [if_neg V,g1] at q1;cases q1;refine ⟨_,?_,bp1⟩;rw [if_neg V];exact v1
       .rw [D0 (λe=>ei e.symm)] at hx'
        exact q5 i' x' hx'
      .exact OR.forget hI hN' hG id' _ (h.H id' o1 h1)
      .simp only [OR,if_true]
       refine ⟨.inr trivial,c2,e2,f2,k3,sj _ _ _,k5,?_,λi' x' hx' =>?_⟩
       .have:=Nat.mul_le_mul_right sz k2
        rw [A7,hlen];omega
       .rw [List.getElem?_map] at hx'
        cases hd:xs[i']? with
        |none=>rw [hd] at hx';cases hx'
        |some d =>
         rw [hd] at hx';cases hx';obtain ⟨x,x1,x2⟩:=Ju xs o i' d k7 hd;refine ⟨x,?_,?_⟩
         .simp only [World.cell?,k3] at x1
          simpa using x1
         .simp only [VR]
          exact Sy (M1.1 SL d (List.mem_of_getElem? hd)) x2
     .intro b' hb'
      rw [M5 V];exact h.wf b' hb'
     .intro id' o' ho'
      exact ⟨λhh=>V,λhh=>V⟩
     .rw [fL];exact h.X8
     .intro id' hn
      rcases hn with hn|rfl
      .have:=h.cz id' hn
       simp;omega
      .simp
     .have:=h.Jw
      simp;omega
     .exact ak8 h hb2 k6 hG QD hbase
    .cases hr
   .cases hr
  .cases hr
 next sz len xs hT=>
  split at hr
  .cases hr
   exact ⟨G,I,N,h,FU.refl _ _ _ _ _ _⟩
  split at hr
  next hl0 eH=>
   cases hr;obtain ⟨QD,hbase,Zw,SL⟩:=eH;have vN:=y5 hT;have hlt:=h.X8;obtain ⟨t,ht⟩:∃t,names[s]? =J t:=⟨_,o6 V⟩;have v2:=h.T s t ht;rw [List.getD_eq_getElem?_getD,hT,Option.getD_some] at v2;simp only [VR] at v2;obtain ⟨hlen,v2⟩:=v2
   rcases v2 with ⟨_,v2⟩|⟨_,b2,o,cap,c2,e2,f2,hv,k2,k3,k4,k5,k6,k7⟩
   .exact absurd v2 hl0
   have hb2:b2<w.heap.size:=by
    rcases A5 b2 w.heap.size with h|h
    .exact h
    .rw [Array.getElem?_eq_none h] at k3;cases k3
   have hI:∀id,N id->(λk=>if k=O st.H then (b2,o) else I k) id=I id:=λid hid=>by
    have:=h.cz id hid;simp only;rw [if_neg V]
   have hN' :∀id,N id->(λk=>N k\/k=O st.H) id:=λid hid=> .inl hid
   have hG:∀b' id,G b' = .obj id->kH G b2 (.obj (O st.H)) b' = .obj id:=λb' id hb' =>by
    rw [M5 (by rintro rfl;rw [k6] at hb';cases hb')];exact hb'
   refine ⟨kH G b2 (.obj (O st.H)),λk=>if k=O st.H then (b2,o) else I k,λk=>N k\/k=O st.H,⟨?_,?_,?_,?_,?_,?_,?_,h.size,h.idle⟩,ak8 h hb2 k6 hG QD hbase⟩
   .intro s' t' ht'
    by_cases e:s' =s
    .subst e
     rw [ht] at ht';cases ht';rw [List.getD_eq_getElem?_getD,N6 (by rw [fL];exact vN),Option.getD_some,hv];simp only [VR,if_true,Nat.add_zero];exact ⟨.inr trivial,cap,rfl,k2,c2,e2,f2,k3,k4⟩
    .rw [List.getD_eq_getElem?_getD,D0 (λh=>e h.symm),<- List.getD_eq_getElem?_getD,Ad]
     exact VR.forget hI hN' _ _ _ (h.T s' t' ht')
   .intro id' o' ho'
    rcases A5 id' (O st.H) with hlt' |hge
    .rw [B9 (by simpa using hlt'),List.getElem?_map] at ho'
     cases h1:st.H[id']? with
     |none=>rw [h1] at ho';cases ho'
     |some o1 =>
      rw [h1] at ho';cases ho';exact OR.forget hI hN' hG id' _ (h.H id' o1 h1)
    .rw [y3 (by simpa using hge)] at ho'
     have h0:id' - O (st.H.map y6.forget)=0:=by
      have:=y5 ho';simp only [List.length_singleton] at this;omega
     rw [h0] at ho';simp only [A7] at h0;simp only [List.getElem?_cons_zero,Option.some.injEq] at ho';obtain rfl:id' =O st.H:=V
     subst ho';simp only [OR,if_true];refine ⟨.inr trivial,c2,e2,f2,k3,sj _ _ _,k5,?_,λi' x' hx' =>?_⟩
     .have:=Nat.mul_le_mul_right sz k2
      rw [A7,hlen];omega
     .rw [List.getElem?_map] at hx'
      cases hd:xs[i']? with
      |none=>rw [hd] at hx';cases hx'
      |some d =>
       rw [hd] at hx';cases hx';obtain ⟨x,x1,x2⟩:=Ju xs o i' d k7 hd;refine ⟨x,?_,?_⟩
       .simp only [World.cell?,k3] at x1
        simpa using x1
       .simp only [VR]
        exact Sy (M1.1 SL d (List.mem_of_getElem? hd)) x2
   .intro b' hb'
    rw [M5 V];exact h.wf b' hb'
   .intro id' o' ho'
    exact ⟨λhh=>V,λhh=>V⟩
   .rw [List.length_set,fL];exact h.X8
   .intro id' hn
    rcases hn with hn|rfl
    .have:=h.cz id' hn
     simp;omega
    .simp
   .have:=h.Jw
    simp;omega
  .cases hr
 .split at hr
  next hc=>
   cases hr;obtain ⟨_,hb,hst⟩:=hc;refine ⟨G,I,N,⟨h.T,λid' o' ho' =>?_,h.wf,λid' o' ho' =>⟨λhh=>V,λhh=>V⟩,h.X8,λid' hn=>?_,?_,h.size,h.idle⟩,aS3 hb⟩
   .rcases A5 id' (O st.H) with hlt|hge
    .rw [B9 hlt] at ho'
     exact h.H id' o' ho'
    .rw [y3 hge] at ho'
     have:=List.mem_of_getElem? ho';rw [q8] at this;subst this;simp only [OR]
   .have:=h.cz id' hn
    simp;omega
   .have:=h.Jw
    simp;omega
  .cases hr
 .cases hr
def aS7 (h:Cd P names E nt st a w G I N){s:Nat}(hr:pE E.lim E.entry s st=J st'):∃G' I' N',Cd P names E nt st' a w G' I' N' /\FU E st.H w G I N st'.H w G' I' N' :=by
 unfold pE at hr;split at hr
 next r h1=>
  cases hr;obtain ⟨G',N',h2,h3⟩:=Zk h h1;exact ⟨G',I,N',h2,h3.trn⟩
 .exact ak7 h hr
end
end Go.A1


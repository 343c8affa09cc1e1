import Derived.Test.YtibjocmpkoepoaaGreatB0
import Derived.Orders
set_option linter.all false
open Bool renaming and_eq_true→c8,eq_false_or_eq_true→C9,false_eq_true→e8,not_eq_true'→o8,or_eq_false_iff→E5,true→W,false→F
open List renaming all_eq_true→L4,append_assoc→M3,getElem?_append_left→s8,getElem?_append_right→q9,getElem?_eq_getElem→n5,getElem?_set_ne→q8,getElem?_set_self→C7,getElem_of_mem→O8,length_append→s9,length_cons→q7,length_map→C5,length_nil→I8,map_cons→M8,mem_cons→C4,mem_singleton→y3,pairwise_cons→N6,replicate→c9,set_cons_succ→A8,length→O
open Nat renaming add_assoc→M9,le_refl→o6,le_trans→A3,lt_or_ge→x9,mul_le_mul_right→K4,zero_le→A4
open Option renaming map_some→C6,some→J,none→K
namespace Go.B3
variable [E0]
mutual
theorem VR.kill {G:Gh}{I:T0}{N:Nat->Prop}{w:World}(id:Nat):∀(pl:Place) (a:c7) (x:Value),VR G I N w pl a x->VR G I (λi=>N i/\i≠id) w pl (a.kill id) x
 |_,.any,_,_=>by simp [c7.kill,VR]
 |_,.d _,_,h=>by grind [c7.kill,VR]
 |_,.ptr i o,x,h=>by
  grind [c7.kill,VR]
 |_,.U2 _,_,h=>by grind [c7.kill,VR]
 |_,.s5 i z lo n,x,h=>by
  grind [c7.kill,VR]
 |_,.own _ _ _,_,h=>by simp_all [c7.kill,VR]
 |_,.H7,_,h=>by simp_all [c7.kill,VR]
 |_,.agg l,x,h=>by
  obtain ⟨cs,h1,h2⟩:=h;exact ⟨cs,h1,J5.kill id l _ h2⟩
 |_,.tuple l,x,h=>by
  obtain ⟨cs,h1,h2⟩:=h;exact ⟨cs,h1,J5.kill id l _ h2⟩
 |_,.func f a b,x,h=>by
  obtain ⟨u,v,h1,h2,h3⟩:=h;exact ⟨u,v,h1,J5.kill id a _ h2,J5.kill id b _ h3⟩
 |_,.map i,x,h=>by
  grind [c7.kill,VR]
theorem J5.kill {G:Gh}{I:T0}{N:Nat->Prop}{w:World}(id:Nat):∀(l:List c7) (xs:List Value),J5 G I N w l xs->J5 G I (λi=>N i/\i≠id) w (K1 id l) xs
 |[],_,h=>by grind [K1,J5]
 |a::as,xs,h=>by
  obtain ⟨x,xs',h1,h2,h3⟩:=h;exact ⟨x,xs',h1,VR.kill id _ a x h2,J5.kill id as xs' h3⟩
end
mutual
theorem VR.low {G:Gh}{I:T0}{N:Nat->Prop}{w:World}(n:Nat):∀(pl:Place) (a:c7) (x:Value),a.K9<=n->VR G I N w pl a x->VR G I (λi=>N i/\i<n) w pl a x
 |_,.any,_,_,_=>by simp [VR]
 |_,.d _,_,_,h=>by grind [VR]
 |_,.ptr i o,x,hb,h=>by grind [c7.K9,VR]
 |_,.U2 _,_,_,h=>by grind [VR]
 |_,.s5 i z lo n',x,hb,h=>by grind [c7.K9,VR]
 |_,.own _ _ _,_,_,h=>by simp_all [VR]
 |_,.H7,_,_,h=>by simp_all [VR]
 |_,.agg l,x,hb,h=>by
  obtain ⟨cs,h1,h2⟩:=h;exact ⟨cs,h1,J5.low n l _ hb h2⟩
 |_,.tuple l,x,hb,h=>by
  obtain ⟨cs,h1,h2⟩:=h;exact ⟨cs,h1,J5.low n l _ hb h2⟩
 |_,.func f a b,x,hb,h=>by
  simp [c7.K9] at hb;obtain ⟨u,v,h1,h2,h3⟩:=h;exact ⟨u,v,h1,J5.low n a _ V h2,J5.low n b _ V h3⟩
 |_,.map i,x,hb,h=>by grind [c7.K9,VR]
theorem J5.low {G:Gh}{I:T0}{N:Nat->Prop}{w:World}(n:Nat):∀(l:List c7) (xs:List Value),C0 l<=n->J5 G I N w l xs->J5 G I (λi=>N i/\i<n) w l xs
 |[],_,_,h=>by grind [J5]
 |a::as,xs,hb,h=>by
  simp [C0] at hb;obtain ⟨x,xs',h1,h2,h3⟩:=h;exact ⟨x,xs',h1,VR.low n _ a x V h2,J5.low n as xs' V h3⟩
end
section
variable {P:Program} {X:Cx} {l:H8} {S:Nat->Prop} {st:G4} {a:Act} {w w' :World} {G:Gh} {I:T0} {N:Nat->Prop} {f9:Nat->Bool} {j9:List o4}
theorem ER.kill id:∀ es xs,ER G I N w es xs->ER G I (λi=>N i/\i≠id) w (es.map λp=>(p.1,p.2.kill id)) xs
 |[],_,h=>by grind [ER]
 |(k,v)::r,xs,h=>by
  obtain ⟨e,es',h1,h2,h3,h4⟩:=h;exact ⟨e,es',h1,h2,VR.kill id _ v _ h3,ER.kill id r es' h4⟩
theorem ER.low n:∀ es xs,C0 (es.map (·.2))<=n->ER G I N w es xs->ER G I (λi=>N i/\i<n) w es xs
 |[],_,_,h=>by grind [ER]
 |(k,v)::r,xs,hb,h=>by
  simp [M8,C0] at hb;obtain ⟨e,es',h1,h2,h3,h4⟩:=h;exact ⟨e,es',h1,h2,VR.low n _ v _ V h3,ER.low n r es' V h4⟩
theorem iI id:∀ l (i:Nat),(K1 id l)[i]? =(l[i]?).map (c7.kill id)
 |[],i=>by simp [K1]
 |v::vs,0=>by simp [K1]
 |v::vs,i+1=>by simp [K1,iI id vs i]
theorem S9 id l:O (K1 id l)=O l:=by
 induction l with
 |nil=>rfl
 |cons v vs ih=>simp [K1,ih]
def xB id l i:(K1 id l).getD i .any=(l.getD i .any).kill id:=by
 grind [List.getD,iI,c7.kill]
mutual
theorem Ks (id:Nat):∀(a:c7),(a.kill id).K9<=a.K9
 | .any=>by simp [c7.kill]
 | .d _=>by simp [c7.kill]
 | .ptr i o=>by grind [c7.kill,c7.K9]
 | .U2 _=>by simp [c7.kill]
 | .s5 i z lo n=>by grind [c7.kill,c7.K9]
 | .own _ _ _=>by simp [c7.kill]
 | .H7=>by simp [c7.kill]
 | .agg l=>by exact fu id l
 | .tuple l=>by exact fu id l
 | .func f a b=>by
  simp [c7.kill,c7.K9];have:=fu id a;have:=fu id b;omega
 | .map i=>by grind [c7.kill,c7.K9]
theorem fu (id:Nat):∀(l:List c7),C0 (K1 id l)<=C0 l
 |[]=>by simp [K1]
 |v::vs=>by
  simp [K1,C0];have:=Ks id v;have:=fu id vs;omega
end
theorem Fv id:∀(es:List (Key×c7)),C0 ((es.map λp=>(p.1,p.2.kill id)).map (·.2))<=C0 (es.map (·.2))
 |[]=>U
 |(k,v)::r=>by
  simp only [M8,C0];have:=Ks id v;have:=Fv id r;omega
theorem Gf id(o:B4):(o.kill id).K9<=o.K9:=by
 cases o with
 |dead=>simp [B4.kill]
 |cells l=>simp_all [B4.kill,B4.K9,fu]
 |map es=>simpa only [B4.kill,B4.K9] using Fv id es
theorem OR.kill id{id'}(hne:id' ≠id) o(h:OR G I N w id' o):OR G I (λi=>N i/\i≠id) w id' (o.kill id):=by
 cases o with
 |dead=>simp [B4.kill,OR]
 |cells l0 =>
  grind [B4.kill,OR,S9,iI,VR.kill]
 |map es =>
  obtain ⟨hN,arr,gO,h1,h2,h3,h4⟩:=h;exact ⟨⟨hN,hne⟩,arr,gO,h1,h2,ER.kill id es _ h3,h4⟩
theorem ql:∀ l (i:Nat) x,l[i]? =J x->x.K9<=C0 l
 |[],_,_,h=>by simp at h
 |v::vs,0,x,h=>by grind [C0]
 |v::vs,i+1,x,h=>by have:=ql vs i x (by simpa using h);grind [C0]
theorem OR.low {id n}(hn:id<n) o(hb:o.K9<=n)(h:OR G I N w id o):OR G I (λi=>N i/\i<n) w id o:=by
 cases o with
 |dead=>simp [OR]
 |cells l0 =>
  obtain ⟨hN,c,e,f,h1,h2,h3,h4,h5⟩:=h
  .refine ⟨⟨hN,hn⟩,c,e,f,h1,h2,h3,h4,λi x hx=>?_⟩
   obtain ⟨v,g1,g2⟩:=h5 i x hx;exact ⟨v,g1,VR.low n _ x v (by exact A3 (ql _ _ _ hx) hb) g2⟩
 |map es =>
  grind [OR,ER.low,B4.K9]
end
end Go.B3
namespace Go.B3
variable [E0]
section
variable {P:Program} {X:Cx} {l:H8} {S:Nat->Prop} {st:G4} {a:Act} {w w' :World} {G G' :Gh} {I I' :T0} {N:Nat->Prop} {f9:Nat->Bool} {j9:List o4}
def sE (H:n9)(base id:Nat)(o:B4):n9:=(H.take base++(H.drop base).map (B4.kill id)).set id o
def yW {H:n9}{base id o}(hid:id<O H){id' o'}(h:(sE H base id o)[id']? =J o') :
  (id' =id/\o' =o)\/(id' ≠id/\id' <base/\H[id']? =J o')\/(id' ≠id/\base<=id' /\∃o0,H[id']? =J o0/\o' =o0.kill id):=by
 unfold sE at h;have hlen:O (H.take base++(H.drop base).map (B4.kill id))=O H:=D
 by_cases he:id' =id
 .simp_all
 .by_cases hb:id' <base
  .grind
  .by_cases hl:base<=O H
   .grind
   grind
def cB.Yi (h:RI X l S st a w G I N){k}(hk:¬ S k)(br:k<O st.L){entry id o0}(h0:st.H[id]? =J o0)(hbase:l.base<=id)(Pd:entry<=id)(hmay:l.may id=W)
  (hx:Ext G w G' w') (hkp:∀q,bI q G w G' w') (ho:∀id',id' ≠id->∀b,G b= .obj id' ->G' b= .obj id' /\w'.heap[b]? =w.heap[b]?) (hwf:WF G' w') (hI:∀i,i≠id->I' i=I i)
  {cs} (UX:OR G' I' N w' id (.cells cs)) (xE:C0 cs<=max o0.K9 (id+1)) {v x} (hv:VR G' I' N w' (.loc k) v x) o5 (Pj:o5.any (Touch.G8 id)=W) :
  cB X l S entry st a w G I N (put { T:=K1 id st.T,H:=sE st.H l.base id (.cells cs),L:=K1 id st.L,o5 } k v) k x w' G' I' N:=by
 have hid:=y9 h0;have hI' :∀i,(N i/\i≠id)->I' i=I i:=λi hi=>hI i hi.2
 have hNN:∀i,(N i/\i≠id)->N i:=λi hi=>hi.1
 have vr:∀{pl:Place} {b:c7} {u:Value},VR G I N w pl b u->VR G' I' N w' pl (b.kill id) u :=
  λhb=>VR.mono hx hI' hNN _ _ _ (Or.inr (hkp _)) (VR.kill id _ _ _ hb)
 refine ⟨⟨?_,?_,?_,hwf,?_⟩,?_,hx,?_,?_,?_,λ_ h=>h,?_,?_⟩
 .intro s t ht
  simp only [B3.put,xB];exact vr (h.T s t ht)
 .intro j hj d hd hn
  have:k≠j:=by grind
  simp only [B3.put];rw [P0 _ _ _ _ _ this,xB];exact vr (h.L j hj d hd hn)
 .intro id' o' ho'
  rcases yW hid ho' with ⟨rfl,rfl⟩|⟨hne,hb,hold⟩|⟨hne,hb,o1,hold,rfl⟩
  .exact UX
  .have XN:=OR.low (n:=l.base) hb o' ((h.W9 id' o' hold).2 hb) (h.H id' o' hold)
   exact OR.mono hx (λi hi=>hI i V) (λi hi=>hi.1) id' o' (λhb' =>ho id' hne _ hb') (λ_=>hkp _) XN
  .exact OR.mono hx hI' hNN id' _ (λhb' =>ho id' hne _ hb') (λ_=>hkp _) (OR.kill id hne o1 (h.H id' o1 hold))
 .intro id' o' ho'
  rcases yW hid ho' with ⟨rfl,rfl⟩|⟨hne,hb,hold⟩|⟨hne,hb,o1,hold,rfl⟩
  .obtain ⟨d1,d2⟩:=h.W9 id' o0 h0
   grind [B4.K9]
  .exact h.W9 id' o' hold
  .obtain ⟨d1,d2⟩:=h.W9 id' o1 hold
   grind [Gf]
 .simp_all [B3.put,O3,S9]
 .intro id' hm
  grind
 .grind [B3.put]
 all_goals grind [B3.put,sE]
def yZ {cs vs}(h:cs.all c7.one=W)(hv:J5 G I N w cs vs):Ff vs:=oL _ _ h hv
def ES (h:RI X l S st a w G I N)(hD:∀j,f9 j=W->S j){k}(hk:¬ S k)(br:k<O st.L){o sz bytes ob x y}
  (hc:fA P (X.ck f9) o (.append sz bytes ob x y)=W) {E} (hE:E.lim=l) {id lo len} (hx:G5 st.T st.L x= .s5 id sz lo len) {st'} (he:U8 E k sz bytes st id lo len (G5 st.T st.L y)=J st') :
  ∃v w' G' I',(execOp a.eval o).run P w= .ok (.value v) w' /\cB X l S E.entry st a w G I N st' k v w' G' I' N:=by
 obtain ⟨x0,y0,t,t2,e,i,z,hop,Ri,hcy,ht2,hsz,hu,hi,hsi,XK,hz,hzs,hbp⟩:=eP hc;unfold U8 at he;rw [hE] at he;split at he
 next aU=>
  split at he
  next l0 m cs hl0 hcs=>
   split at he
   next Pc=>
    obtain ⟨rfl,hlen,hroom,aY6,hone,_⟩:=Pc;cases he;obtain ⟨vn,hl,hf,Ws,hcl⟩:=sM (P:=P) h.H (h.R4 hD _ _ hcy) hsz hcs;have hval:=h.R4 hD _ _ Ri;rw [hx] at hval;simp only [VR] at hval;obtain ⟨XI,cap,hx0,hcap,c,e',f,hb,Rf⟩:=hval;have vA:(execOp a.eval o).run P w=((Builtin.append_ #[t,t2] o.type #[a.eval x0,a.eval y0]).run P w).andThen λv w' => .ok (.value v) w' :=by
     obtain ⟨dst,er,ty,pos,after,guard⟩:=o;simp only at hop;subst hop;simp [execOp,resolve,invoke,builtin]
    have yU:O vn=m * sz:=by rw [J5.length _ _ Ws,hcl]
    subst hsi XK;have hO:=h.H id _ hl0;simp only [OR] at hO;obtain ⟨_,c0,e0,f0,h1,La,hnf,bI5,h5⟩:=hO;rw [hb] at h1;cases h1;have xE:C0 (K1 id l0++cs)<=max (B4.cells l0).K9 (id+1):=by
     rw [jc];have:=fu id l0;simp only [B4.K9];omega
    have Lf:=yZ hone Ws;have vrk:∀{pl:Place} {b:c7} {u:Value},VR G I N w pl b u->VR G I N w pl (b.kill id) u :=
     λhb=>VR.mono (Ext.refl _ _).sub (λ_ _=>rfl) (λi hi=>hi.1) _ _ _ (Or.inr (λ_ _ h=>⟨h,rfl⟩)) (VR.kill id _ _ _ hb)
    by_cases hfit:len+m<=cap
    ·
     have hrun:=eC (P:=P) (w:=w) (ty:=o.type) hu hi ht2 (base:=J (ad (I id).1 ((I id).2+0))) (sLen:=len) (sCap:=cap) hl (hf w rfl) hfit;have hbig:(len+m) * i.size<=cap * i.size:=K4 _ hfit;rw [Nat.add_mul] at hbig;have aK3:(I id).2+len * i.size+O vn<=c.size:=V
     have hst:=run_storeCells_at (P:=P) (I id).1 ((I id).2+0+len * i.size) e' f vn 0 c w hb hnf V Lf;have yR :(I id).2+0+len * i.size+O vn<=O c.toList:=D
     have ux :(L6 c.toList ((I id).2+0+len * i.size) vn).toArray.size=c.size:=by rw [List.size_toArray,lX _ _ _ yR,Array.length_toList]
     have hw:=yo (G:=G) hb La ux;refine ⟨.slice (J (ad (I id).1 ((I id).2+0))) (len+m) cap,w.setRow (I id).1 (L6 c.toList ((I id).2+0+len * i.size) vn).toArray,G,I,?_,
      cB.Yi h hk br hl0 aU.1 aU.2.1 aU.2.2 hw.ext hw.keeps (λid' hne=>hw.AL hne) (λb' hb' =>h.wf b' (by rw [<- hw.size];exact hb')) (λ_ _=>rfl) ?_ xE ?_ (.obj id::st.o5) (by simp [Touch.G8])⟩
     .rw [vA,hx0,hrun]
      simp only [aX];simp only [Nat.add_zero] at hst ⊢;rw [hst];rfl
     .simp only [OR]
      have mono:∀{pl:Place} {b:c7} {u:Value},VR G I N w pl b u->VR G I N (w.setRow (I id).1 (L6 c.toList ((I id).2+0+len * i.size) vn).toArray) pl b u :=
       λhq=>VR.mono hw.ext (λ_ _=>rfl) (λ_ h=>h) _ _ _ (Or.inr (hw.keeps _)) hq
      refine ⟨XI,_,e',f,setRow_heap w _ c _ e' f hb,La,by rw [ux];exact hnf,?_,λj b hj=>?_⟩
      .rw [ux,s9,S9,hcl];omega
      .rw [show (L6 c.toList ((I id).2+0+len * i.size) vn).toArray[(I id).2+j]? =(L6 c.toList ((I id).2+0+len * i.size) vn)[(I id).2+j]? from by simp,lV _ _ _ yR]
       have hjl:=y9 hj;rw [s9,S9,hcl] at hjl
       by_cases Rk:j<O l0
       .rw [s8 (by rw [S9];exact Rk),iI] at hj
        rw [if_pos V];rw [n5 Rk] at hj;simp at hj;subst hj;obtain ⟨v,g1,g2⟩:=h5 j _ (n5 Rk);exact ⟨v,by simpa using g1,mono (vrk g2)⟩
       .rw [q9 (by rw [S9];omega),S9] at hj
        rw [if_neg V,if_pos V];obtain ⟨u,r1,r2⟩:=J5.get _ _ Ws (j - O l0) b hj;exact ⟨u,by rw [show (I id).2+j - ((I id).2+0+len * i.size)=j - O l0 from by omega];exact r1,mono r2.place⟩
     .simp only [VR]
      exact ⟨XI,cap,rfl,hfit,_,e',f,setRow_heap w _ c _ e' f hb,by rw [ux];exact Rf⟩
    ·
     have hlt:cap<len+m:=V
     have XM:∃vo:List Value,O vo=len * i.size/\(∀w2:World,w2.heap=w.heap->(Builtin.firstCells i.size len (.slice (J (ad (I id).1 ((I id).2+0))) len cap)).run P w2= .ok vo.toArray w2) /\
       (∀(j:Nat) b,l0[j]? =J b->∃v,vo[j]? =J v/\VR G I N w (.cell id j) b v):=by
      refine ⟨(List.range (len * i.size)).map (λj=>(c[(I id).2+j]?).getD default),U,λw2 XX=>?_,λj b hj=>?_⟩
      .have:=run_loadCells_list (P:=P) w2 (ad (I id).1 ((I id).2+0)) ((List.range (len * i.size)).map (λj=>(c[(I id).2+j]?).getD default)) (λj v hj=>by
        have hjn:j<len * i.size:=by
         rcases x9 j (len * i.size) with h|h
         .exact h
         .simp [h] at hj
        simp [hjn] at hj;rw [aX,ki XX,U5 hb];have hlt:(I id).2+j<c.size:=V
        simp [hlt] at hj ⊢;exact hj)
       simpa [Builtin.firstCells] using this
      .have hjn:j<len * i.size:=by have:=y9 hj;omega
       obtain ⟨u,g1,g2⟩:=h5 j b hj;exact ⟨u,by simp [hjn,g1],g2⟩
     obtain ⟨vo,aK8,aK9,aL0⟩:=XM;obtain ⟨ep,Cy,hrun⟩:=gJ (P:=P) (w:=w) (ty:=o.type) hu hi hz ht2 (base:=J (ad (I id).1 ((I id).2+0))) (sLen:=len) (sCap:=cap) hl (hf w.drew rfl) (aK9 w.drew rfl) hlt (Bm hroom hbp) (sJ hroom hlt);have hnb:kE w (w.drew.alloc (.cells (vo.toArray++vn.toArray++Builtin.zeroCells z.cells (ep - (len+m))) e)) (.cells (vo.toArray++vn.toArray++Builtin.zeroCells z.cells (ep - (len+m))) e):=by
      have:=kE.alloc w.drew (.cells (vo.toArray++vn.toArray++Builtin.zeroCells z.cells (ep - (len+m))) e);exact ⟨this.os,this.tape,this.output,A3 (Nat.le_succ _) this.drawn,this.size,this.old,this.new⟩
     have hsize:(vo.toArray++vn.toArray++Builtin.zeroCells z.cells (ep - (len+m))).size=ep * i.size:=by
      simp only [Array.size_append,List.size_toArray,wu,hzs,aK8,yU];have:ep * i.size=(len+m) * i.size+(ep - (len+m)) * i.size:=by rw [<- Nat.add_mul];congr 1;omega
      rw [this,Nat.add_mul]
     refine ⟨.slice (J (ad w.heap.size 0)) (len+m) ep,_,gR G w.heap.size (.obj id),rE I id (w.heap.size,0),?_,
      cB.Yi h hk br hl0 aU.1 aU.2.1 aU.2.2 (hnb.ext h.wf _) (hnb.keeps h.wf _) (λid' _=>hnb.AL h.wf _ id') (hnb.wf h.wf _) (λi hi=>dn hi) ?_ xE ?_ (.obj id::st.o5) (by simp [Touch.G8])⟩
     .rw [vA,hx0,hrun];rfl
     .simp only [OR]
      have mono:∀{pl:Place} {b:c7} {u:Value},VR G I N w pl b u->VR (gR G w.heap.size (.obj id)) (rE I id (w.heap.size,0)) N _ pl (b.kill id) u :=
       λhq=>VR.mono (hnb.ext h.wf _).sub (λi hi=>dn hi.2) (λi hi=>hi.1) _ _ _ (Or.inr (hnb.keeps h.wf _ _)) (VR.kill id _ _ _ hq)
      refine ⟨XI,_,e,(0,0),by rw [Y5];exact hnb.new,U,og _,?_,λj b hj=>?_⟩
      .rw [hsize]
       simp only [Y5,s9,S9,hcl];have:(len+m) * i.size<=ep * i.size:=K4 _ Cy;rw [Nat.add_mul] at this;omega
      .have hjl:=y9 hj
       rw [s9,S9,hcl] at hjl;simp only [Y5,Nat.zero_add];rw [show (vo.toArray++vn.toArray++Builtin.zeroCells z.cells (ep - (len+m)))[j]? =(vo++vn++(Builtin.zeroCells z.cells (ep - (len+m))).toList)[j]? from by rw [<- Array.getElem?_toList];simp,
        s8 (by rw [s9];omega)]
       by_cases Rk:j<O l0
       .rw [s8 (by rw [S9];exact Rk),iI] at hj
        rw [s8 V];rw [n5 Rk] at hj;simp at hj;subst hj;obtain ⟨v,g1,g2⟩:=aL0 j _ (n5 Rk);exact ⟨v,g1,mono g2⟩
       .rw [q9 (by rw [S9];omega),S9] at hj
        rw [q9 V];obtain ⟨u,r1,r2⟩:=J5.get _ _ Ws (j - O l0) b hj;refine ⟨u,by rw [show j - O vo=j - O l0 from by omega];exact r1,?_⟩;have hb' :b.K9<=id:=A3 (ql _ _ _ hj) aY6;exact (VR.mono (hnb.ext h.wf _).sub (λi hi=>dn (by have:=hi.2;omega)) (λi hi=>hi.1) _ _ _ (Or.inl rfl) (VR.low id _ _ _ hb' r2)).place
     .simp only [VR]
      refine ⟨XI,ep,U,Cy,_,e,(0,0),by rw [Y5];exact hnb.new,?_⟩;rw [hsize];simp
   .cases he
  .cases he
 .cases he
end
end Go.B3
namespace Go.B3
variable [E0]
section
variable {P:Program} {X:Cx} {l:H8} {S:Nat->Prop} {st:G4} {a:Act} {w w' :World} {G G' :Gh} {I I' :T0} {N:Nat->Prop} {f9:Nat->Bool} {j9:List o4}
def OM (P:Program)(ck:Operand->z6->Bool)(o:Oper)(op:s7):Bool :=
 match o.op,op with
 | .mapUpdate t m k v,.dU kk m' k' v' =>ck m m' &&ck k k' &&ck v v' &&(match P.underlying t with
  |some (.map kt _)=>xJ P kt kk
  |_=>F)
 |_,_=>F
theorem BU:∀{ks} {l m:List KD},Q6 ks (l.map KD.av) (m.map KD.av)=J W->l=m
 |[],[],[],_=>rfl
 |[],_::_,_,h=>by simp [Q6] at h
 |[],[],_::_,h=>by simp [Q6] at h
 |k::ks,[],m,h=>by simp [Q6] at h
 |k::ks,x::l,[],h=>by simp_all [Q6,KD.av]
 |k::ks,x::l,y::m,h=>by
  have hd:∀(a b:Data),KD.av x= .d a->KD.av y= .d b->Q6 (k::ks) (.d a::l.map KD.av) (.d b::m.map KD.av)=J W->x=y/\l=m:=by
   intro a b ha hb h;simp [Q6] at h;split at h
   .split at h
    next u hu=>
     simp at h;obtain ⟨rfl,rfl⟩:=h;refine ⟨?_,BU hu⟩;simp_all [KD.av,Data.Is]<;>grind
    .cases h
   .cases h
  simp_all [KD.av]<;>grind
def Pw {kk a b}(h:Data.gA kk a b=J W):a=b:=by
 unfold Data.gA at h
 grind [BU]
def Ye (k:Key):Instr.sameBits 10000 k.val k.val=W:=by
 have h:∀x:KD,Instr.sameBits 9999 x.val x.val=W:=by intro x;cases x<;>simp [KD.val,Instr.sameBits,beq_toListBytes]
 cases k<;>simp [Key.val,Instr.sameBits,beq_toListBytes]
 grind
theorem RR {kk t d}(ht:xJ P t kk=W)(hd:P.underlying t=J d){key nv x}(hx:VR G I N w .none nv x) :
  ∀ es xs i es',ER G I N w es xs->iK kk key nv es=J es' ->
   (ta (pn P w t d key.val kk) xs i K/\∀born,ER G I N w es' (xs++[{ key:=key.val,val:=x,born }])) \/
   (∃j v0,ta (pn P w t d key.val kk) xs i (J (i+j,v0))/\(∃e0,xs[j]? =J e0/\e0.key=key.val)/\ER G I N w es' (xs.modify j λe=>{ e with key:=key.val,val:=x }))
 |[],xs,i,es',hE,h=>by
  subst hE;simp [iK] at h;refine Or.inl ⟨rfl,λborn=>?_⟩
  grind [ER]
 |(k',v')::rest,xs,i,es',hE,h=>by
  obtain ⟨e,ys,rfl,h2,h3,h4⟩:=hE;unfold iK at h;split at h
  next hk=>
   have he:=Pw hk;subst he;refine Or.inr ⟨0,e.val,.inl ⟨by simp_all [vU],rfl⟩,⟨e,rfl,h2⟩,?_⟩
   grind [List.modify_zero_cons,ER]
  .split at h
   next r' hr=>
    have hne:pn P w t d key.val kk e.key F:=by simp_all [vU]
    rcases RR ht hd hx rest ys (i+1) r' h4 hr with ⟨g1,g2⟩|⟨j,v0,g1,g2,g3⟩
    .refine Or.inl ⟨.inr ⟨hne,g1⟩,λborn=>?_⟩
     grind [ER]
    .refine Or.inr ⟨j+1,v0,.inr ⟨hne,?_⟩,M,?_⟩
     all_goals grind [List.modify_succ_cons,ER]
   .cases h
  .cases h
theorem BP {kk key nv}:∀ es es',iK kk key nv es=J es' ->C0 (es'.map (·.2))<=max (C0 (es.map (·.2))) nv.K9
 |[],es',h=>by grind [iK,C0]
 |(k',v')::rest,es',h=>by
  unfold iK at h;split at h
  .grind [C0]
  .split at h
   next r' hr=>
    have:=BP rest r' hr
    grind [C0]
   .cases h
  .cases h
def OX (h:RI X l S st a w G I N)(hD:∀j,f9 j=W->S j){k}(hk:¬ S k)(br:k<O st.L) entry{o kk m ky v}(hc:OM P (X.ck f9) o (.dU kk m ky v)=W){E}(hE:E.lim=l)
  {st'} (he:W7 E k kk st (G5 st.T st.L m) (G5 st.T st.L ky) (G5 st.T st.L v)=J st'):∃w',(execOp a.eval o).run P w= .ok .skip w' /\cB X l S entry st a w G I N st' k undef w' G I N:=by
 obtain ⟨dst,er,ty,pos,after,guard⟩:=o;cases er<;>simp only [OM,c8] at hc<;>try (cases hc;done)
 rename_i t m' k' v';obtain ⟨⟨⟨hm,hky⟩,hv⟩,ht⟩:=hc;have h1:=h.R4 hD _ _ hm;have h2:=h.R4 hD _ _ hky;have h3:=h.R4 hD _ _ hv;split at ht
 next kt et hu=>
  obtain ⟨dk,hdk⟩:∃d,P.underlying kt=J d:=by
   cases hd:P.underlying kt with
   |none=>cases kk<;>simp [xJ,gD,kM,hd] at ht
   |some d=>exact ⟨d,rfl⟩
  unfold W7 at he;split at he
  next id kd hp hq=>
   rw [hp] at h1;simp only [VR] at h1;have h2:=IV hq h2;split at he
   next es hes=>
    split at he
    next aU=>
     split at he
     next hkk=>
      split at he
      next es' aZ2=>
       cases he;have hO:=h.H id _ hes;simp only [OR] at hO;obtain ⟨hN,arr,gO,g1,g2,g3,g4⟩:=hO;have hgo:(getObj (I id).1).run P w= .ok (.map arr gO) w:=by simp [getObj,Sem.run,g1]
       have hlt:(I id).1<w.heap.size:=by
        rcases x9 (I id).1 w.heap.size with h|h
        .exact h
        .rw [Array.getElem?_eq_none h] at g1;cases g1
       have sX:∀ob:Obj,(setObj (I id).1 ob).run P w= .ok () { w with heap:=w.heap.setIfInBounds (I id).1 ob }:=by
        intro ob;simp [setObj,Sem.run,g1]
       have wrote:∀ob:Obj,tf id (I id).1 w { w with heap:=w.heap.setIfInBounds (I id).1 ob } G:=by
        intro ob;refine ⟨g2,rfl,rfl,rfl,o6 _,U,λb' hne=>?_,λc e f hc=>?_⟩
        .simp [Array.getElem?_setIfInBounds_ne (λe=>hne e.symm)]
        .rw [g1] at hc;cases hc
       have xE:(B4.map es').K9<=max (B4.map es).K9 (id+1)\/(l.base<=id/\l.strict<=id):=by
        left;have:=BP es es' aZ2;simp only [B4.K9];have:=aU.1;omega
       have fin:∀(Ut :Array MapEntry) (WW :Nat),ER G I N w es' Ut.toList->Kf Ut WW ->cB X l S entry st a w G I N (put { st with H:=st.H.set id (.map es'),o5:= .obj id::st.o5 } k .any) k undef { w with heap:=w.heap.setIfInBounds (I id).1 (.map Ut WW) } G I N:=by
        intro Ut WW hER hBn;have hw:=wrote (.map Ut WW);refine cB.write h hk br entry hw hes ?_ (by rw [<- hE];exact aU.2) xE (λ_=>Iff.rfl) (by simp [VR]) (.obj id::st.o5) (by simp [Touch.G8]);simp only [OR];exact ⟨hN,Ut,WW,by simp [hlt],g2,ER.mono hw.ext (λ_ _=>rfl) (λ_ h=>h) _ _ hER,hBn⟩
       have hck:=kI (P:=P) (w:=w) ht (Ra hkk) F 9998;rw [<- h2] at hck;have hp:=RR (P:=P) (w:=w) (key:=kd) ht hdk h3 es arr.toList 0 es' g3 aZ2;rw [<- h2] at hp
       rcases hp with ⟨f1,f2⟩|⟨j,v0,f1,⟨e0,f2,f2'⟩,f3⟩
       .have hfk:(Instr.findKey kt (a.eval k') arr.toList).run P w= .ok K w:=qB hdk f1
        refine ⟨_,?_,fin (arr.push { key:=a.eval k',val:=a.eval v',born:=gO }) (gO+1) (by simpa using f2 gO) (g4.push _ _)⟩;simp [execOp,h1.2,Instr.mapUpdate,run_underlying hu,hgo,hck,hfk,sX]
       .have hfk:(Instr.findKey kt (a.eval k') arr.toList).run P w= .ok (J (0+j,v0)) w:=qB hdk f1
        have hkeep:(Instr.keyThatStays (((arr[0+j]?).map (·.key)).getD (a.eval k')) (a.eval k')).run P w= .ok (a.eval k') w:=by
         have e1:arr[0+j]? =J e0:=by simpa using f2
         have Kb:=Ye kd;rw [<- h2] at Kb;rw [e1];simp only [C6,Option.getD_some,f2',Instr.keyThatStays,Kb,if_true,Sem.run_pure]
        refine ⟨_,?_,fin (arr.modify (0+j) λe=>{ e with key:=a.eval k',val:=a.eval v' }) gO (by simpa using f3) (g4.modify _ _ λ_=>rfl)⟩;simp only [execOp,h1.2,Instr.mapUpdate,Sem.run_bind,run_underlying hu,Result.andThen_ok,hgo,hck,hfk,hkeep,sX,Sem.run_pure]
      .cases he
     .cases he
    .cases he
   .cases he
  .cases he
 .cases ht
end
end Go.B3
namespace Go.B3
variable [E0]
section
variable {P:Program} {X:Cx} {l:H8} {S:Nat->Prop} {st:G4} {a:Act} {w w' :World} {G G' :Gh} {I I' :T0} {N:Nat->Prop} {f9:Nat->Bool} {j9:List o4}
def Lo (h:RI X l S st a w G I N)(hpv:PV X j9 S st a w I)(hT:O st.T=O X.names)(hD:∀j,f9 j=W->S j){x y}(hc:X.ck f9 x y=W)(hn:isNil l j9 st y=W) :
  a.eval x= .slice K 0 0:=by
 unfold isNil at hn;split at hn
 .unfold Cx.ck at hc
  split at hc
  .simp_all
  .simp_all
  next v' b heq=>
   cases heq;have:=ec (G:=G) (I:=I) (N:=N) (w:=w) _ _ hc;simp_all [VR,Act.eval]
  all_goals simp_all
 next j=>
  have aJ5:∃t,x= .tmp t/\f9 j=W/\(X.ops[j]?).bind (·.dst)=J t/\X.names.contains t=F:=by
   simp_all [Cx.ck]<;>grind
  obtain ⟨t,rfl,hDj,Cw,Lc⟩:=aJ5;have hSj:=hD j hDj;simp only [Act.eval];split at hn
  .have h1:=h.L j hSj t Cw Lc
   simp_all [bQ,VR]
  next n0 c0 hj=>
   split at hn
   next ai hai=>
    unfold gG at hn;split at hn
    next s hop=>
     simp only [c8,o8] at hn;obtain ⟨hun,hs⟩:=hn;split at hs
     .obtain ⟨ts,hts⟩:∃ts,X.names[s]? =J ts:=by
       grind
      have h1:=h.T s ts hts;have he:=hpv.slot j ai s ts t hSj (by rw [hj];simp) hai hop hts Cw Lc hun;simp_all [VR]
     .cases hs
    next x' hop=>
     split at hn
     next id off an5=>
      simp only [c8,o8] at hn;obtain ⟨⟨hun,hmay⟩,hs⟩:=hn;split at hs
      next cs hcs=>
       split at hs
       next hco=>
        have hO:=h.H id _ hcs;obtain ⟨hN,c,e,f,g1,g2,g3,g4,g5⟩:=hO;have he:=hpv.cell j ai x' id off t cs hSj (by rw [hj];simp) hai hop an5 hcs (y9 hco) hun Cw Lc
        grind [U5,Option.some_inj,VR]
       .cases hs
      .cases hs
     .cases hn
    .cases hn
   .cases hn
  .cases hn
 .cases hn
def tu (h:RI X l S st a w G I N)(hpv:PV X j9 S st a w I)(hT:O st.T=O X.names)(hD:∀j,f9 j=W->S j){k}(hk:¬ S k)(br:k<O st.L) entry{y4}(hid:Aw l st N y4){o sz bytes x y}
  (hc:fA P (X.ck f9) o (.append sz bytes W x y)=W) {E} (hE:E.lim=l) {st'} (he:K0 E j9 y4 k sz bytes W st x (G5 st.T st.L y)=J st') :
  (∃v w' G',(execOp a.eval o).run P w= .ok (.value v) w' /\cB X l S entry st a w G I N st' k v w' G' I N) \/
  ∃v w' G' I' N' ob av,(execOp a.eval o).run P w= .ok (.value v) w' /\st' =put (E1 st y4 ob) k av/\cB X l S entry st a w G I N st' k v w' G' I' N' /\(∀i,N' i↔N i\/i=newId st y4):=by
 obtain ⟨x0,y0,t,t2,e,i,z,hop,Ri,hcy,ht2,hsz,hu,hi,hsi,XK,hz,hzs,hbp⟩:=eP hc;have vA:(execOp a.eval o).run P w=((Builtin.append_ #[t,t2] o.type #[a.eval x0,a.eval y0]).run P w).andThen λv w' => .ok (.value v) w' :=by
  simp_all [guard,execOp,resolve,invoke,builtin]
 unfold K0 at he;rw [hE] at he;simp [if_true] at he;split at he
 next m cs hcs=>
  split at he
  next aU=>
   obtain ⟨hnil,hroom,_⟩:=aU;have hx0:=Lo h hpv hT hD Ri hnil;obtain ⟨vn,hl,hf,Ws,hcl⟩:=sM (P:=P) h.H (h.R4 hD _ _ hcy) hsz hcs;have yU:O vn=m * sz:=by grind [J5.length]
   subst hsi XK;split at he
   next hm=>
    subst hm;cases he;have hrun:=eC (P:=P) (w:=w) (ty:=o.type) hu hi ht2 (base:=K) (sLen:=0) (sCap:=0) hl (hf w rfl) (o6 _);refine Or.inl ⟨.slice K 0 0,w,G,?_,cB.same h hk br entry (by simp [VR])⟩;simp_all
   .cases he
    have hlt:0<0+m:=V
    obtain ⟨ep,Cy,hrun⟩:=gJ (P:=P) (w:=w) (ty:=o.type) hu hi hz ht2 (base:=K) (sLen:=0) (sCap:=0) (old:= #[]) hl (hf w.drew rfl) (by rfl) hlt (by rw [Nat.zero_add];exact Bm hroom hbp) (by simp_all [Nat.zero_add,sJ]);rw [Nat.zero_add] at Cy hrun;have hnb:kE w (w.drew.alloc (.cells (#[]++vn.toArray++Builtin.zeroCells z.cells (ep - m)) e)) (.cells (#[]++vn.toArray++Builtin.zeroCells z.cells (ep - m)) e):=by
     have:=kE.alloc w.drew (.cells (#[]++vn.toArray++Builtin.zeroCells z.cells (ep - m)) e);exact ⟨this.os,this.tape,this.output,A3 (Nat.le_succ _) this.drawn,this.size,this.old,this.new⟩
    have hsize:(#[]++vn.toArray++Builtin.zeroCells z.cells (ep - m):Array Value).size=ep * i.size:=by
     simp [Array.size_append,List.size_toArray,wu,hzs,yU,I8,Nat.zero_add];rw [<- Nat.add_mul];simp_all
    refine Or.inr ⟨.slice (J (ad w.heap.size 0)) m ep,_,_,_,_,.cells cs,_,M,rfl,cB.newObj h hk br entry hid hnb (.cells cs) ?_ ?_,λi=>Iff.rfl⟩
    .simp only [OR]
     refine ⟨Or.inr trivial,_,e,(0,0),by rw [Y5];exact hnb.new,U,og _,?_,λj b hj=>?_⟩
     .simp_all [Y5,Nat.zero_add,K4]
     .simp only [Y5]
      obtain ⟨u,r1,r2⟩:=J5.get _ _ Ws j b hj;refine ⟨u,?_,?_⟩
      .grind
      .exact (hnb.vr h.wf _ (λj hj=>dn (by rintro rfl;exact hid.new hj)) (λ_ h=>Or.inl h) r2).place
    .simp only [VR]
     refine ⟨Or.inr trivial,ep,U,Cy,_,e,(0,0),by rw [Y5];exact hnb.new,?_⟩;simp_all
  .cases he
 .cases he
def BW (P:Program)(ck:Operand->z6->Bool)(o:Oper)(op:s7):Bool :=
 match o.op,op with
 | .call ⟨.builtin .clear,args,argTypes⟩,.clear sz zero y =>
  (match args.toList,argTypes.toList with
   |[x],[t]=>ck x y&&decide (0<sz)&&(match P.underlying t with
    |some (.slice e)=>(match P.info? e with
     |some i=>(match i.zero with|some z=>consts z.cells.toList zero&&z.cells.size==sz&&zero.all c7.one|none=>F)
     |none=>F)
    |_=>F)
   |_,_=>F)
 |_,_=>F
theorem KQ {α:Type}(zero:List α):∀ n i,((c9 n zero).flatten)[i]? =if i<n * O zero then zero[i % O zero]? else K
 |0,i=>U
 |n+1,i=>by
  rw [List.replicate_succ,List.flatten_cons]
  by_cases h:i<O zero
  .rw [s8 h,if_pos (by grind),Nat.mod_eq_of_lt h]
  .rw [q9 V,KQ zero n (i - O zero)]
   by_cases h2:i - O zero<n * O zero
   .rw [if_pos h2,if_pos (by grind),Nat.mod_eq_sub_mod (a:=i) (b:=O zero) V]
   grind
theorem Kr {zero}(h:C0 zero=0):∀n,C0 (c9 n zero).flatten=0
 |0=>by simp [C0]
 |n+1=>by rw [List.replicate_succ,List.flatten_cons,jc,h,Kr h n];rfl
def UF (h:RI X l S st a w G I N)(hD:∀j,f9 j=W->S j){k}(hk:¬ S k)(br:k<O st.L) entry{o sz zero y}
  (hc:BW P (X.ck f9) o (.clear sz zero y)=W) {E} (hE:E.lim=l) {st'} (he:aj E k sz zero st (G5 st.T st.L y)=J st') :
  ∃w',(execOp a.eval o).run P w= .ok (.value (.tuple #[])) w' /\cB X l S entry st a w G I N st' k (.tuple #[]) w' G I N:=by
 unfold BW at hc;split at hc
 next args argTypes sz' zero' y' hop heq=>
  cases heq;split at hc
  next x t ha ht=>
   have e1:args= #[x]:=by grind
   have e2:argTypes= #[t]:=by grind
   subst e1 e2;simp only [c8,decide_eq_true_eq] at hc;obtain ⟨⟨hx,hsz⟩,hc⟩:=hc;split at hc
   next e hu=>
    split at hc
    next i hi=>
     split at hc
     next z hz=>
      simp only [c8,beq_iff_eq] at hc;obtain ⟨⟨hcs,hzs⟩,hone⟩:=hc;have vA:(execOp a.eval o).run P w=((Builtin.clear_ #[t] o.type #[a.eval x]).run P w).andThen λv w' => .ok (.value v) w' :=by
       simp_all [guard,execOp,resolve,invoke,builtin]
      have hv:=h.R4 hD _ _ hx;unfold aj at he;split at he
      next id z' lo len hy=>
       rw [hy] at hv;obtain ⟨hN,cap,hx0,hcap,_⟩:=hv;split at he
       next aU=>
        obtain ⟨rfl,hzl,hzb,hmay⟩:=aU;split at he
        next H' hw=>
         cases he;obtain ⟨l0,c,e',f,g1,g2,g3,g4,g5,g6,g7,g8,g9⟩:=h.H.wr hw;have hvz:=gq (G:=G) (I:=I) (N:=N) (w:=w) _ _ hcs
         by_cases hlen:len=0
         .subst hlen
          have hH' :H' =st.H:=by
           rw [g2];simp only [List.replicate_zero,List.flatten_nil,splice,I8,Nat.add_zero,List.append_nil,List.take_append_drop];apply List.ext_getElem?
           grind
          have hM:=cB.write (D1:=N) h hk br entry (w' :=w) (G:=G) (id:=id) (b:=(I id).1) ⟨g6,rfl,rfl,rfl,o6 _,rfl,λ_ _=>rfl,λc _ _ h=>⟨c,h,rfl⟩⟩ g1 (h.H id _ g1) (by grind) (Or.inl V) (λ_=>Iff.rfl) (v:= .tuple []) (x:= .tuple #[]) (by grind [VR,J5]) (.obj id::st.o5) (by simp [Touch.G8]);have sX:st.H.set id (.cells l0)=st.H:=by
           grind
          refine ⟨w,?_,by grind⟩;rw [vA,hx0];simp [Builtin.clear_,run_underlying hu]
         .have hzc:O (Builtin.zeroCells z.cells len).toList=len * z' :=by simp [wu,hzs]
          have hfl:O ((c9 len zero).flatten)=len * z' :=by simp [hzl]
          have AE:∀(j:Nat) b,((c9 len zero).flatten)[j]? =J b->∃u,(Builtin.zeroCells z.cells len).toList[j]? =J u/\VR G I N w .none b u:=by
           intro j b hj;rw [KQ] at hj;split at hj
           next hjl=>
            rw [hzl] at hj hjl;obtain ⟨u,r1,r2⟩:=J5.get _ _ hvz (j % z') b hj;have hzj:z.cells[j % z']? =J u:=M
            have ct1 :z.cells[j % z.cells.size]! =u:=by
             grind
            simp_all [Array.range,Array.getElem?_toList,Builtin.zeroCells,Array.getElem?_map,C6]
           .cases hj
          obtain ⟨hO,hW⟩:=Fu g4 g5 g6 g7 g8 g9 g3 (vs:=(Builtin.zeroCells z.cells len).toList) (by rw [hzc,hfl]) (λj b hj=>by
           obtain ⟨u,r1,r2⟩:=AE j b hj;exact ⟨u,r1,r2.place⟩)
          have Lf:Ff (Builtin.zeroCells z.cells len).toList:=by
           intro u hu';obtain ⟨j,hj,rfl⟩:=O8 hu';have hjl:j<O ((c9 len zero).flatten):=V
           obtain ⟨u',r1,r2⟩:=AE j _ (n5 hjl)
           grind [c9,List.getElem_mem,List.mem_flatten,nK,L4]
          have hrun:=run_storeCells_at (P:=P) (I id).1 ((I id).2+lo) e' f (Builtin.zeroCells z.cells len).toList 0 c w g5 g7 V Lf;have xE:(B4.cells (splice l0 lo (c9 len zero).flatten)).K9<=max (B4.cells l0).K9 (id+1)\/(l.base<=id/\l.strict<=id):=by
           grind [yF,c9,Kr,B4.K9]
          have hM:=cB.write (D1:=N) h hk br entry hW g1 hO M xE (λ_=>Iff.rfl) (v:= .tuple []) (x:= .tuple #[]) (by simp_all [VR,J5]) (.obj id::st.o5) (by simp [Touch.G8]);simp_all [zeroValue,typeInfo,Builtin.clear_,run_underlying]
        .cases he
       .cases he
      next cells hy=>
       cases he;rw [hy] at hv;refine ⟨w,?_,cB.same h hk br entry (by simp_all [VR,J5])⟩;rw [vA]
       rcases hv with ⟨hv|⟨a0,hv⟩,_⟩|⟨b,o',cap,hv,_⟩
       all_goals simp_all [Builtin.clear_,run_underlying]
      .cases he
     .cases hc
    .cases hc
   .cases hc
  .cases hc
 .cases hc
end
end Go.B3
namespace Go.B3
variable [E0]
def hold (G:Gh)(n:Nat):Gh:=λb =>
 match G b with
 | .grow m (.cell id off)=>if id<n then .grow m (.cell id off) else .held m
 | .grow m _=> .held m
 | .obj id=>if id<n then .obj id else .held 0
 |x=>x
def fm (G G1:Gh)(n:Nat):Gh:=λb=>if hold G n b=G b then G1 b else G b
section
variable {G G1:Gh} {w w1:World} {n:Nat}
theorem BF b o:jS (hold G n) b o↔jS G b o:=by
 grind [jS,hold]
def vB:Ext G w (hold G n) w where
 os:=rfl
 tape:=rfl
 output:=rfl
 drawn _:=o6 _
 size:=o6 _
 mM b o h:=⟨(BF b o).2 h,rfl⟩
 still b h:=⟨by grind [hold],rfl⟩
 shape _ c _ _ h:=⟨c,h,rfl⟩
def Rp (h:WF G w):WF (hold G n) w:=λb hb=>by simp [hold,h b hb]
def qG {b id}(hid:id<n)(h:G b= .obj id):hold G n b= .obj id:=by grind [hold]
def nB {id off}(hid:id<n):bI (.cell id off) G w (hold G n) w:=λb m hb=>⟨by grind [hold],rfl⟩
def FM {b m pl}(hn:n=0):hold G n b≠ .grow m pl:=by
 grind [hold]
def Ld {b id}(h:hold G n b= .obj id):id<n:=by
 grind [hold]
theorem hidden {b}(h:hold G n b≠G b):∃m,hold G n b= .held m:=by
 grind [hold]
theorem jm {b}(he:Ext (hold G n) w G1 w1)(h:hold G n b≠G b):fm G G1 n b=G b/\w1.heap[b]? =w.heap[b]? /\G1 b=hold G n b:=by
 obtain ⟨m,hm⟩:=hidden h;obtain ⟨h1,h2⟩:=he.still b (Or.inr ⟨m,hm⟩);simp_all [fm]
def jo {b}(h:hold G n b=G b):fm G G1 n b=G1 b:=by simp [fm,h]
def DP (he:Ext (hold G n) w G1 w1):Ext G w (fm G G1 n) w1 where
 os:=he.os
 tape:=he.tape
 output:=he.output
 drawn:=he.drawn
 size:=he.size
 mM b o h:=by
  obtain ⟨h1,h2⟩:=he.mM b o ((BF b o).2 h);refine ⟨?_,h2⟩
  by_cases hh:hold G n b=G b
  .simp_all [jS,jo]
  .unfold jS at h ⊢;rw [(jm he hh).1];exact h
 still b h:=by
  have hh:hold G n b=G b:=by grind [hold]
  obtain ⟨h1,h2⟩:=he.still b M;simp_all [jo]
 shape:=he.shape
def oW (he:Ext (hold G n) w G1 w1):Sub G1 w1 (fm G G1 n) w1 where
 mM b o h:=by
  by_cases hh:hold G n b=G b
  .simp_all [jS,jo]
  .obtain ⟨h1,h2,h3⟩:=jm he hh
   grind [jS,hold,BF]
 shape _ c _ _ h:=⟨c,h,rfl⟩
theorem bT (he:Ext (hold G n) w G1 w1){b}(h:∀m,G1 b≠ .held m):fm G G1 n b=G1 b:=by
 by_cases hh:hold G n b=G b
 .exact jo hh
 .obtain ⟨_,_,h3⟩:=jm he hh
  grind [hidden,absurd]
def mb (he:Ext (hold G n) w G1 w1) q:bI q G1 w1 (fm G G1 n) w1 :=
 λb m hb=>⟨by grind [bT],rfl⟩
def fO (he:Ext (hold G n) w G1 w1){q}(hq:∀id off,q= .cell id off->n<=id):bI q G w (fm G G1 n) w1:=by
 intro b m hb
 grind [hold,jm]
def DQ (he:Ext (hold G n) w G1 w1){id}(hid:n<=id):∀b,G b= .obj id->fm G G1 n b= .obj id/\w1.heap[b]? =w.heap[b]? :=by
 grind [hold,jm]
def GK (he:Ext (hold G n) w G1 w1)(hwf:WF G w)(h1:WF G1 w1):WF (fm G G1 n) w1:=by
 intro b hb;have hg:G b= .free:=hwf b (A3 he.size hb);have hh:hold G n b=G b:=by simp [hold,hg]
 rw [jo hh];exact h1 b hb
end
structure BB (l:H8)(H:n9)(w:World)(G:Gh)(I:T0)(N:Nat->Prop)(args:List c7)(H9:Array Value):Prop where
 args:J5 G I N w args H9.toList
 hr:HR G I N w H
 wf:WF G w
 bY:∀id,N id->id<O H
 W9:Ul l H
 base:l.base<=O H
 strict:l.strict<=l.base
 mV:∀b id:Nat,G b= .obj id->id<O H
 bJ6:O H=0->∀b n pl,G b≠ .grow n pl
structure mW (l:H8)(H:n9)(w:World)(G:Gh)(I:T0)(N:Nat->Prop)(v:c7)(H1:n9)(x:Value)(w' :World)(G' :Gh)(I' :T0)(N' :Nat->Prop):Prop where
 val:VR G' I' N' w' .ret v x
 hr:HR G' I' N' w' H1
 wf:WF G' w'
 ext:Ext G w G' w'
 ew:mX l G w G' w'
 inj:∀id,id<O H->N id->I' id=I id
 mono:∀id,N id->N' id
 old:∀id,id<O H->N' id->N id
 bY:∀id,N' id->id<O H1
 hle:∀(id:Nat) (o' :B4),id<l.base->H1[id]? =J o' ->o'.K9<=id+1\/∃o:B4,H[id]? =J o/\o'.K9<=o.K9
 W9:Ul l H1
def qc (P:Program)(cf:uS)(prom:FuncId->Bool):Prop :=
 ∀f args H l v H1,cf f args H l=J (v,H1)->∀w G I N H9,BB l H w G I N args H9->(prom f=F->l.base=O H) ->
  Calls P f H9 w λe w' =>∃x G' I' N',e= .returned x/\mW l H w G I N v H1 x w' G' I' N'
def U1 (P:Program)(f:FuncId):Bool :=
 match P.funcs[f]? with
 | some fn => fn.name != "runtime.NumGoroutine" && fn.body.isSome
 |none=>F
def vR {P w f}(h:U1 P f=W) args:(callFunc f args).run P w= .ok (.enter f args) w:=by
 unfold U1 at h;split at h
 all_goals (simp_all [callFunc]<;>grind)
end Go.B3
namespace Go.B3
variable [E0]
theorem Kq:∀ l (i:Nat) o,l[i]? =J o->o.K9<=Q5 l
 |[],_,_,h=>by simp at h
 |v::vs,0,o,h=>by grind [Q5]
 |v::vs,i+1,o,h=>by have:=Kq vs i o (by simpa using h);grind [Q5]
theorem vm:∀ l k i o,cU l k=W->l[i]? =J o->o.K9<=k+i+1
 |[],_,_,_,_,h=>by simp at h
 |v::vs,k,0,o,hd,h=>by
  simp_all [cU,c8,decide_eq_true_eq]
 |v::vs,k,i+1,o,hd,h=>by
  simp [cU,c8] at hd;have:=vm vs (k+1) i o hd.2 (by simpa using h);omega
def tJ {H:n9}{n s i o}(hi:i<n)(hs:s<=i)(h:H[i]? =J o):((H.take n).drop s)[i - s]? =J o:=by
 simp_all
def xY {l H n}(hd:Ul l H)(hc:Q5 ((H.take n).drop l.strict)<=n){id o}(hid:id<n)(h:H[id]? =J o):o.K9<=n:=by
 by_cases hs:id<l.strict
 .have:=(hd id o h).1 hs;omega
 .have:=Kq _ _ _ (tJ (s:=l.strict) hid V h);omega
def Mv H s n:I7 H s n<=n:=by
 grind [I7]
def JA {l H n}(hd:Ul l H){id o}(hid:id<I7 H l.strict n)(h:H[id]? =J o):o.K9<=id+1:=by
 unfold I7 at hid;split at hid
 .exact (hd id o h).1 V
 .split at hid
  next hdf=>
   by_cases hs:id<l.strict
   .exact (hd id o h).1 hs
   .have:=vm _ _ _ _ hdf (tJ (s:=l.strict) hid V h);omega
  .exact (hd id o h).1 hid
def VR.Kk {G I N w pl zh a x}(ha:∀z n c,a≠ .own z n c)(h:VR G I N w pl a x):VR G I N w zh a x:=by
 cases a with
 |own z n c=>simp_all
 |any=>simp [VR]
 |_=>simp_all [VR]
structure aj6 (pl:Place)(l:H8)(H:n9)(w:World)(G:Gh)(I:T0)(N:Nat->Prop)(v:c7)(H1:n9)(x:Value)(w' :World)(G' :Gh)(I' :T0)(N' :Nat->Prop):Prop where
 val:VR G' I' N' w' pl v x
 hr:HR G' I' N' w' H1
 wf:WF G' w'
 ext:Ext G w G' w'
 ew:mX l G w G' w'
def mW.at {l H w G I N v H1 x w' G' I' N'}
  (h:mW l H w G I N v H1 x w' G' I' N') {pl} (hp:pl≠ .none):∃G2,aj6 pl l H w G I N v H1 x w' G2 I' N' :=by
 by_cases ho:∃z n c,v= .own z n c
 .obtain ⟨z,n,c,rfl⟩:=ho
  obtain ⟨G2,hm,hv⟩:=kW hp h.val;refine ⟨G2,hv,h.hr.LF hm U,hm.wf h.wf,h.ext.trans hm.ext,h.ew.trans λid _=>⟨λb hb=>⟨hm.obj b id hb,rfl⟩,λoff=>hm.keeps _ U⟩⟩
 .exact ⟨G',h.val.Kk (λz n c e=>ho ⟨z,n,c,e⟩),h.hr,h.wf,h.ext,h.ew⟩
section
variable {P:Program} {X:Cx} {l:H8} {S:Nat->Prop} {st:G4} {a:Act} {w w1:World} {G G1:Gh} {I I1:T0} {N N1:Nat->Prop}
structure Oy (X:Cx)(l:H8)(S:Nat->Prop)(entry:Nat)(st:G4)(a:Act)(w:World)(G:Gh)(I:T0)(N:Nat->Prop)
  (st' :G4) (k:Nat) (x' :Value) (w' :World) (G' :Gh) (I' :T0) (N' :Nat->Prop):Prop where
 mid:cB X l S entry st a w G I N st' k x' w' G' I' N'
 bY:∀id,N' id->id<O st'.H
 old:∀id,id<O st.H->N' id->N id
def ud (h:RI X l S st a w G I N)(gv:∀id,N id->id<O st.H){k}(hk:¬ S k)(br:k<O st.L) entry{n m}(hn:n<=O st.H)(hm:m<=n)
  {l'} (hl' :l'.base=n) (hmay:∀id,id<n->l.may id=F->l'.may id=F) (Lb :∀id,m<=id->id<n->l'.may id=F)
  {v} {H1:n9} {x} (hlen:O H1=n) (hc:mW l' (st.H.take n) w (hold G n) I (λi=>N i/\i<n) v H1 x w1 G1 I1 N1) {o5} (Pj:∀id,o5.any (Touch.G8 id)=F->m<=id) :
  ∃G' I',Oy X l S entry st a w G I N (put { st with H:=H1.take m++st.H.drop m,o5 } k v) k x w1 G' I' N:=by
 have htl:O (st.H.take n)=n:=D
 have hN1:∀id,N1 id->N id/\id<n:=λid hid=>by
  have:=hc.bY id hid;exact hc.old id V hid
 have hI1:∀id,N id->id<n->I1 id=I id:=λid hid hlt=>hc.inj id V ⟨hid,hlt⟩
 obtain ⟨G2,hp⟩:=hc.at (pl:= .loc k) U;have hx:=DP hp.ext;have ao7:∀id,m<=id->∀b,G b= .obj id->fm G G2 n b= .obj id/\w1.heap[b]? =w.heap[b]? :=by
  intro id hid b hb
  by_cases hlt:id<n
  .obtain ⟨g1,g2⟩:=(hp.ew id (Lb id hid hlt)).1 b (qG hlt hb)
   exact ⟨by rw [bT hp.ext M];exact g1,g2⟩
  .exact DQ hp.ext V b hb
 have Yd:∀id,m<=id->∀off,bI (.cell id off) G w (fm G G2 n) w1:=by
  intro id hid off
  by_cases hlt:id<n
  .intro b q hb
   obtain ⟨g1,_⟩:=nB (G:=G) (w:=w) (off:=off) hlt b q hb;obtain ⟨g3,g4⟩:=(hp.ew id (Lb id hid hlt)).2 off b q g1;exact ⟨by rw [bT hp.ext M];exact g3,g4⟩
  .exact fO hp.ext M
 have bX:∀id o',(H1.take m++st.H.drop m)[id]? =J o' ->(id<m/\H1[id]? =J o')\/(m<=id/\st.H[id]? =J o'):=by
  grind
 have hle:∀id o',(H1.take m++st.H.drop m)[id]? =J o' ->o'.K9<=id+1\/∃o:B4,st.H[id]? =J o/\o'.K9<=o.K9:=by
  intro id o' ho'
  rcases bX id o' ho' with ⟨hlt,ho⟩|⟨_,ho⟩
  .rcases hc.hle id o' V ho with hb|⟨o,h1,h2⟩
   all_goals grind
  simp_all
 have bY4:O (H1.take m++st.H.drop m)=O st.H:=D
 have hII:∀id,N id->I1 id=I id\/n<=id:=λid hid=>by
  grind
 refine ⟨fm G G2 n,λid=>if id<n then I1 id else I id,?_,?_,?_⟩
 .have hIo:∀id,N id->(if id<n then I1 id else I id)=I id:=by
   simp_all
  have hIn:∀id,N1 id->(if id<n then I1 id else I id)=I1 id:=by
   simp_all
  have hNn:∀id,N1 id->N id:=λid hid=>(hN1 id hid).1
  refine ⟨⟨?_,?_,?_,GK hp.ext h.wf hp.wf,?_⟩,?_,hx,?_,?_,λid _ hN=>hIo id hN,λ_ h=>h,?_,?_⟩
  .intro s t ht
   exact VR.mono hx hIo (λ_ h=>h) _ _ _ (Or.inr (fO hp.ext U)) (h.T s t ht)
  .intro j hj d hd Lc
   have:k≠j:=by grind
   simp only [B3.put];rw [P0 _ _ _ _ _ this];exact VR.mono hx hIo (λ_ h=>h) _ _ _ (Or.inr (fO hp.ext U)) (h.L j hj d hd Lc)
  .intro id o' ho'
   rcases bX id o' ho' with ⟨hlt,ho⟩|⟨hge,ho⟩
   .refine OR.mono (oW hp.ext) hIn hNn id o' (λhb=>?_) (λoff=>mb hp.ext _) (hp.hr id o' ho)
    exact ⟨by rw [bT hp.ext M];exact hb,rfl⟩
   .exact OR.mono hx hIo (λ_ h=>h) id o' (λhb=>ao7 id hge _ hb) (Yd id hge) (h.H id o' ho)
  .intro id o' ho'
   rcases hle id o' ho' with hb|⟨o,h1,h2⟩
   .omega
   .obtain ⟨d1,d2⟩:=h.W9 id o h1
    omega
  .simp only [B3.put]
   rw [O3 _ _ _ _ br];exact VR.mono (oW hp.ext) hIn hNn _ _ _ (Or.inr (mb hp.ext _)) hp.val
  .intro id hid
   by_cases hlt:id<n
   .obtain ⟨p1,p2⟩:=hp.ew id (hmay id hlt hid)
    refine ⟨λb hb=>?_,λoff b q hb=>?_⟩
    .obtain ⟨g1,g2⟩:=p1 b (qG hlt hb)
     exact ⟨by rw [bT hp.ext M];exact g1,g2⟩
    .obtain ⟨g1,_⟩:=nB (G:=G) (w:=w) (off:=off) hlt b q hb
     obtain ⟨g3,g4⟩:=p2 off b q g1;exact ⟨by rw [bT hp.ext M];exact g3,g4⟩
   grind
  all_goals grind [B3.put]
 all_goals simp_all [B3.put]
def OK (h:RI X l S st a w G I N)(gv:∀id,N id->id<O st.H){k}(hk:¬ S k)(br:k<O st.L) entry
  {v} {H1:n9} {x} (hlen:O st.H<=O H1) (hc:mW l st.H w (hold G (O st.H)) I N v H1 x w1 G1 I1 N1) {o5} (Pj:∀id,o5.any (Touch.G8 id)=F->O st.H<=id) :
  ∃G',Oy X l S entry st a w G I N (put { st with H:=H1,o5 } k v) k x w1 G' I1 N1:=by
 obtain ⟨G2,hp⟩:=hc.at (pl:= .loc k) U;have hx:=DP hp.ext;have hIo:∀id,N id->I1 id=I id:=λid hid=>hc.inj id (gv id hid) hid
 refine ⟨fm G G2 (O st.H),?_,hc.bY,hc.old⟩;refine ⟨⟨?_,?_,?_,GK hp.ext h.wf hp.wf,hc.W9⟩,?_,hx,?_,?_,λid _ hN=>hIo id hN,hc.mono,hlen,λid o' hb ho' =>hc.hle id o' hb ho'⟩
 .intro s t ht
  exact VR.mono hx hIo hc.mono _ _ _ (Or.inr (fO hp.ext U)) (h.T s t ht)
 .intro j hj d hd Lc
  have:k≠j:=by grind
  simp only [B3.put];rw [P0 _ _ _ _ _ this];exact VR.mono hx hIo hc.mono _ _ _ (Or.inr (fO hp.ext U)) (h.L j hj d hd Lc)
 .intro id o' ho'
  refine OR.mono (oW hp.ext) (λ_ _=>rfl) (λ_ h=>h) id o' (λhb=>?_) (λoff=>mb hp.ext _) (hp.hr id o' ho');exact ⟨by rw [bT hp.ext M];exact hb,rfl⟩
 .simp only [B3.put]
  rw [O3 _ _ _ _ br];exact VR.mono (oW hp.ext) (λ_ _=>rfl) (λ_ h=>h) _ _ _ (Or.inr (mb hp.ext _)) hp.val
 .intro id hid
  by_cases hlt:id<O st.H
  .obtain ⟨p1,p2⟩:=hp.ew id hid
   refine ⟨λb hb=>?_,λoff b q hb=>?_⟩
   .obtain ⟨g1,g2⟩:=p1 b (qG hlt hb)
    exact ⟨by rw [bT hp.ext M];exact g1,g2⟩
   .obtain ⟨g1,_⟩:=nB (G:=G) (w:=w) (off:=off) hlt b q hb
    obtain ⟨g3,g4⟩:=p2 off b q g1;exact ⟨by rw [bT hp.ext M];exact g3,g4⟩
  .exact ⟨DQ hp.ext V,λoff=>fO hp.ext M⟩
 .intro id hN ht
  have:=gv id hN;have:=Pj id ht;omega
def CJ {l:H8}{a b base strict id}(h:l.may id=F\/(a<=id/\id<b)):(l.qD a b base strict).may id=F:=by
 grind [H8.qD,H8.may,E5,decide_eq_false_iff_not]
def lN (l:H8) a b base strict:(l.qD a b base strict).base=base/\(l.qD a b base strict).strict=strict:=by
 grind [H8.qD]
def UE {E}(Rh:qc P E.cf E.prom)(hE:E.lim=l)(h:RI X l S st a w G I N)(gv:∀id,N id->id<O st.H)(hb:l.base<=O st.H)(hs:l.strict<=l.base)
  {k} (hk:¬ S k) (br:k<O st.L) entry {f args H9} (hargs:J5 G I N w args H9.toList) {st'} (he:D7 E k f args st=J st') :
  Calls P f H9 w λe w' =>∃x G' I' N',e= .returned x/\Oy X l S entry st a w G I N st' k x w' G' I' N' :=by
 subst hE;unfold D7 at he;split at he
 next yT=>
  split at he
  next v H1 gV=>
   split at he
   next hlen=>
    cases he;refine Calls.mono (Rh f args st.H E.lim v H1 gV w (hold G (O st.H)) I N H9 ⟨?_,?_,Rp h.wf,gv,h.W9,hb,hs,λ_ _=>Ld,λh0 _ _ _=>FM h0⟩ M) ?_
    .exact J5.mono vB.sub (λ_ _=>rfl) (λ_ h=>h) _ _ hargs
    .intro id o ho
     have hlt:=y9 ho;exact OR.mono vB.sub (λ_ _=>rfl) (λ_ h=>h) id o (λhb=>⟨qG hlt hb,rfl⟩) (λ_=>nB hlt) (h.H id o ho)
    .rintro e w' ⟨x,G1,I1,N1,rfl,hc⟩
     obtain ⟨G',hd⟩:=OK h gv hk br entry hlen hc (o5:= .below (O H1)::st.o5) (by
      grind [Touch.G8])
     grind
   .cases he
  .cases he
 next yT=>
  have yT:E.prom f=F:=M
  simp only at he;generalize Lc:I4 st.H E.lim.strict 8 (C0 args)=n at he;have hna:C0 args<=n:=by
   rw [<- Lc];have:∀(j m:Nat),m<=I4 st.H E.lim.strict j m:=by
    intro j
    induction j with
    |zero=>grind [I4]
    |succ j ih =>
     grind [I4,A3,Nat.le_max_left]
   grind
  split at he
  next aU=>
   obtain ⟨hn,hbO⟩:=aU;have htl:O (st.H.take n)=n:=D
   have pre:∀l' :H8,l'.base=n->l'.strict=I7 st.H E.lim.strict n->BB l' (st.H.take n) w (hold G n) I (λi=>N i/\i<n) args H9:=by
    intro l' h1 h2;refine ⟨?_,?_,Rp h.wf,λid hid=>V,?_,V,by simp_all [Mv],λb id hb=>by rw [htl];exact Ld hb,λh0 _ _ _=>FM V⟩
    .exact J5.mono vB.sub (λ_ _=>rfl) (λ_ h=>h) _ _ (J5.low n _ _ hna hargs)
    .intro id o ho
     have hlt:id<n:=by grind
     rw [List.getElem?_take_of_lt hlt] at ho;exact OR.mono vB.sub (λ_ _=>rfl) (λ_ h=>h) id o (λhb=>⟨qG hlt hb,rfl⟩) (λ_=>nB hlt) (OR.low hlt o (xY h.W9 hbO hlt ho) (h.H id o ho))
    .intro id o ho
     have hlt:id<n:=by have:=y9 ho;omega
     rw [List.getElem?_take_of_lt hlt] at ho;rw [h1,h2];exact ⟨λhh=>JA h.W9 hh ho,λ_=>xY h.W9 hbO hlt ho⟩
   split at he
   .split at he
    next v H1 gV=>
     split at he
     next hlen=>
      cases he;refine Calls.mono (Rh f args _ _ v H1 gV w (hold G n) I _ H9 (pre _ rfl rfl) (λ_=>htl.symm)) ?_;rintro e w' ⟨x,G1,I1,N1,rfl,hc⟩;obtain ⟨G',I',hd⟩:=ud (l' :={ E.lim with base:=n,strict:=I7 st.H E.lim.strict n }) h gv hk br entry hn (o6 n) rfl (λid _ hid=>hid) (λid h1 h2=>V) hlen hc (o5:= .below n::st.o5) (by
       intro id ht;simp [Touch.G8] at ht;omega)
      rw [<- hlen,List.take_length,hlen] at hd;exact ⟨x,G',I',N,rfl,hd⟩
     .cases he
    .cases he
   .split at he
    next v H1 gV=>
     split at he
     next hlen=>
      cases he;refine Calls.mono (Rh f args _ _ v H1 gV w (hold G n) I _ H9 (pre _ rfl rfl) (λ_=>htl.symm)) ?_;rintro e w' ⟨x,G1,I1,N1,rfl,hc⟩;obtain ⟨G',I',hd⟩:=ud (l' :=⟨0,n,n,I7 st.H E.lim.strict n⟩) h gv hk br entry hn (A4 n) rfl (λid h1 _=>by simp [H8.may];omega) (λid _ h2=>by simp [H8.may];omega) hlen hc (o5:=st.o5) (by intros;omega);refine ⟨x,G',I',N,rfl,?_⟩;simpa using hd
     .cases he
    .cases he
   .split at he
    next v H1 gV=>
     split at he
     next hlen=>
      cases he;refine Calls.mono (Rh f args _ _ v H1 gV w (hold G n) I _ H9 (pre _ (lN _ _ _ _ _).1 (lN _ _ _ _ _).2) (λ_=>by rw [(lN _ _ _ _ _).1,htl])) ?_;rintro e w' ⟨x,G1,I1,N1,rfl,hc⟩;obtain ⟨G',I',hd⟩:=ud h gv hk br entry hn hlen.2 (lN _ _ _ _ _).1 (λid _ hid=>CJ (Or.inl hid)) (λid h1 h2=>CJ (Or.inr ⟨h1,h2⟩)) hlen.1 hc (o5:= .below (args.headD .any).K9::st.o5) (by
       intro id ht;simp [Touch.G8] at ht;simpa using ht.1)
      exact ⟨x,G',I',N,rfl,hd⟩
     .cases he
    .cases he
  .cases he
end
end Go.B3
namespace Go.B3
variable [E0]
structure Tr (N:Nat->Prop)(k:Nat)(st st' :G4):Prop where
 o5:∀p:Touch->Bool,st.o5.any p=W->st'.o5.any p=W
 L:∀m id off:Nat,m≠k->st'.L[m]? =J (c7.ptr id off)->st.L[m]? =J (c7.ptr id off)
 T:∀s id off:Nat,st'.T[s]? =J (c7.ptr id off)->st.T[s]? =J (c7.ptr id off)
 H:∀(id:Nat) (l' :List c7),N id->st'.o5.any (Touch.G8 id)=F->st'.H[id]? =J (B4.cells l')->∃l:List c7,st.H[id]? =J (B4.cells l)/\O l=O l'
 Y0:O st'.T=O st.T
 kR:O st'.L=O st.L
 skp:∀m:Nat,m≠k->st.L[m]? =J (c7.tuple [])->st'.L[m]? =J (c7.tuple [])
section
variable {N:Nat->Prop} {k:Nat} {st st1 st' :G4}
theorem Tr.refl N k st:Tr N k st st :=
 ⟨λ_ h=>h,λ_ _ _ _ h=>h,λ_ _ _ h=>h,λ_ l _ _ h=>⟨l,h,rfl⟩,rfl,rfl,λ_ _ h=>h⟩
theorem kT {t t' :List Touch}(h:∀p,t.any p=W->t'.any p=W){p}(h' :t'.any p=F):t.any p=F:=by
 grind
theorem Tr.trans (a:Tr N k st st1)(b:Tr N k st1 st'):Tr N k st st' where
 o5 p h:=b.o5 p (a.o5 p h)
 L m id off hm h:=a.L m id off hm (b.L m id off hm h)
 T s id off h:=a.T s id off (b.T s id off h)
 H id l' hN ht h:=by
  obtain ⟨l1,h1,e1⟩:=b.H id l' hN ht h;obtain ⟨l,h2,e2⟩:=a.H id l1 hN (kT b.o5 ht) h1;simp_all
 Y0:=b.Y0.trans a.Y0
 kR:=b.kR.trans a.kR
 skp m hm h:=b.skp m hm (a.skp m hm h)
theorem Tr.put v:Tr N k st (put st k v) where
 o5 _ h:=h
 L m id off hm h:=by
  grind [B3.put,q8]
 T _ _ _ h:=h
 H _ l _ _ h:=⟨l,h,rfl⟩
 Y0:=rfl
 kR:=by simp [B3.put]
 skp m hm h:=by
  grind [B3.put,q8]
def xX {l:List c7}{j m id off:Nat}{x}(h:(l.set j (.d x))[m]? =J (.ptr id off)):l[m]? =J (.ptr id off):=by
 grind
def zv {l:List c7}{j m:Nat}{z n c v}(hj:l[j]? =J (.own z n c))(h:l[m]? =J (c7.tuple [])):(l.set j v)[m]? =J (c7.tuple []):=by
 grind
theorem Tr.F1 y:Tr N k st (F1 st y).2:=by
 cases y with
 |loc j =>
  simp [B3.F1];split
  next hj=>
   exact ⟨λ_ h=>h,λm id off _ h=>xX h,λ_ _ _ h=>h,λ_ l _ _ h=>⟨l,h,rfl⟩,rfl,U,λ_ _ h=>zv hj h⟩
  all_goals simp_all [Tr.refl]
 |slot s=>exact Tr.refl _ _ _
 |const v=>exact Tr.refl _ _ _
def Tr.newObj {y4}(hi:∀i,y4=J i->i<O st.H)(hn:¬ N (newId st y4)) o:Tr N k st (E1 st y4 o) where
 o5 p h:=by cases y4<;>exact h
 L m id off _ h:=by cases y4<;>exact h
 T s id off h:=by cases y4<;>exact h
 H id l' hN _ h:=by
  grind [jk,absurd]
 Y0:=by cases y4<;>rfl
 kR:=by cases y4<;>rfl
 skp m _ h:=by cases y4<;>exact h
def Tr.heap {H' o5}(h1:∀p,st.o5.any p=W->o5.any p=W)(h2:∀id,N id->o5.any (Touch.G8 id)=F->H'[id]? =st.H[id]?):Tr N k st { st with H:=H',o5 } where
 o5:=h1
 L _ _ _ _ h:=h
 T _ _ _ h:=h
 H id l' hN ht h:=by
  simp_all
 Y0:=rfl
 kR:=rfl
 skp _ _ h:=h
theorem Tr.aJ {l sz len cells op}(h:aJ l st sz op=J (len,cells,st')):Tr N k st st' :=by
 unfold B3.aJ at h;split at h
 .split at h
  .cases h
  .split at h
   .split at h
    .cases h
     exact ⟨λp hp=>M,λ_ _ _ _ h=>h,λs id off h=>xX h,λ_ l _ _ h=>⟨l,h,rfl⟩,U,rfl,λ_ _ h=>h⟩
    .cases h
   .cases h
 .split at h
  .split at h
   .cases h
   .split at h
    .split at h
     .split at h
      .cases h
       refine ⟨λp hp=>M,λ_ _ _ _ h=>h,λ_ _ _ h=>h,λid' l' _ _ h=>?_,rfl,rfl,λ_ _ h=>h⟩
       grind [C7,y9,q8]
      .cases h
     .cases h
    .cases h
  .cases h
 .cases h
theorem Tr.Q7 {l j9 sz len cells y}(h:Q7 l j9 st sz y=J (len,cells,st')):Tr N k st st' :=by
 unfold B3.Q7 at h;split at h
 .simp_all [Tr.refl]
 .cases h
 .cases h
 .split at h
  next hj=>
   split at h
   .cases h
    exact ⟨λ_ h=>h,λm id off _ h=>xX h,λ_ _ _ h=>h,λ_ l _ _ h=>⟨l,h,rfl⟩,rfl,U,λ_ _ h=>zv hj h⟩
   .cases h
  all_goals grind [Tr.aJ]
theorem Yh {v:c7}{id i o}(h:v.kill id= .ptr i o):v= .ptr i o:=by
 cases v<;>simp [c7.kill] at h<;>first|omega|grind|exact h
def FV {l}{id m i o:Nat}(h:(K1 id l)[m]? =J (.ptr i o)):l[m]? =J (.ptr i o):=by
 grind [iI,Option.some.injEq,Yh]
theorem Tr.U8 {E sz bytes id lo len y}(h:U8 E k sz bytes st id lo len y=J st'):Tr N k st st' :=by
 unfold B3.U8 at h;split at h
 .split at h
  next l0 m cs hl0 _=>
   split at h
   .cases h
    refine Tr.trans ?_ (Tr.put _);refine ⟨λp hp=>M,λm' i o _ h=>FV h,λs i o h=>FV h,λid' l' _ ht h=>?_,by simp [S9],by simp [S9],λm' _ h=>by grind [iI,c7.kill,K1]⟩;have hne:id' ≠id:=by grind [Touch.G8]
    have h' :(sE st.H E.lim.base id (.cells (K1 id l0++cs)))[id']? =J (.cells l'):=h;unfold sE at h';rw [q8 (λe=>hne e.symm)] at h'
    by_cases hb:id' <E.lim.base
    .grind
    .by_cases hlt:id' <O st.H
     .rw [q9 D,List.getElem?_map,List.getElem?_drop] at h'
      rw [show E.lim.base+(id' - O (List.take E.lim.base st.H))=id' from by simp;omega] at h';cases ho:st.H[id']? with
      |none=>simp_all
      |some o =>
       rw [ho] at h';cases o<;>simp [B4.kill] at h'
       grind [S9]
     grind
   .cases h
  .cases h
 .cases h
theorem Tr.D7 {E f args}(gv:∀id,N id->id<O st.H)(h:D7 E k f args st=J st'):Tr N k st st' :=by
 unfold B3.D7 at h;split at h
 .split at h
  .split at h
   .cases h
    refine Tr.trans ?_ (Tr.put _);refine Tr.heap (λp hp=>M) λid hN ht=>?_
    grind [Touch.G8]
   .cases h
  .cases h
 .simp only at h
  split at h
  .split at h
   .split at h
    .split at h
     .cases h
      refine Tr.trans ?_ (Tr.put _);refine Tr.heap (λp hp=>M) λid hN ht=>?_
      simp_all [Touch.G8,q9,List.getElem?_drop]
     .cases h
    .cases h
   .grind [Tr.put]
   .split at h
    .split at h
     .cases h
      refine Tr.trans ?_ (Tr.put _);refine Tr.heap (λp hp=>M) λid hN ht=>?_
      simp_all [Touch.G8,q9,List.getElem?_drop]
     .cases h
    .cases h
  .cases h
theorem wq {H H' id off vs}(h:wr H id off vs=J H'){id'}(hne:id' ≠id):H'[id']? =H[id']? :=by
 grind [wr,q8]
theorem Tr.R2 {E n a x}(h:R2 E k n st a x=J st'):Tr N k st st' :=by
 unfold B3.R2 at h;split at h
 .split at h
  .split at h
   .split at h
    .cases h
     refine Tr.trans (Tr.trans (Tr.F1 x) ?_) (Tr.put _);refine Tr.heap (λp hp=>M) λid' hN ht=>?_
     grind [wq,Touch.G8]
    .cases h
   .cases h
  .cases h
 .cases h
theorem Tr.aj {E sz zero a}(h:aj E k sz zero st a=J st'):Tr N k st st' :=by
 unfold B3.aj at h;split at h
 .split at h
  .split at h
   .cases h
    refine Tr.trans ?_ (Tr.put _);refine Tr.heap (λp hp=>M) λid' hN ht=>?_
    grind [wq,Touch.G8]
   .cases h
  .cases h
 all_goals grind [Tr.put]
theorem Tr.W7 {E kk m key v}(h:W7 E k kk st m key v=J st'):Tr N k st st' :=by
 unfold B3.W7 at h;split at h
 .split at h
  .split at h
   .split at h
    .split at h
     .cases h
      refine Tr.trans ?_ (Tr.put _);refine Tr.heap (λp hp=>M) λid' hN ht=>?_
      simp_all [q8,Touch.G8]
     .cases h
    .cases h
   .cases h
  .cases h
 .cases h
theorem Tr.K0 {E j9 y4 sz bytes ob x y}(hi:∀i,y4=J i->i<O st.H)(hn:¬ N (newId st y4))
  (h:K0 E j9 y4 k sz bytes ob st x y=J st'):Tr N k st st' :=by
 unfold B3.K0 at h;split at h
 .split at h
  .split at h
   .split at h
    .grind [Tr.put]
    .cases h;exact (Tr.newObj hi hn _).trans (Tr.put _)
   .cases h
  .split at h
   .split at h
    next ht=>
     split at h
     .cases h;exact (Tr.Q7 ht).trans (Tr.put _)
     .cases h
    .cases h
   .cases h
 .cases h
theorem Tr.U7 {E y4 sz bytes id lo len y}(hi:∀i,y4=J i->i<O st.H)(h:U7 E y4 k sz bytes st id lo len y=J st')(hN:¬ N (newId st y4)):Tr N k st st' :=by
 unfold B3.U7 at h;split at h
 .split at h
  .split at h
   .cases h
    have h1:Tr N k st { st with H:=st.H.set id .dead,o5:= .obj id::st.o5 }:=by
     refine ⟨λp hp=>M,λm' i o _ h=>h,λs i o h=>h,λid' l' hn ht h=>?_,rfl,rfl,λm' _ h=>h⟩
     grind
    have e:newId { st with H:=st.H.set id .dead,o5:= .obj id::st.o5 } y4=newId st y4:=by simp_all [newId]
    exact (h1.trans (Tr.newObj (λi h=>M) M _)).trans (Tr.put _)
   .cases h
  .cases h
 .cases h
theorem Tr.D9 {E j9 y4 op}(gv:∀id,N id->id<O st.H)(hi:∀i,y4=J i->i<O st.H)(hn:op.A6=W->¬ N (newId st y4))
  (h:D9 E j9 y4 k st op=J st'):Tr N k st st' :=by
 cases op<;>simp only [B3.D9] at h<;>try (cases h;done)
 case alloc zero=>cases h;exact (Tr.newObj hi (hn rfl) _).trans (Tr.put _)
 case box x =>
  split at h
  .cases h;exact (Tr.newObj hi (hn rfl) _).trans (Tr.put _)
  .cases h
 case makeMap=>cases h;exact (Tr.newObj hi (hn rfl) _).trans (Tr.put _)
 case ug x=>cases h;exact Tr.put _
 case own sz x =>
  split at h
  next ht=>
   cases h;exact (Tr.Q7 ht).trans (Tr.put _)
  .cases h
 case jI sz zero x y =>
  split at h
  .cases h;exact (Tr.newObj hi (hn rfl) _).trans (Tr.put _)
  .cases h
 case J3 sz len zero parts ob =>
  cases ob
  .cases h
  .simp only at h
   split at h
   .split at h
    .cases h;exact (Tr.newObj hi (hn rfl) _).trans (Tr.put _)
    .cases h
   .cases h
 case store n a x=>exact Tr.R2 h
 case J9 sz bytes x y =>
  obtain ⟨s,hs,rfl⟩:=qj h;have hN:¬ N (newId st K):=λh=>Nat.lt_irrefl _ (gv _ h)
  refine Tr.trans (st1:=s) ?_ (Tr.heap (H' :=s.H) (λp hp=>by simp only [List.any_cons,hp,Bool.or_true]) λ_ _ _=>rfl);split at hs
  .split at hs
   .exact Tr.U7 (λ_ e=>by cases e) hs hN
   .cases hs
  .exact Tr.K0 (λ_ e=>by cases e) hN hs
 case append sz bytes ob x y =>
  split at h
  .split at h
   .exact Tr.U8 h
   .cases h
  .cases ob with
   |true=>exact Tr.K0 hi (hn rfl) h
   |false =>
    unfold B3.K0 at h;simp only [e8,if_false] at h;split at h
    .split at h
     .split at h
      next ht=>
       split at h
       .cases h;exact (Tr.Q7 ht).trans (Tr.put _)
       .cases h
      .cases h
     .cases h
    .cases h
 case clear sz zero x=>exact Tr.aj h
 case call f xs=>exact Tr.D7 gv h
 case Y2 x xs =>
  split at h
  .exact Tr.D7 gv h
  .cases h
 case dU=>exact Tr.W7 h
 case defer x =>
  split at h
  .split at h
   .cases h;exact Tr.put _
   .cases h
  .cases h
theorem Tr.D3 {E j9 y4 op rs}(gv:∀id,N id->id<O st.H)(hi:∀i,y4=J i->i<O st.H)(hn:op.A6=W->¬ N (newId st y4))
  (h:D3 E j9 y4 k op st=J (st',rs)):Tr N k st st' :=by
 unfold B3.D3 at h;split at h
 .grind [Tr.D9]
 .split at h
  .cases h
   exact (Tr.F1 _).trans (Tr.put _)
  grind [Tr.put]
end
end Go.B3
namespace Go.B3
variable [E0]
section
variable {P:Program} {X:Cx} {l:H8} {S:Nat->Prop} {st:G4} {a:Act} {w w' :World} {G G' :Gh} {I I' :T0} {N:Nat->Prop} {f9:Nat->Bool}
def Ext.bk1 {b id id'}(h:G b= .obj id):Ext G w (gR G b (.obj id')) w where
 os:=rfl
 tape:=rfl
 output:=rfl
 drawn _:=o6 _
 size:=o6 _
 mM x o hi:=by
  grind [jS,J1]
 still x hx:=by
  grind [J1]
 shape _ c _ _ hc:=⟨c,hc,rfl⟩
def cB.renew (h:RI X l S st a w G I N){k}(hk:¬ S k)(br:k<O st.L) entry{y4 id o0}(h0:st.H[id]? =J o0)(hid:Aw l st N y4)(hmay:l.may id=W)
  (hx:Ext G w G' w') (hkp:∀q,bI q G w G' w') (ho:∀id',id' ≠id->∀b,G b= .obj id' ->G' b= .obj id' /\w'.heap[b]? =w.heap[b]?) (hwf:WF G' w') (hI:∀i,N i->I' i=I i)
  {cs} (UX:OR G' I' (λi=>N i\/i=newId st y4) w' (newId st y4) (.cells cs)) {v x} (hv:VR G' I' (λi=>N i\/i=newId st y4) w' (.loc k) v x) o5 (Pj:o5.any (Touch.G8 id)=W) :
  cB X l S entry st a w G I N (put (E1 { st with H:=st.H.set id .dead,o5 } y4 (.cells cs)) k v) k x w' G' I' (λi=>N i\/i=newId st y4):=by
 have hnw:newId { st with H:=st.H.set id .dead,o5 } y4=newId st y4:=by simp_all [newId]
 have hTT:(E1 { st with H:=st.H.set id .dead,o5 } y4 (.cells cs)).T=st.T:=by cases y4<;>rfl
 have hLL:(E1 { st with H:=st.H.set id .dead,o5 } y4 (.cells cs)).L=st.L:=by cases y4<;>rfl
 have hCC:(E1 { st with H:=st.H.set id .dead,o5 } y4 (.cells cs)).o5=o5:=by cases y4<;>rfl
 have hlen:O st.H<=O (E1 { st with H:=st.H.set id .dead,o5 } y4 (.cells cs)).H:=by cases y4<;>simp [E1]
 have AE:∀(id' :Nat) o',(E1 { st with H:=st.H.set id .dead,o5 } y4 (.cells cs)).H[id']? =J o' ->(id' =newId st y4/\o' = .cells cs)\/(id' =id/\o' = .dead)\/(id' ≠id/\st.H[id']? =J o'):=by
  intro id' o' h'
  rcases jk (st:={ st with H:=st.H.set id .dead,o5 }) (y4:=y4) (λi hi=>by simpa using hid.inside i hi) _ id' o' h' with ⟨h1,h2⟩|⟨_,h2⟩
  all_goals grind
 have vr:∀{pl:Place} {b:c7} {u:Value},VR G I N w pl b u->VR G' I' (λi=>N i\/i=newId st y4) w' pl b u :=
  λhb=>VR.mono hx.sub hI (λ_ h=>Or.inl h) _ _ _ (Or.inr (hkp _)) hb
 refine ⟨⟨λs t ht=>by simp only [B3.put,hTT];exact vr (h.T s t ht),?_,?_,hwf,?_⟩,?_,hx,?_,?_,λi _ hN=>hI i hN,λ_ h=>Or.inl h,?_,?_⟩
 .intro j hj d hd hn
  have:k≠j:=by grind
  simp only [B3.put,hLL];rw [P0 _ _ _ _ _ this];exact vr (h.L j hj d hd hn)
 .intro id' o' ho'
  rcases AE id' o' ho' with ⟨rfl,rfl⟩|⟨rfl,rfl⟩|⟨hne,hold⟩
  .exact UX
  .simp [OR]
  .exact OR.mono hx.sub hI (λ_ h=>Or.inl h) id' o' (λhb=>ho id' hne _ hb) (λ_=>hkp _) (h.H id' o' hold)
 .intro id' o' ho'
  rcases AE id' o' ho' with ⟨rfl,rfl⟩|⟨rfl,rfl⟩|⟨hne,hold⟩
  .have h1:=hid.strict
   have h2:=hid.base;omega
  .simp [B4.K9]
  .exact h.W9 id' o' hold
 .simp_all [B3.put,O3]
 .intro id' Lb
  grind
 .grind [B3.put]
 .simp_all [B3.put]
 .intro id' o' hb ho'
  rcases AE id' o' ho' with ⟨rfl,rfl⟩|⟨rfl,rfl⟩|⟨hne,hold⟩
  .have h2:=hid.base
   omega
  all_goals simp_all [B4.K9,o6]
def EP (h:RI X l S st a w G I N)(hD:∀j,f9 j=W->S j){k}(hk:¬ S k)(br:k<O st.L) entry{y4}(hid:Aw l st N y4){o sz bytes ob x y}
  (hc:fA P (X.ck f9) o (.append sz bytes ob x y)=W) {E} (hE:E.lim=l) {id lo len} (hx:G5 st.T st.L x= .s5 id sz lo len) {st'} (he:U7 E y4 k sz bytes st id lo len (G5 st.T st.L y)=J st') :
  ∃v w' G' I',(execOp a.eval o).run P w= .ok (.value v) w' /\cB X l S entry st a w G I N st' k v w' G' I' (λi=>N i\/i=newId st y4):=by
 obtain ⟨x0,y0,t,t2,e,i,z,hop,Ri,hcy,ht2,hsz,hu,hi,hsi,XK,hz,hzs,hbp⟩:=eP hc;have hnew:¬ N (newId st y4):=hid.new;unfold U7 at he;rw [hE] at he;split at he
 next hmay=>
  split at he
  next l0 m cs hl0 hcs=>
   split at he
   next Pc=>
    obtain ⟨rfl,hlen,hroom,aY6,hone,_⟩:=Pc;cases he;obtain ⟨vn,hl,hf,Ws,hcl⟩:=sM (P:=P) h.H (h.R4 hD _ _ hcy) hsz hcs;have hval:=h.R4 hD _ _ Ri;rw [hx] at hval;simp only [VR] at hval;obtain ⟨XI,cap,hx0,hcap,c,e',f,hb,Rf⟩:=hval;have vA:(execOp a.eval o).run P w=((Builtin.append_ #[t,t2] o.type #[a.eval x0,a.eval y0]).run P w).andThen λv w' => .ok (.value v) w' :=by
     simp_all [guard,execOp,resolve,invoke,builtin]
    have yU:O vn=m * sz:=by grind [J5.length]
    subst hsi XK;have hO:=h.H id _ hl0;simp only [OR] at hO;obtain ⟨_,c0,e0,f0,h1,La,hnf,bI5,h5⟩:=hO;rw [hb] at h1;cases h1;have Lf:=yZ hone Ws;have bX7:id≠newId st y4:=by grind
    by_cases hfit:len+m<=cap
    ·
     have hrun:=eC (P:=P) (w:=w) (ty:=o.type) hu hi ht2 (base:=J (ad (I id).1 ((I id).2+0))) (sLen:=len) (sCap:=cap) hl (hf w rfl) hfit;have hbig:(len+m) * i.size<=cap * i.size:=K4 _ hfit;rw [Nat.add_mul] at hbig;have aK3:(I id).2+len * i.size+O vn<=c.size:=V
     have hst:=run_storeCells_at (P:=P) (I id).1 ((I id).2+0+len * i.size) e' f vn 0 c w hb hnf V Lf;have yR :(I id).2+0+len * i.size+O vn<=O c.toList:=D
     have ux :(L6 c.toList ((I id).2+0+len * i.size) vn).toArray.size=c.size:=by simp_all [List.size_toArray,lX,Array.length_toList]
     have hw:=yo (G:=G) hb La ux;have hxx:=hw.ext.trans (Ext.bk1 (w:=w.setRow (I id).1 (L6 c.toList ((I id).2+0+len * i.size) vn).toArray) (id' :=newId st y4) hw.mV);have hkk:∀q,bI q G w (gR G (I id).1 (.obj (newId st y4))) (w.setRow (I id).1 (L6 c.toList ((I id).2+0+len * i.size) vn).toArray):=by
      intro q b n hbq;have hne:b≠(I id).1:=by grind
      exact ⟨by simp_all [J1],hw.other b hne⟩
     have hII:∀i',N i' ->rE I (newId st y4) ((I id).1,(I id).2) i' =I i' :=λi' hN=>dn (by grind)
     refine ⟨.slice (J (ad (I id).1 ((I id).2+0))) (len+m) cap,w.setRow (I id).1 (L6 c.toList ((I id).2+0+len * i.size) vn).toArray,gR G (I id).1 (.obj (newId st y4)),rE I (newId st y4) ((I id).1,(I id).2),?_,
      cB.renew h hk br entry hl0 hid hmay hxx hkk (λid' hne b hbq=>?_) (λb hbq=>?_) hII ?_ ?_ (.obj id::st.o5) (by simp [Touch.G8])⟩
     .simp_all [aX,Nat.add_zero]
     .have hnb:b≠(I id).1:=by grind
      exact ⟨by simp_all [J1],hw.other b hnb⟩
     .have hwb:w.heap.size<=b:=M
      have hne:b≠(I id).1:=by
       grind
      rw [J1 hne];exact h.wf b hwb
     .simp only [OR,Y5]
      have mono:∀{pl:Place} {b:c7} {u:Value},VR G I N w pl b u->VR (gR G (I id).1 (.obj (newId st y4))) (rE I (newId st y4) ((I id).1,(I id).2)) (λi=>N i\/i=newId st y4) (w.setRow (I id).1 (L6 c.toList ((I id).2+0+len * i.size) vn).toArray) pl b u :=
       λhq=>VR.mono hxx.sub hII (λ_ h=>Or.inl h) _ _ _ (Or.inr (hkk _)) hq
      refine ⟨Or.inr trivial,_,e',f,setRow_heap w _ c _ e' f hb,U,M,?_,λj b hj=>?_⟩
      .grind
      .rw [show (L6 c.toList ((I id).2+0+len * i.size) vn).toArray[(I id).2+j]? =(L6 c.toList ((I id).2+0+len * i.size) vn)[(I id).2+j]? from by simp,lV _ _ _ yR]
       have hjl:=y9 hj;rw [s9,C5,hcl] at hjl
       by_cases Rk:j<O l0
       .rw [s8 M,List.getElem?_map,n5 Rk] at hj
        rw [if_pos V];simp only [C6,Option.some.injEq] at hj;subst hj;obtain ⟨v,g1,g2⟩:=h5 j _ (n5 Rk);exact ⟨v,M,mono g2.F4⟩
       .rw [q9 M,C5] at hj
        rw [if_neg V,if_pos V];obtain ⟨u,r1,r2⟩:=J5.get _ _ Ws (j - O l0) b hj;exact ⟨u,by grind,mono r2.place⟩
     .simp only [VR,Y5]
      exact ⟨Or.inr trivial,cap,rfl,hfit,_,e',f,setRow_heap w _ c _ e' f hb,V⟩
    ·
     have hlt:cap<len+m:=V
     have XM:∃vo:List Value,O vo=len * i.size/\(∀w2:World,w2.heap=w.heap->(Builtin.firstCells i.size len (.slice (J (ad (I id).1 ((I id).2+0))) len cap)).run P w2= .ok vo.toArray w2) /\
       (∀(j:Nat) b,l0[j]? =J b->∃v,vo[j]? =J v/\VR G I N w (.cell id j) b v):=by
      refine ⟨(List.range (len * i.size)).map (λj=>(c[(I id).2+j]?).getD default),U,λw2 XX=>?_,λj b hj=>?_⟩
      .have:=run_loadCells_list (P:=P) w2 (ad (I id).1 ((I id).2+0)) ((List.range (len * i.size)).map (λj=>(c[(I id).2+j]?).getD default)) (λj v hj=>by
        have hjn:j<len * i.size:=by
         grind
        simp [hjn] at hj
        grind [aX,ki,U5])
       simp_all [Builtin.firstCells]
      grind
     obtain ⟨vo,aK8,aK9,aL0⟩:=XM;obtain ⟨ep,Cy,hrun⟩:=gJ (P:=P) (w:=w) (ty:=o.type) hu hi hz ht2 (base:=J (ad (I id).1 ((I id).2+0))) (sLen:=len) (sCap:=cap) hl (hf w.drew rfl) (aK9 w.drew rfl) hlt (Bm hroom hbp) (sJ hroom hlt);have hnb:kE w (w.drew.alloc (.cells (vo.toArray++vn.toArray++Builtin.zeroCells z.cells (ep - (len+m))) e)) (.cells (vo.toArray++vn.toArray++Builtin.zeroCells z.cells (ep - (len+m))) e):=by
      have:=kE.alloc w.drew (.cells (vo.toArray++vn.toArray++Builtin.zeroCells z.cells (ep - (len+m))) e);exact ⟨this.os,this.tape,this.output,A3 (Nat.le_succ _) this.drawn,this.size,this.old,this.new⟩
     have hsize:(vo.toArray++vn.toArray++Builtin.zeroCells z.cells (ep - (len+m))).size=ep * i.size:=by
      simp only [Array.size_append,List.size_toArray,wu,hzs,aK8,yU];have:ep * i.size=(len+m) * i.size+(ep - (len+m)) * i.size:=by rw [<- Nat.add_mul];simp_all
      grind
     have hII:∀i',N i' ->rE I (newId st y4) (w.heap.size,0) i' =I i' :=λi' hN=>dn (by grind)
     refine ⟨.slice (J (ad w.heap.size 0)) (len+m) ep,_,gR G w.heap.size (.obj (newId st y4)),rE I (newId st y4) (w.heap.size,0),?_,
      cB.renew h hk br entry hl0 hid hmay (hnb.ext h.wf _) (hnb.keeps h.wf _) (λid' _=>hnb.AL h.wf _ id') (hnb.wf h.wf _) hII ?_ ?_ (.obj id::st.o5) (by simp [Touch.G8])⟩
     .simp_all
     .simp only [OR]
      have mono:∀{pl:Place} {b:c7} {u:Value},VR G I N w pl b u->VR (gR G w.heap.size (.obj (newId st y4))) (rE I (newId st y4) (w.heap.size,0)) (λi=>N i\/i=newId st y4) _ pl b u :=
       λhq=>VR.mono (hnb.ext h.wf _).sub hII (λ_ h=>Or.inl h) _ _ _ (Or.inr (hnb.keeps h.wf _ _)) hq
      refine ⟨Or.inr trivial,_,e,(0,0),by rw [Y5];exact hnb.new,U,og _,?_,λj b hj=>?_⟩
      .grind [Y5,s9,C5,K4,Nat.add_mul]
      .have hjl:=y9 hj
       rw [s9,C5,hcl] at hjl;simp only [Y5,Nat.zero_add];rw [show (vo.toArray++vn.toArray++Builtin.zeroCells z.cells (ep - (len+m)))[j]? =(vo++vn++(Builtin.zeroCells z.cells (ep - (len+m))).toList)[j]? from by grind,
        s8 M]
       by_cases Rk:j<O l0
       .rw [s8 M,List.getElem?_map,n5 Rk] at hj
        rw [s8 V];simp only [C6,Option.some.injEq] at hj;subst hj;obtain ⟨v,g1,g2⟩:=aL0 j _ (n5 Rk);exact ⟨v,g1,mono g2.F4⟩
       .rw [q9 M,C5] at hj
        rw [q9 V];obtain ⟨u,r1,r2⟩:=J5.get _ _ Ws (j - O l0) b hj;exact ⟨u,M,(mono r2).place⟩
     .simp only [VR]
      refine ⟨Or.inr trivial,ep,U,Cy,_,e,(0,0),by rw [Y5];exact hnb.new,?_⟩;simp_all
   .cases he
  .cases he
 .cases he
end
end Go.B3
namespace Go.B3
variable [E0]
structure wZ (y4:Option Nat)(X:Cx)(l:H8)(S:Nat->Prop)(entry:Nat)(st:G4)(a:Act)(w:World)(G:Gh)(I:T0)(N:Nat->Prop)
  (st' :G4) (k:Nat) (x' :Value) (w' :World) (G' :Gh) (I' :T0) (N' :Nat->Prop):Prop where
 mid:cB X l S entry st a w G I N st' k x' w' G' I' N'
 bY:∀id,N' id->id<O st'.H
 old:∀id,id<O st.H->N' id->N id\/y4=J id
def cR (P:Program)(o:Oper)(a:Act)(w:World)(R:Act->World->Prop):Prop :=
 ∀(d5:Act->World->Prop) (Q:Exit->Act->World->Prop),(∀a' w',R a' w' ->d5 a' w')->o.wp P a w d5 Q
section
variable {P:Program} {o:Oper} {a:Act} {w w' :World} {R:Act->World->Prop}
theorem cR.value {x}(h:(execOp a.eval o).run P w= .ok (.value x) w')(hR:R (a.put o.dst x) w'):cR P o a w R:=by
 intro d5 Q hK;simp_all [Oper.wp,Oper.upon]
theorem cR.skip (h:(execOp a.eval o).run P w= .ok .skip w')(hR:R (a.put o.dst undef) w'):cR P o a w R:=by
 intro d5 Q hK;simp_all [Oper.wp,Oper.upon]
theorem cR.defer {d}(h:(execOp a.eval o).run P w= .ok (.defer d) w')(hR:R ({ a with defers:=d::a.defers }.put o.dst undef) w'):cR P o a w R:=by
 intro d5 Q hK;simp_all [Oper.wp,Oper.upon]
theorem cR.enter {f args}(h:(execOp a.eval o).run P w= .ok (.enter f args) w)(hR:Calls P f args w λe w' =>∃x,e= .returned x/\R (a.put o.dst x) w'):cR P o a w R:=by
 intro d5 Q hK
 grind [Oper.wp,Oper.upon,Calls.mono]
end
def AY (P:Program)(ck:Operand->z6->Bool)(o:Oper)(op:s7):Bool :=
 match o.op,op with
 | .call ⟨.value (.func f),args,_⟩,.call g ys=>f==g&&WV ck args.toList ys&&U1 P f
 | .call ⟨.value x,args,_⟩,.Y2 y ys=>ck x y&&WV ck args.toList ys
 |_,_=>F
def KB (ck:Operand->z6->Bool)(o:Oper)(op:s7):Bool :=
 match o.op,op with
 | .defer ⟨.value x,args,_⟩,.defer y=>ck x y&&args.isEmpty
 |_,_=>F
def xm (ck:Operand->z6->Bool)(o:Oper)(y:z6):Bool :=
 match o.op with
 | .move x=>ck x y
 | .assign x=>ck x y
 |_=>F
def aN (P:Program)(ck:Operand->z6->Bool)(o:Oper)(op:s7):Bool :=
 match op with
 | .S1 y=>xm ck o y
 | .alloc _=>cT P ck o op
 | .box _=>cT P ck o op
 | .makeMap=>cT P ck o op
 | .ug x=>xm ck o (.const (.d x))
 | .own _ x=>xm ck o x
 | .jI .. =>cT P ck o op
 | .J3 .. =>cT P ck o op
 | .store .. =>BY P ck o op
 | .append _ _ _ _ _=>fA P ck o op
 | .J9 sz bytes x y=>fA P ck o (.append sz bytes W x y)
 | .dU .. =>OM P ck o op
 | .call .. =>AY P ck o op
 | .Y2 .. =>AY P ck o op
 | .defer _=>KB ck o op
 | .clear .. =>BW P ck o op
 | .bad=>W
 |op=>E9 P ck o op
section
variable {P:Program} {X:Cx} {l:H8} {S:Nat->Prop} {st st' :G4} {a:Act} {w w' :World} {G G' :Gh} {I I' :T0} {N N' :Nat->Prop} {f9:Nat->Bool} {j9:List o4}
def wZ.jJ {y4 entry k x}(gv:∀id,N id->id<O st.H)(h:cB X l S entry st a w G I N st' k x w' G' I' N):wZ y4 X l S entry st a w G I N st' k x w' G' I' N :=
 ⟨h,λid hid=>Nat.lt_of_lt_of_le (gv id hid) h.len,λ_ _ h=>Or.inl h⟩
def wZ.Vo {entry k x y4}(gv:∀id,N id->id<O st.H){o v}(hi:∀i,y4=J i->i<O st.H)
  (h:cB X l S entry st a w G I N (put (E1 st y4 o) k v) k x w' G' I' N') (hN:∀i,N' i↔N i\/i=newId st y4) :
  wZ y4 X l S entry st a w G I N (put (E1 st y4 o) k v) k x w' G' I' N' :=by
 refine ⟨h,λid hid=>?_,λid hlt hid=>?_⟩
 all_goals (simp_all [put,E1,newId]<;>grind)
def ua {l1 l2 v1 v2}:∀(_:J5 G I N w l1 v1) (_:J5 G I N w l2 v2),J5 G I N w (l1++l2) (v1++v2):=by
 induction l1 generalizing v1 with
 |nil=>simp_all [J5]
 |cons b bs ih =>
  grind [J5]
structure ja (X:Cx)(st:G4)(a:Act)(w:World)(I:T0)(op:s7)(x:Value):Prop where
 S1:∀s t,op= .S1 (.slot s)->X.names[s]? =J t->x=a.tmps.getD t undef
 load:∀y id off,op= .load K y->bF st y=J (id,off)->w.cell? (ad (I id).1 ((I id).2+off))=J x
def ja.other {X st a w I op x}(h1:∀y,op≠ .S1 y)(h2:∀n y,op≠ .load n y):ja X st a w I op x :=
 ⟨λ_ _ h=>absurd h (h1 _),λ_ _ _ h=>absurd h (h2 _ _)⟩
def as7 {st y id off}(h:bF st y=J (id,off)):G5 st.T st.L y= .ptr id off:=by
 unfold bF at h
 grind [G5,List.getD,c7.F4]
def Vj {ck η ρ H}(hρ:cS ck G I N w η ρ)(hH:HR G I N w H){o y}(hc:E9 P ck o (.load K y)=W){v rs}
  (h:l8 ρ H (.load K y)=J (v,rs)) {id off} (hp:ρ y= .ptr id off) {x} (hx:(execOp η o).run P w= .ok (.value x) w):w.cell? (ad (I id).1 ((I id).2+off))=J x:=by
 obtain ⟨dst,er,ty,pos,after,guard⟩:=o;cases er<;>simp [E9] at hc;rename_i t x';have h1:=hρ _ _ hc.1;have ha:dR P t=J F:=by simp_all [uB]
 simp [l8,hp] at h;rw [hp] at h1;simp [VR] at h1;split at h
 next u hu=>
  obtain ⟨_,xs,g1,_,g3,g4⟩:=hH.rd hu V;obtain ⟨z,rfl⟩:∃z,xs=[z]:=by
   match xs,g1 with
   |[z],_=>simp_all
  have hz:=g3 0 z rfl;simp_all [execOp,Instr.loadAt,Instr.sureAddr,loadVar,cu]
 .cases h
def BA (P:Program)(idle:FuncId->Bool)(y4:Option Nat)(X:Cx)(l:H8)(S:Nat->Prop)(entry:Nat)(st:G4)(a:Act)(w:World)(G:Gh)(I:T0)(N:Nat->Prop)(st' :G4)(k:Nat)(o:Oper)(op:s7)(a' :Act)(w' :World):Prop :=
 ∃x ds G' I' N',ja X st a w I op x/\a' =({ a with defers:=ds }:Act).put o.dst x/\(ds=a.defers\/∃d,ds=d::a.defers/\Kh P idle d)/\wZ y4 X l S entry st a w G I N st' k x w' G' I' N'
def Mu {E}(Rh:qc P E.cf E.prom)(gV:∀f args H lm r,E.cf f args H lm=J r->U1 P f=W)(hE:E.lim=l)(h:RI X l S st a w G I N)(hpv:PV X j9 S st a w I)(hT:O st.T=O X.names)
  (gv:∀id,N id->id<O st.H) (hb:l.base<=O st.H) (hs:l.strict<=l.base) (hD:∀j,f9 j=W->S j) {k} (hk:¬ S k) (br:k<O st.L) {o op} (hc:aN P (X.ck f9) o op=W)
  {y4} (hid:op.A6=W->Aw l st N y4) {rs} (he:D3 E j9 y4 k op st=J (st',rs)) :
  cR P o a w (BA P E.idle y4 X l S E.entry st a w G I N st' k o op):=by
 have hρ:=h.R4 hD;have fin:∀{x:Value} {w' :World} {G' :Gh} {I' :T0} {N' :Nat->Prop},ja X st a w I op x->wZ y4 X l S E.entry st a w G I N st' k x w' G' I' N' ->BA P E.idle y4 X l S E.entry st a w G I N st' k o op (a.put o.dst x) w' :=
  λ{x w' G' I' N'} hF hS=>⟨x,a.defers,G',I',N',hF,rfl,Or.inl rfl,hS⟩
 have YW:∀{v:c7} {rs:List Nat},(∀y,op≠ .S1 y)->E9 P (X.ck f9) o op=W->l8 (G5 st.T st.L) st.H op=J (v,rs)->st' =put st k v->cR P o a w (BA P E.idle y4 X l S E.entry st a w G I N st' k o op):=by
  intro v rs hm h1 h2 h3;subst h3;obtain ⟨x,g1,g2⟩:=PN (P:=P) (λv=>by rfl) hρ h.H h1 h2;refine cR.value g1 (fin ⟨λs t e=>absurd e (hm _),λy id off e hp=>?_⟩ (wZ.jJ gv (cB.same h hk br E.entry g2.place)));subst e;exact Vj hρ h.H h1 h2 (as7 hp) g1
 have Kv:(∀y,op≠ .S1 y)->(∀n y,op≠ .load n y)->∀(f:FuncId) (args:List c7) (H9:Array Value),J5 G I N w args H9.toList->D7 E k f args st=J st' ->(execOp a.eval o).run P w=(callFunc f H9).run P w->cR P o a w (BA P E.idle y4 X l S E.entry st a w G I N st' k o op):=by
  intro hm hl f args H9 h1 h2 h3;have hcan:U1 P f=W:=by
   unfold D7 at h2;split at h2
   .split at h2
    next Pc=>
     exact gV f _ _ _ _ Pc
    .cases h2
   .simp only at h2
    split at h2
    .split at h2
     .split at h2
      next Pc=>
       exact gV f _ _ _ _ Pc
      .cases h2
     .split at h2
      next Pc=>
       exact gV f _ _ _ _ Pc
      .cases h2
     .split at h2
      next Pc=>
       exact gV f _ _ _ _ Pc
      .cases h2
    .cases h2
  refine cR.enter (f:=f) (args:=H9) (by rw [h3];exact vR hcan H9) ?_;refine Calls.mono (UE Rh hE h gv hb hs hk br E.entry h1 h2) ?_;rintro e w' ⟨x,G',I',N',rfl,hC⟩;exact ⟨x,rfl,fin (ja.other hm hl) ⟨hC.mid,hC.bY,λid hlt hid=>Or.inl (hC.old id hlt hid)⟩⟩
 unfold D3 at he;cases op
 case S1 y =>
  simp only [s7.D4,e8,if_false] at he;cases he;simp only [aN] at hc;have key:∀x,X.ck f9 x y=W->(execOp a.eval o).run P w= .ok (.value (a.eval x)) w->cR P o a w (BA P E.idle y4 X l S E.entry st a w G I N (put (F1 st y).2 k (F1 st y).1) k o (.S1 y)):=by
   intro x hx hrun;obtain ⟨G1,hX⟩:=h.F1 hD hx (pl:= .loc k) U;have hM:=cB.same hX.ri hk (by rw [DV];exact br) E.entry hX.val;exact cR.value hrun (fin ⟨λs t e hn=>by cases e;simp only [Cx.ck] at hx;split at hx<;>simp_all [Act.eval],λ_ _ _ e=>by cases e⟩ (wZ.jJ gv (cB.pre hX.ext hX.keeps hX.obj (yq st y) hM)))
  obtain ⟨dst,er,ty,pos,after,guard⟩:=o;cases er<;>simp only [xm] at hc<;>try (cases hc;done)
  .exact key _ hc (by simp [execOp])
  .exact key _ hc (by simp [execOp])
 case alloc zero =>
  simp only [s7.D4,if_true,D9] at he;cases he;have h1:=hid rfl;obtain ⟨x,w',G',I',N',g1,g2,g3⟩:=Vp h hk br E.entry h1 (by simpa [aN] using hc);exact cR.value g1 (fin (ja.other U U) (wZ.Vo gv h1.inside g2 g3))
 case box y =>
  simp only [s7.D4,if_true,D9] at he;split at he
  next hcs=>
   split at hcs
   next cs ux=>
    cases hcs;cases he;have h1:=hid rfl;obtain ⟨x,w',G',I',N',g1,g2,g3⟩:=ap9 h hρ hk br E.entry h1 (by simpa [aN] using hc) ux;exact cR.value g1 (fin (ja.other U U) (wZ.Vo gv h1.inside g2 g3))
   .cases hcs
  .cases he
 case ug d =>
  simp only [s7.D4,if_true,D9] at he;cases he;simp only [aN] at hc;have key:∀x,X.ck f9 x (.const (.d d))=W->(execOp a.eval o).run P w= .ok (.value (a.eval x)) w->cR P o a w (BA P E.idle y4 X l S E.entry st a w G I N (put st k (.d d)) k o (.ug d)):=by
   intro x hx hrun;have g2:VR G I N w .none (.d d) (a.eval x):=hρ x _ hx;exact cR.value hrun (fin (ja.other U U) (wZ.jJ gv (cB.same h hk br E.entry g2.place)))
  obtain ⟨dst,er,ty,pos,after,guard⟩:=o;cases er<;>simp only [xm] at hc<;>try (cases hc;done)
  .exact key _ hc (by simp [execOp])
  .exact key _ hc (by simp [execOp])
 case own sz y =>
  simp only [s7.D4,if_true,D9] at he;split at he
  next hcs=>
   split at hcs
   next len cells st1 ht=>
    cases hcs;cases he;simp only [aN] at hc;have key:∀x,X.ck f9 x y=W->(execOp a.eval o).run P w= .ok (.value (a.eval x)) w ->
      cR P o a w (BA P E.idle y4 X l S E.entry st a w G I N (put st1 k (.own sz len cells)) k o (.own sz y)):=by
     intro x hx hrun;obtain ⟨G1,KU⟩:=tI h hpv hT hD hk hx (hE ▸ ht);exact cR.value hrun (fin (ja.other U U) (wZ.jJ gv (cB.aq8 KU (cB.same KU.ri hk (by rw [KU.L];exact br) E.entry KU.val))))
    obtain ⟨dst,er,ty,pos,after,guard⟩:=o;cases er<;>simp only [xm] at hc<;>try (cases hc;done)
    .exact key _ hc (by simp [execOp])
    .exact key _ hc (by simp [execOp])
   .cases hcs
  .cases he
 case makeMap =>
  simp only [s7.D4,if_true,D9] at he;cases he;have h1:=hid rfl;obtain ⟨x,w',G',I',N',g1,g2,g3⟩:=aq0 (P:=P) h hk br E.entry h1 (by simpa [aN] using hc);exact cR.value g1 (fin (ja.other U U) (wZ.Vo gv h1.inside g2 g3))
 case jI sz zero x y =>
  simp only [s7.D4,if_true,D9] at he;split at he
  next hcs=>
   split at hcs
   next n hn=>
    cases hcs;cases he;have h1:=hid rfl;obtain ⟨x,w',G',I',N',g1,g2,g3⟩:=Vq h hρ hk br E.entry h1 (by simpa [aN] using hc) hn;exact cR.value g1 (fin (ja.other U U) (wZ.Vo gv h1.inside g2 g3))
   .cases hcs
  .cases he
 case J3 sz len zero parts ob =>
  cases ob with
  |false =>
   simp only [s7.D4,e8,if_false] at he;split at he
   next v rs' hp=>
    cases he;obtain ⟨x,w',G',g1,g2⟩:=Vr h hρ hk br E.entry (by simpa [aN] using hc) hp;exact cR.value g1 (fin (ja.other U U) (wZ.jJ gv g2))
   .cases he
  |true =>
   simp only [s7.D4,if_true,D9] at he;split at he
   next hcs=>
    split at hcs
    next cs ux=>
     split at hcs
     next hl=>
      cases hcs;cases he;have h1:=hid rfl;obtain ⟨x,w',G',I',N',g1,g2,g3⟩:=IY h hρ hk br E.entry h1 (by simpa [aN] using hc) ux hl.2;exact cR.value g1 (fin (ja.other U U) (wZ.Vo gv h1.inside g2 g3))
     .cases hcs
    .cases hcs
   .cases he
 case store n x y =>
  simp only [s7.D4,if_true,D9] at he;split at he
  next hst=>
   cases he;obtain ⟨w',G',g1,g2⟩:=UG h hD hk br E.entry (by simpa [aN] using hc) hE hst;exact cR.skip g1 (fin (ja.other U U) (wZ.jJ gv g2))
  .cases he
 case J9 sz bytes x y =>
  simp only [aN] at hc;have h1:Aw l st N K:=⟨λh=>Nat.lt_irrefl _ (gv _ h),λ_ e=>(by cases e),hb,A3 hs hb⟩;simp only [s7.D4,if_true] at he;split at he
  next hst=>
   cases he;simp only [D9] at hst;obtain ⟨s,hs2,rfl⟩:=qj hst;split at hs2
   next id z lo len hx=>
    split at hs2
    next hz=>
     subst hz;obtain ⟨v,w',G',I',g1,g2⟩:=EP h hD hk br E.entry h1 hc hE hx hs2;have hlen:O st.H<O s.H:=by
      unfold U7 at hs2;split at hs2
      .split at hs2
       .split at hs2
        .cases hs2
         simp [put,E1]
        .cases hs2
       .cases hs2
      .cases hs2
     refine cR.value g1 (fin (ja.other U U) ⟨g2.o5 _,λid hid=>?_,λid hlt hid=>?_⟩)
     .rcases hid with hid|rfl
      .exact Nat.lt_of_lt_of_le (gv id hid) g2.len
      .exact hlen
     .rcases hid with hid|rfl
      .exact Or.inl hid
      .exact absurd hlt (Nat.lt_irrefl _)
    .cases hs2
   .rcases tu h hpv hT hD hk br E.entry h1 hc hE hs2 with ⟨v,w',G',g1,g2⟩|⟨v,w',G',I',N',ob,av,g1,rfl,g2,g3⟩
    .exact cR.value g1 (fin (ja.other U U) (wZ.jJ gv (g2.o5 _)))
    .refine cR.value g1 (fin (ja.other U U) ⟨g2.o5 _,λid hid=>?_,λid hlt hid=>?_⟩)
     .rcases (g3 id).1 hid with hid|rfl
      .exact Nat.lt_of_lt_of_le (gv id hid) g2.len
      .simp [put,E1,newId]
     .rcases (g3 id).1 hid with hid|rfl
      .exact Or.inl hid
      .exact absurd hlt (Nat.lt_irrefl _)
  .cases he
 case append sz bytes ob x y =>
  simp only [aN] at hc;simp only [s7.D4,if_true,D9] at he;split at he
  next hst=>
   cases he;split at hst
   next id z lo len hx=>
    split at hst
    next hz=>
     subst hz;obtain ⟨v,w',G',I',g1,g2⟩:=ES h hD hk br hc hE hx hst;exact cR.value g1 (fin (ja.other U U) (wZ.jJ gv g2))
    .cases hst
   .cases ob with
    |false =>
     obtain ⟨v,w',G',g1,g2⟩:=OW h hpv hT hD hk br E.entry hc hE hst;exact cR.value g1 (fin (ja.other U U) (wZ.jJ gv g2))
    |true =>
     have h1:=hid rfl
     rcases tu h hpv hT hD hk br E.entry h1 hc hE hst with ⟨v,w',G',g1,g2⟩|⟨v,w',G',I',N',ob,av,g1,rfl,g2,g3⟩
     .exact cR.value g1 (fin (ja.other U U) (wZ.jJ gv g2))
     .exact cR.value g1 (fin (ja.other U U) (wZ.Vo gv h1.inside g2 g3))
  .cases he
 case dU kk m ky v =>
  simp only [s7.D4,if_true,D9] at he;split at he
  next hst=>
   cases he;obtain ⟨w',g1,g2⟩:=OX h hD hk br E.entry (by simpa [aN] using hc) hE hst;exact cR.skip g1 (fin (ja.other U U) (wZ.jJ gv g2))
  .cases he
 case call f ys =>
  simp only [s7.D4,if_true,D9] at he;split at he
  next hst=>
   cases he;simp only [aN,AY] at hc;split at hc
   next f' args _ g ys' hop heq=>
    cases heq;simp only [c8,beq_iff_eq] at hc;obtain ⟨⟨rfl,hcs⟩,hcan⟩:=hc;refine Kv U U f' (ys.map (G5 st.T st.L)) (args.map a.eval) (by simpa using kj hρ _ _ hcs) hst ?_;simp [execOp,hop,resolve,Act.eval,Deferred.ofValue,invoke]
   .rename_i heq;cases heq
   .cases hc
  .cases he
 case Y2 y ys =>
  simp only [s7.D4,if_true,D9] at he;split at he
  next hst=>
   cases he;simp only [aN,AY] at hc;split at hc
   .rename_i heq;cases heq
   next x args _ y' ys' hop heq=>
    cases heq;simp only [c8] at hc;have hv:=hρ _ _ hc.1;split at hst
    next f first caps hy=>
     rw [hy] at hv;simp only [VR] at hv;obtain ⟨vf,vc,e1,e2,e3⟩:=hv;refine Kv U U f (first++ys.map (G5 st.T st.L)++caps) (vf++args.map a.eval++vc) ?_ hst ?_
     .simp only [Array.toList_append,Array.toList_map]
      exact ua (ua e2 (kj hρ _ _ hc.2)) e3
     .simp [execOp,hop,resolve,e1,Deferred.ofValue,invoke]
    .cases hst
   .cases hc
  .cases he
 case defer y =>
  simp only [s7.D4,if_true,D9] at he;split at he
  next hst=>
   cases he;simp only [aN,KB] at hc;split at hc
   next x args _ y' hop heq=>
    cases heq;simp only [c8] at hc;have hv:=hρ _ _ hc.1;split at hst
    next f first caps hy=>
     split at hst
     next FL=>
      cases hst;rw [hy] at hv;simp only [VR] at hv;obtain ⟨vf,vc,e1,e2,e3⟩:=hv;have hrun:(execOp a.eval o).run P w= .ok (.defer { target:= .fn (.func f) vc,args:=vf++args.map a.eval }) w:=by
       simp [execOp,hop,resolve,e1,Deferred.ofValue]
      refine cR.defer hrun ⟨undef,_,G,I,N,ja.other U U,rfl,Or.inr ⟨_,rfl,f,vc,rfl,FL⟩,wZ.jJ gv (cB.same h hk br E.entry (by simp [VR]))⟩
     .cases hst
    .cases hst
   .cases hc
  .cases he
 case clear sz zero y =>
  simp only [s7.D4,if_true,D9] at he;split at he
  next hst=>
   cases he;obtain ⟨w',g1,g2⟩:=UF h hD hk br E.entry (by simpa [aN] using hc) hE hst;exact cR.value g1 (fin (ja.other U U) (wZ.jJ gv g2))
  .cases he
 case bad=>simp [s7.D4,l8] at he
 all_goals
  simp only [s7.D4,e8,if_false] at he;split at he
  next hp=>
   cases he;exact YW U (by simpa only [aN] using hc) hp rfl
  .cases he
end
end Go.B3
namespace Go.B3
variable [E0]
def qt (names:List Tmp):Option Tmp->Option Nat->Bool
 |none,K=>W
 |some d,K=> !names.contains d
 |some d,J s=>names[s]? ==J d
 |none,J _=>F
def qu (X:Cx)(f9:Nat->Bool):Option (Nat×Bool)->Option (Nat×Bool)->Bool
 |none,K=>W
 |some (g,b),J (g',b')=>g==g' &&b==b' &&f9 g&&(match (X.ops[g]?).bind (·.dst) with
  |some d=> !X.names.contains d
  |none=>F)
 |_,_=>F
def ue (X:Cx)(f9:Nat->Bool)(o:Oper)(i:o4):Bool :=
 aN X.P (X.ck f9) o i.op&&qt X.names o.dst i.dst&&qu X f9 o.guard i.guard
structure Stat (X:Cx)(nt:Nat):Prop where
 dup:∀(i j:Nat) d,(X.ops[i]?).bind (·.dst)=J d->(X.ops[j]?).bind (·.dst)=J d->X.names.contains d=F->i=j
 lt:∀(i:Nat) d,(X.ops[i]?).bind (·.dst)=J d->d<nt
 nod:∀(s s' :Nat) t,X.names[s]? =J t->X.names[s']? =J t->s=s'
def yB (X:Cx)(S:Nat->Prop):z6->Prop
 | .loc m=>S m/\∃t,(X.ops[m]?).bind (·.dst)=J t/\X.names.contains t=F
 | .slot s=>∃t,X.names[s]? =J t
 | .const _=>True
structure Rg (X:Cx)(j9:List o4)(E:Env)(nt:Nat)(S:Nat->Prop)(st:G4)(a:Act)(w:World)(G:Gh)(I:T0)(N:Nat->Prop):Prop where
 ri:RI X E.lim S st a w G I N
 pv:PV X j9 S st a w I
 cl:∀(j:Nat) ai y,S j->j9[j]? =J ai->ai.op=s7.load K y->yB X S y
 Y0:O st.T=O X.names
 kR:O st.L=O j9
 bY:∀id,N id->id<O st.H
 IE:E.entry<=O st.H
 size:a.tmps.size=nt
 idle:∀d,d∈a.defers->Kh X.P E.idle d
structure bw (E:Env)(H0:n9)(w0:World)(G0:Gh)(I0:T0)(N0:Nat->Prop)(H:n9)(w:World)(G:Gh)(I:T0)(N:Nat->Prop):Prop where
 ext:Ext G0 w0 G w
 ew:mX E.lim G0 w0 G w
 inj:∀id,id<E.entry->N0 id->I id=I0 id
 mono:∀id,id<E.entry->N0 id->N id
 old:∀id,id<E.entry->N id->N0 id
 hle:∀(id:Nat) (o' :B4),id<E.lim.base->H[id]? =J o' ->o'.K9<=id+1\/∃o:B4,H0[id]? =J o/\o'.K9<=o.K9
theorem bw.refl E H w G I N:bw E H w G I N H w G I N :=
 ⟨Ext.refl _ _,mX.refl _ _ _,λ_ _ _=>rfl,λ_ _ h=>h,λ_ _ h=>h,λ_ o _ h=>Or.inr ⟨o,h,o6 _⟩⟩
theorem bw.trans {E H0 H1 H2 w0 w1 w2 G0 G1 G2 I0 I1 I2 N0 N1 N2}
  (h:bw E H0 w0 G0 I0 N0 H1 w1 G1 I1 N1) (k:bw E H1 w1 G1 I1 N1 H2 w2 G2 I2 N2):bw E H0 w0 G0 I0 N0 H2 w2 G2 I2 N2 where
 ext:=h.ext.trans k.ext
 ew:=h.ew.trans k.ew
 inj id hid hN:=(k.inj id hid (h.mono id hid hN)).trans (h.inj id hid hN)
 mono id hid hN:=k.mono id hid (h.mono id hid hN)
 old id hid hN:=h.old id hid (k.old id hid hN)
 hle id o' hb ho:=by
  rcases k.hle id o' hb ho with h1|⟨o1,h1,h2⟩
  .omega
  .rcases h.hle id o1 hb h1 with h3|⟨o,h3,h4⟩
   all_goals grind
section
variable {X:Cx} {j9:List o4} {E:Env} {nt:Nat} {S:Nat->Prop} {st st1 st2:G4} {a:Act} {w w' :World} {G G' :Gh} {I I' :T0} {N N' :Nat->Prop} {f9:Nat->Bool}
def Rg.bQ3 (h:Rg X j9 E nt S st a w G I N){y}(hy:yB X S y){id off}(hp:bF st y=J (id,off)):N id:=by
 unfold bF at hp;split at hp
 next m=>
  split at hp
  .obtain ⟨h1,t,h2,h3⟩:=hy
   have:=h.ri.L m h1 t h2 h3;simp_all [bQ,VR]
  .cases hp
 next s=>
  split at hp
  .cases hp
  .split at hp
   .obtain ⟨t,ht⟩:=hy
    have:=h.ri.T s t ht;simp_all [bQ,VR]
   .cases hp
 .cases hp
theorem U4 {y4 k dst}(h:y8 y4 st1 k dst=J st2) :
  (dst=K/\st2=st1)\/∃s o5,dst=J s/\s<O st1.T/\st2={ (F1 st1 (.loc k)).2 with T:=st1.T.set s (F1 st1 (.loc k)).1,o5 }/\(o5= .slot s::st1.o5\/(o5=st1.o5/\st1.o5.any (Touch.V7 s)=W)):=by
 unfold y8 at h;split at h
 .simp_all [F2]<;>grind
 .cases dst with
  |none=>cases h;simp_all
  |some s =>
   grind [X2,F1]
theorem DL {y4 k dst}(h:y8 y4 st1 k dst=J st2) p(hp:st1.o5.any p=W):st2.o5.any p=W:=by
 rcases U4 h with ⟨_,rfl⟩|⟨s,o5,_,_,rfl,rfl|⟨rfl,_⟩⟩
 all_goals simp_all
theorem DJ {y4 k s dst}(h:y8 y4 st1 k dst=J st2)(hd:dst=J s):st2.o5.any (Touch.V7 s)=W:=by
 grind [U4,Touch.V7]
def rD {y4 k dst}(h:y8 y4 st1 k dst=J st2):st2.H=st1.H:=by
 grind [U4,yq]
def MD {y4 k dst}(h:y8 y4 st1 k dst=J st2):O st2.L=O st1.L:=by
 grind [U4,DV]
def ME {y4 k dst}(h:y8 y4 st1 k dst=J st2):O st2.T=O st1.T:=by
 grind [U4]
theorem oZ st k m(h:m≠k):(F1 st (.loc k)).2.L[m]? =st.L[m]? :=by
 simp only [F1];split
 .simp only
  rw [q8 (λe=>h e.symm)]
 .rfl
 .rfl
theorem MC {y4 k dst}(h:y8 y4 st1 k dst=J st2){m}(hm:m≠k):st2.L[m]? =st1.L[m]? :=by
 grind [U4,oZ]
def Qn {y4 k dst}(h:y8 y4 st1 k dst=J st2){y}(hy:∀m,y= .loc m->m≠k){id off}(hp:bF st2 y=J (id,off)):bF st1 y=J (id,off):=by
 cases y with
 |const v=>exact hp
 |loc m =>
  grind [bF,MC]
 |slot s' =>
  simp only [bF] at hp ⊢;split at hp
  .cases hp
  .have hn' :st2.o5.any (Touch.V7 s')=F:=M
   rw [if_neg (by grind [kT,DL])]
   grind [DJ,U4,q8]
def Tr.ptr {k}(h:Tr N k st st1){y}(hy:∀m,y= .loc m->m≠k){id off}(hp:bF st1 y=J (id,off)):bF st y=J (id,off):=by
 cases y with
 |const v=>exact hp
 |loc m =>
  simp [bF] at hp ⊢;split at hp
  next hl=>
   cases hp;rw [h.L m _ _ (hy m rfl) hl]
  .cases hp
 |slot s =>
  simp only [bF] at hp ⊢;split at hp
  .cases hp
  .rw [if_neg (by rw [kT h.o5 M];simp)]
   split at hp
   next hl=>
    cases hp;rw [h.T s _ _ hl]
   .cases hp
def ct {d:Tmp}{x}(h:d<a.tmps.size):(a.put (J d) x).tmps.getD d undef=x:=by
 simp [Act.put,h]
def ak {dst t x}(h:dst≠J t):(a.put dst x).tmps.getD t undef=a.tmps.getD t undef:=by
 simp_all [Act.put]<;>grind
def size_put {dst x}:(a.put dst x).tmps.size=a.tmps.size:=by
 cases dst<;>simp [Act.put]
def ox {dst x}:(a.put dst x).defers=a.defers:=by
 cases dst<;>simp [Act.put]
theorem RI.defers {l ds}(h:RI X l S st a w G I N):RI X l S st { a with defers:=ds } w G I N :=
 ⟨h.T,h.L,h.H,h.wf,h.W9⟩
def RI.after {l}(hst:Stat X nt)(hsz:a.tmps.size=nt)(hT:O st1.T=O X.names){k}(hk:¬ S k)(br:k<O st1.L){o}(ho:X.ops[k]? =J o){dst}(hd:qt X.names o.dst dst=W)
  (h:RI X l S st1 a w G I N) {x} (hv:VR G I N w (.loc k) (st1.L.getD k .any) x) {y4} (hts:y8 y4 st1 k dst=J st2) :
  ∃G',Ext G w G' w/\(∀id off,bI (.cell id off) G w G' w)/\(∀b id,G b= .obj id->G' b= .obj id)/\RI X l (λj=>S j\/j=k) st2 (a.put o.dst x) w G' I N:=by
 have yS:(X.ops[k]?).bind (·.dst)=o.dst:=by rw [ho];rfl
 rcases U4 hts with ⟨rfl,rfl⟩|⟨s,cF,rfl,hs,rfl,_⟩
 .have Lc:∀d,o.dst=J d->X.names.contains d=F:=by
   intro d hd';rw [hd'] at hd;simpa [qt] using hd
  refine ⟨G,Ext.refl _ _,λ_ _ _ _ h=>⟨h,rfl⟩,λ_ _ h=>h,?_,?_,h.H,h.wf,h.W9⟩
  .intro s t ht
   rw [ak ?_]
   .exact h.T s t ht
   .intro e
    have h1:=Lc t e;have h2:t∈X.names:=List.mem_of_getElem? ht;simp [h2] at h1
  .intro j hj d EC hjn
   rcases hj with hj|rfl
   .rw [ak ?_]
    .exact h.L j hj d EC hjn
    .intro e
     have:=hst.dup j k d EC (by rw [yS];exact e) hjn;subst this;exact hk hj
   .rw [yS] at EC
    rw [EC,ct (by rw [hsz];exact hst.lt j d (by rw [yS];exact EC))];exact hv
 .·cases hod:o.dst with
   |none=>rw [hod] at hd;simp [qt] at hd
   |some d =>
    rw [hod] at hd;have gv:X.names[s]? =J d:=by simpa [qt] using hd
    have hdn:X.names.contains d=W:=by
     have:d∈X.names:=List.mem_of_getElem? gv;simp [this]
    have bF8:d<a.tmps.size:=by rw [hsz];exact hst.lt k d (by rw [yS];exact hod)
    have main:∀(v:c7) (st3:G4) (G' :Gh),lM (.loc k) G w G' ->VR G' I N w (.slot s) v x->st3.H=st1.H->(∀m,m≠k->st3.L[m]? =st1.L[m]?)->st3.T=st1.T.set s v ->
      RI X l (λj=>S j\/j=k) st3 (a.put (J d) x) w G' I N:=by
     intro v st3 G' hm hv' hH hL hT3;refine ⟨?_,?_,?_,hm.wf h.wf,?_⟩
     .intro s' t ht
      rw [hT3]
      by_cases he:s' =s
      .subst he
       rw [gv] at ht;cases ht;rw [O3 _ _ _ _ hs,ct bF8];exact hv'
      .rw [P0 _ _ _ _ _ (λe=>he e.symm),ak (λe=>he (hst.nod s' s t ht (by rw [gv,<- Option.some_inj.1 e])))]
       exact VR.mono hm.ext (λ_ _=>rfl) (λ_ h=>h) _ _ _ (Or.inr (hm.keeps _ U)) (h.T s' t ht)
     .intro j hj d' EC hjn
      have hjk:S j:=by
       rcases hj with hj|rfl
       .exact hj
       .rw [yS,hod] at EC;cases EC;rw [hdn] at hjn;cases hjn
      have hne:j≠k:=by rintro rfl;exact hk hjk
      have e1:st3.L.getD j .any=st1.L.getD j .any:=by simp only [List.getD,hL j hne]
      rw [e1,ak (λe=>by cases e;rw [hdn] at hjn;cases hjn)];exact VR.mono hm.ext (λ_ _=>rfl) (λ_ h=>h) _ _ _ (Or.inr (hm.keeps _ (by simp;exact hne))) (h.L j hjk d' EC hjn)
     .rw [hH];exact h.H.LF hm U
     .rw [hH];exact h.W9
    by_cases hown:∃z n c,st1.L[k]? =J (.own z n c)
    .obtain ⟨z,n,c,az6⟩:=hown
     rw [bQ az6] at hv;obtain ⟨G',hm,hv'⟩:=kW (zh := .slot s) U hv;refine ⟨G',hm.ext,λid off=>hm.keeps _ U,hm.obj,?_⟩;have e1:(B3.F1 st1 (.loc k)).1= .own z n c:=by simp only [B3.F1,az6]
     exact main (.own z n c) _ G' hm hv' (yq _ _) (λm hm=>oZ st1 k m hm) (by simp only [e1])
    .by_cases hnil:st1.L[k]? =J .H7
     .have e1:B3.F1 st1 (.loc k)=(.H7,st1):=by simp only [B3.F1,hnil]
      refine ⟨G,Ext.refl _ _,λ_ _ _ _ h=>⟨h,rfl⟩,λ_ _ h=>h,?_⟩;refine main .H7 _ G (lM.refl _ _ _) ?_ (yq _ _) (λm hm=>oZ st1 k m hm) (by simp only [e1]);rw [bQ hnil] at hv;simpa only [VR] using hv
     .have e1:B3.F1 st1 (.loc k)=(G5 st1.T st1.L (.loc k),st1):=by
       simp only [B3.F1];split
       .rename_i z n c hj;exact absurd ⟨z,n,c,hj⟩ hown
       .rename_i hj;exact absurd hj hnil
       .rfl
      refine ⟨G,Ext.refl _ _,λ_ _ _ _ h=>⟨h,rfl⟩,λ_ _ h=>h,?_⟩;refine main (G5 st1.T st1.L (.loc k)) _ G (lM.refl _ _ _) ?_ (yq _ _) (λm hm=>oZ st1 k m hm) (by simp only [e1]);simp only [G5];exact hv.F4
def PV.after (hst:Stat X nt)(hR:Rg X j9 E nt S st a w G I N){k}(hk:¬ S k){o}(ho:X.ops[k]? =J o){i}(hi:j9[k]? =J i)(hd:qt X.names o.dst i.dst=W)
  (hcl:∀y,i.op= .load K y->yB X S y) (htr:Tr N k st st1) {y4} (hts:y8 y4 st1 k i.dst=J st2) {x ds}
  (hko:∀id,N id->st1.o5.any (Touch.G8 id)=F->I' id=I id/\∀b,G b= .obj id->w'.heap[b]? =w.heap[b]?)
  (hf:st2.L[k]? =J (.tuple [])\/ja X st a w I i.op x):PV X j9 (λj=>S j\/j=k) st2 ({ a with defers:=ds }.put o.dst x) w' I' :=by
 have yS:(X.ops[k]?).bind (·.dst)=o.dst:=by rw [ho];rfl
 have skp:∀j,j≠k->st2.L[j]? ≠J (.tuple [])->st.L[j]? ≠J (.tuple []):=by
  intro j hj h1 h2;rw [MC hts hj] at h1;exact h1 (htr.skp j hj h2)
 have aM4:∀p,st2.o5.any p=F->st.o5.any p=F/\st1.o5.any p=F:=by
  intro p hp;have h1:=kT (DL hts) hp;exact ⟨kT htr.o5 h1,h1⟩
 have ZE:∀(s:Nat) t,X.names[s]? =J t->st2.o5.any (Touch.V7 s)=F->o.dst≠J t:=by
  intro s t ht hh e;rw [e] at hd;cases hdi:i.dst with
  |none =>
   grind [List.mem_of_getElem?,qt]
  |some s' =>
   rw [hdi] at hd hts;have h1:X.names[s']? =J t:=by simp_all [qt]
   have:=hst.nod s s' t ht h1
   grind [DJ]
 have QU:∀(j:Nat) d,S j->(X.ops[j]?).bind (·.dst)=J d->X.names.contains d=F->o.dst≠J d:=by
  intro j d hj EC hjn e;have:=hst.dup j k d EC (by grind) hjn
  grind
 have Kz:∀y id off l0,yB X S y->bF st2 y=J (id,off)->st2.H[id]? =J (.cells l0)->off<O l0->st2.o5.any (Touch.aR id off)=F ->
   bF st y=J (id,off)/\st.o5.any (Touch.aR id off)=F/\(∃l,st.H[id]? =J (.cells l)/\off<O l)/\w'.cell? (ad (I' id).1 ((I' id).2+off))=w.cell? (ad (I id).1 ((I id).2+off)):=by
  intro y id off l0 hy hp hH hoff hh;have hym:∀m,y= .loc m->m≠k:=by
   rintro m rfl rfl;exact hk hy.1
  have hp1:=Qn hts hym hp;have hp0:=htr.ptr hym hp1;have hN:=hR.bQ3 hy hp0;have hob:st1.o5.any (Touch.G8 id)=F:=by
   cases he:st1.o5.any (Touch.G8 id) with
   |false=>rfl
   |true =>
    rw [List.any_eq_true] at he;obtain ⟨t,ht,hth⟩:=he;have:st1.o5.any (Touch.aR id off)=W:=by
     rw [List.any_eq_true];refine ⟨t,ht,?_⟩;cases t<;>simp only [Touch.G8,Touch.aR] at hth ⊢<;>first|exact hth|cases hth
    grind
  rw [rD hts] at hH;obtain ⟨l,hl,hle⟩:=htr.H id l0 hN hob hH;have hO:=hR.ri.H id _ hl
  grind [OR,World.cell?]
 refine ⟨?_,?_⟩
 .intro j ai s t d hj hsk hai hop ht EC hjn hh
  rw [ak (ZE s t ht hh)]
  rcases hj with hj|rfl
  .rw [ak (QU j d hj EC hjn)]
   exact hR.pv.slot j ai s t d hj (skp j (by grind) hsk) hai hop ht EC hjn (aM4 _ hh).1
  .rw [hi] at hai;cases hai
   rw [yS] at EC;rw [EC,ct (by simp only;rw [hR.size];exact hst.lt j d (by grind))]
   rcases hf with hf|hf
   .grind
   .exact hf.S1 s t hop ht
 .intro j ai y id off d l0 hj hsk hai hop hp hH hoff hh EC hjn
  rcases hj with hj|rfl
  .have hy:=hR.cl j ai y hj hai hop
   obtain ⟨h1,h2,⟨l,h3,h4⟩,h5⟩:=Kz y id off l0 hy hp hH hoff hh;rw [ak (QU j d hj EC hjn),h5];exact hR.pv.cell j ai y id off d l hj (skp j (by grind) hsk) hai hop h1 h3 h4 h2 EC hjn
  .rw [hi] at hai;cases hai
   have hy:=hcl y hop;obtain ⟨h1,h2,⟨l,h3,h4⟩,h5⟩:=Kz y id off l0 hy hp hH hoff hh;rw [yS] at EC;rw [EC,ct (by simp only;rw [hR.size];exact hst.lt j d (by grind)),h5]
   rcases hf with hf|hf
   .grind
   .exact hf.load y id off hop h1
end
end Go.B3
namespace Go.B3
variable [E0]
section
variable {X:Cx} {j9:List o4} {E:Env} {nt:Nat} {S:Nat->Prop} {st st1 st2:G4} {a:Act} {w w' :World} {G G' :Gh} {I I' :T0} {N N' :Nat->Prop} {f9:Nat->Bool}
theorem wm (hR:Rg X j9 E nt S st a w G I N)(hD:∀j,f9 j=W->S j){o g}(hc:qu X f9 o.guard g=W){b}(hw:A9 st.L g=J b):Region.wanted o (yielded X.ops a.tmps)=b:=by
 unfold Region.wanted;cases hg:o.guard with
 |none =>
  grind [A9,qu]
 |some p =>
  obtain ⟨g0,want⟩:=p;rw [hg] at hc;cases g with
  |none=>simp [qu] at hc
  |some q =>
   obtain ⟨g1,ce6⟩:=q;simp only [qu,c8,beq_iff_eq] at hc;obtain ⟨⟨⟨rfl,rfl⟩,hDg⟩,Cw⟩:=hc;cases hd:(X.ops[g0]?).bind (·.dst) with
   |none=>simp_all
   |some d =>
    rw [hd] at Cw;simp only [o8] at Cw;have hv:=hR.ri.L g0 (hD g0 hDg) d hd Cw;have hy:yielded X.ops a.tmps g0=(match a.tmps[d]? with|some (.bool b)=>J b|_=>K):=by
     grind [yielded]
    simp [A9] at hw;split at hw
    .cases hw
     simp_all [VR,DR,bool,undef]<;>grind
    all_goals (simp_all [VR,bool]<;>grind)
structure aV9 (X:Cx)(j9:List o4)(E:Env)(nt:Nat)(S:Nat->Prop)(st:G4)(w:World)(G:Gh)(I:T0)(N:Nat->Prop)(k:Nat)(y4:Option Nat)(st2:G4)(a' :Act)(w' :World)(G' :Gh)(I' :T0)(N' :Nat->Prop):Prop where
 rg:Rg X j9 E nt (λj=>S j\/j=k) st2 a' w' G' I' N'
 since:bw E st.H w G I N st2.H w' G' I' N'
 len:O st.H<=O st2.H
 old:∀id,id<O st.H->N' id->N id\/y4=J id
theorem LQ (hD:∀j,f9 j=W->S j){x y}(hc:X.ck f9 x y=W):yB X S y:=by
 unfold Cx.ck at hc;split at hc
 .exact ⟨_,by simpa using hc⟩
 .simp only [c8,beq_iff_eq,o8] at hc
  exact ⟨hD _ hc.1.1,_,hc.1.2,hc.2⟩
 .trivial
 .trivial
 .trivial
 .cases hc
theorem Lx (hD:∀j,f9 j=W->S j){o n y}(hc:aN X.P (X.ck f9) o (.load n y)=W):yB X S y:=by
 simp [aN] at hc;obtain ⟨dst,er,ty,pos,after,guard⟩:=o;cases er<;>simp [E9] at hc
 grind [LQ]
theorem Rg.after (hst:Stat X nt)(hR:Rg X j9 E nt S st a w G I N)(hD:∀j,f9 j=W->S j){k}(hk:¬ S k)(br:k<O st.L){o}(ho:X.ops[k]? =J o){i}(hi:j9[k]? =J i)(hc:ue X f9 o i=W)
  {y4} (hne:∀i,y4=J i->E.entry<=i) (htr:Tr N k st st1) (hts:y8 y4 st1 k i.dst=J st2) {x ds} (hds:ds=a.defers\/∃d,ds=d::a.defers/\Kh X.P E.idle d)
  (hf:st2.L[k]? =J (.tuple [])\/ja X st a w I i.op x) (hS:wZ y4 X E.lim S E.entry st a w G I N st1 k x w' G' I' N') :
  ∃G'',aV9 X j9 E nt S st w G I N k y4 st2 ({ a with defers:=ds }.put o.dst x) w' G'' I' N' :=by
 simp [ue,c8] at hc;obtain ⟨⟨hc1,pG⟩,hc3⟩:=hc;have hm:=hS.mid;obtain ⟨G2,e1,e2,e3,e4⟩:=RI.after (l:=E.lim) (a:={ a with defers:=ds }) hst hR.size (by rw [htr.Y0];exact hR.Y0) hk (by rw [htr.kR];exact br) ho pG hm.ri.defers hm.val hts;have hpv:=PV.after (w' :=w') (I' :=I') (x:=x) (ds:=ds) hst hR hk ho hi pG (λy hy=>Lx hD (by simp_all<;>omega)) htr hts (λid hN ht=>by
  obtain ⟨h1,h2⟩:=hm.ko id hN ht;simp_all) hf
 refine ⟨G2,⟨e4,hpv,?_,?_,?_,?_,?_,?_,?_⟩,⟨?_,?_,?_,?_,?_,?_⟩,?_,hS.old⟩
 .intro j ai y hj hai hop
  have lift:yB X S y->yB X (λj=>S j\/j=k) y:=by
   intro h;cases y with
   |loc m=>exact ⟨Or.inl h.1,h.2⟩
   |slot s=>exact h
   |const v=>trivial
  rcases hj with hj|rfl
  .exact lift (hR.cl j ai y hj hai hop)
  grind [Lx]
 .rw [ME hts,htr.Y0];exact hR.Y0
 .rw [MD hts,htr.kR];exact hR.kR
 .intro id hid;rw [rD hts];exact hS.bY id hid
 .rw [rD hts];exact A3 hR.IE hm.len
 .rw [size_put];exact hR.size
 .rw [ox]
  intro d hd
  rcases hds with rfl|⟨d',rfl,hid⟩
  .exact hR.idle d hd
  .simp [C4] at hd
   rcases hd with rfl|hd
   .exact hid
   .exact hR.idle d hd
 .exact hm.ext.trans e1
 .exact hm.ew.trans λid _=>⟨λb hb=>⟨e3 b id hb,rfl⟩,e2 id⟩
 .intro id hid hN;exact hm.inj id hid hN
 .intro id _ hN;exact hm.mono id hN
 .intro id hid hN
  rcases hS.old id (Nat.lt_of_lt_of_le hid hR.IE) hN with h1|h1
  all_goals grind
 .intro id o' hb ho';rw [rD hts] at ho';exact hm.hle id o' hb ho'
 .rw [rD hts];exact hm.len
def zA (hst:Stat X nt)(Rh:qc X.P E.cf E.prom)(gV:∀f args H lm r,E.cf f args H lm=J r->U1 X.P f=W)(hs:E.lim.strict<=E.lim.base)(hbe:E.lim.base<=E.entry)(hR:Rg X j9 E nt S st a w G I N)
  (hD:∀j,f9 j=W->S j) {k} (hk:¬ S k) {o} (ho:X.ops[k]? =J o) {i} (hi:j9[k]? =J i) (hc:ue X f9 o i=W) {y4} (hid:i.op.A6=W->Aw E.lim st N y4) (hne:∀i,y4=J i->E.entry<=i/\i<O st.H)
  {rs} (he:A2 E j9 y4 k i st=J (st2,rs)) d5 Q
  (hK:∀a' w' G' I' N',aV9 X j9 E nt S st w G I N k y4 st2 a' w' G' I' N' ->d5 a' w'):wpOp X.P X.ops Q k d5 a w:=by
 have br:k<O st.L:=by rw [hR.kR];grind
 have uw :=hc;simp [ue,c8] at uw;obtain ⟨⟨hc1,pG⟩,hc3⟩:=uw;unfold wpOp;simp [ho];unfold A2 at he;split at he
 next hw=>
  rw [if_pos (wm hR hD hc3 hw)];split at he
  next st1 rs1 hW=>
   split at he
   next bT1 hts=>
    refine Or.inl ?_;have hrun:=Mu (P:=X.P) Rh gV rfl hR.ri hR.pv hR.Y0 hR.bY (A3 hbe hR.IE) hs hD hk br hc1 (y4:=y4) hid hW;refine hrun d5 Q ?_;rintro a' w' ⟨x,ds,G',I',N',hF,rfl,hds,hS⟩;have htr:Tr N k st st1:=Tr.D3 hR.bY (λi h=>(hne i h).2) (λha=>(hid ha).new) hW;obtain ⟨G'',hdone⟩:=Rg.after hst hR hD hk br ho hi hc (λi h=>(hne i h).1) htr hts hds (Or.inr hF) hS
    grind
   .cases he
  .cases he
 .rw [if_neg (by grind [wm])]
  split at he
  next bT1 hts=>
   cases he;have htr:Tr N k st (put st k (.tuple [])):=Tr.put _;have hS:wZ y4 X E.lim S E.entry st a w G I N (put st k (.tuple [])) k undef w G I N :=
    wZ.jJ hR.bY (cB.same hR.ri hk br E.entry (by exact ⟨#[],rfl,by simp [J5]⟩))
   have hL:st2.L[k]? =J (.tuple []):=by
    grind [U4,put,F1]
   obtain ⟨G'',hdone⟩:=Rg.after hst hR hD hk br ho hi hc (λi h=>(hne i h).1) htr hts (Or.inl rfl) (Or.inl hL) hS;exact hK _ _ _ _ _ hdone
  .cases he
 .cases he
def ou (X:Cx):List o4->Nat->Bool
 |[],k=>X.ops.size==k
 |i::is,k=>(match X.ops[k]? with
  |some o=>ue X (λj=>decide (j<k)) o i
  |none=>F)&&ou X is (k+1)
structure Fin (X:Cx)(j9:List o4)(E:Env)(nt:Nat)(st0:G4)(w:World)(G:Gh)(I:T0)(N:Nat->Prop)(st2:G4)(a' :Act)(w' :World)(G' :Gh)(I' :T0)(N' :Nat->Prop):Prop where
 rg:Rg X j9 E nt (λj=>j<O j9) st2 a' w' G' I' N'
 since:bw E st0.H w G I N st2.H w' G' I' N'
def Rg.congr {S'}(h:Rg X j9 E nt S st a w G I N)(hS:∀j,S j↔S' j):Rg X j9 E nt S' st a w G I N:=by
 have:S=S' :=funext λj=>propext (hS j)
 simp_all
def Jt (hst:Stat X nt)(Rh:qc X.P E.cf E.prom)(gV:∀f args H lm r,E.cf f args H lm=J r->U1 X.P f=W)(hs:E.lim.strict<=E.lim.base)(hbe:E.lim.base<=E.entry) Q :
  ∀ is k,j9.drop k=is->k<=O j9->ou X is k=W->∀ st a w G I N st2,Rg X j9 E nt (λj=>j<k) st a w G I N->gI E j9 is k st=J st2 ->
   (∀a' w' G' I' N',Fin X j9 E nt st w G I N st2 a' w' G' I' N' ->Q .normal a' w')->wpOps X.P X.ops Q (List.range' k (O is)) a w:=by
 intro is
 induction is with
 |nil =>
  intro k hd hk _ st a w G I N st2 hR hrun hQ;cases hrun;have br:O j9=k:=by
   simp_all [List.length]<;>omega
  exact hQ _ _ _ _ _ ⟨M,bw.refl _ _ _ _ _ _⟩
 |cons i is ih =>
  intro k hd hk hc st a w G I N st2 hR hrun hQ;have hi:j9[k]? =J i:=by
   have:(j9.drop k)[0]? =J i:=by rw [hd];rfl
   grind
  have hd' :j9.drop (k+1)=is:=by
   have:=congrArg (List.drop 1) hd
   grind [List.drop_drop]
  simp [ou,c8] at hc;obtain ⟨hc1,pG⟩:=hc;simp [gI] at hrun;split at hrun
  next st1 rs hstep=>
   cases ho:X.ops[k]? with
   |none=>simp_all
   |some o =>
    rw [ho] at hc1;simp [q7];refine zA hst Rh gV hs hbe hR (f9:=λj=>decide (j<k)) (λj hj=>M) (Nat.lt_irrefl k) ho hi hc1 (y4:=K) (λ_=>?_) (λi h=>by cases h) hstep _ _ ?_
    .exact ⟨(λhN=>by have:=hR.bY _ hN;grind [newId]),(λi h=>by cases h),by exact A3 hbe hR.IE,by exact A3 hs (A3 hbe hR.IE)⟩
    .intro a' w' G' I' N' hdone
     refine ih (k+1) hd' (y9 hi) pG st1 a' w' G' I' N' st2 (hdone.rg.congr λj=>V) hrun ?_;intro a'' w'' G'' I'' N'' xF;exact hQ _ _ _ _ _ ⟨xF.rg,hdone.since.trans xF.since⟩
  .cases hrun
end
end Go.B3
namespace Go.B3
variable [E0]
def z6.eo:z6->List Nat
 | .loc j=>[j]
 |_=>[]
def z6.slots:z6->List Nat
 | .slot s=>[s]
 |_=>[]
def s7.R4:s7->List z6
 | .S1 x=>[x]
 | .pick c a b=>[c,a,b]
 | .alloc _=>[]
 | .box x=>[x]
 | .build _ parts=>parts.map (·.2.2)
 | .J3 _ _ _ parts _=>parts.map (·.2.2)
 | .jI _ _ x y=>[x,y]
 | .load _ x=>[x]
 | .store _ a x=>[a,x]
 | .cH x=>[x]
 | .bin _ x y=>[x,y]
 | .un _ x=>[x]
 | .AJ _ x=>[x]
 | .A1 _ x y=>[x,y]
 | .Bc _ _ x y=>[x,y]
 | .pE _ x=>[x]
 | .mH x=>[x]
 | .Z0 _ x lo hi=>x::(lo.toList++hi.toList)
 | .off _ x=>[x]
 | .J4 _ x i=>[x,i]
 | .jA _ _ x i=>[x,i]
 | .K6 x i=>[x,i]
 | .extract x _=>[x]
 | .fld x _=>[x]
 | .len x=>[x]
 | .Y0 x=>[x]
 | .append _ _ _ x y=>[x,y]
 | .J9 _ _ x y=>[x,y]
 | .iL _ xs=>xs
 | .clear _ _ x=>[x]
 | .an _ first caps=>first++caps
 | .call _ xs=>xs
 | .Y2 x xs=>x::xs
 | .makeMap=>[]
 | .ug _=>[]
 | .own _ x=>[x]
 | .lookup _ _ _ m k=>[m,k]
 | .dU _ m k v=>[m,k,v]
 | .defer x=>[x]
 | .bad=>[]
def eF (j9:List o4)(i:o4):List Nat :=
 (i.op.R4.flatMap z6.eo)++(match i.guard with|some (g,_)=>[g]|none=>[]) ++
 (match i.op with
  | .append _ _ _ (.loc j) _=>(match j9[j]? with|some a=>a.op.R4.flatMap z6.eo|none=>[])
  | .J9 _ _ (.loc j) _=>(match j9[j]? with|some a=>a.op.R4.flatMap z6.eo|none=>[])
  | .own _ (.loc j)=>(match j9[j]? with|some a=>a.op.R4.flatMap z6.eo|none=>[])
  |_=>[])
def fP (i:o4):List Nat:=i.op.R4.flatMap z6.slots
def X0 {α β:Type}{f g:α->β}{l:List α}(h:∀x,x∈l->f x=g x):l.map f=l.map g:=List.map_congr_left h
def lS {ρ ρ' :z6->c7}{ps:List (Nat×Nat×z6)}(h:∀x,x∈ps.map (·.2.2)->ρ' x=ρ x):(ps.map λ(o,s,x)=>(o,s,ρ' x))=ps.map λ(o,s,x)=>(o,s,ρ x):=by
 grind [List.map_congr_left]
def yG {ρ ρ' d o}(h:∀x,x∈o.toList->ρ' x=ρ x):V2 ρ' d o=V2 ρ d o:=by
 simp_all [V2]<;>grind
def oM {ρ ρ' H op}(h:∀x,x∈op.R4->ρ' x=ρ x):l8 ρ' H op=l8 ρ H op:=by
 cases op<;>simp only [s7.R4] at h
 case build=>simp only [l8,lS h]
 case J3 sz len zero parts ob=>cases ob<;>simp only [l8,lS h]
 case iL isMax xs=>simp only [l8,X0 h]
 case an f first caps =>
  simp only [l8];rw [X0 (l:=first) λx hx=>h x (by simp [hx]),X0 (l:=caps) λx hx=>h x (by simp [hx])]
 case Z0 sz x lo hi =>
  have h1:=h x U;have h2:∀d,V2 ρ' d lo=V2 ρ d lo:=λd=>yG λy hy=>h y (by simp at hy ⊢;simp [hy])
  have h3:∀d,V2 ρ' d hi=V2 ρ d hi:=λd=>yG λy hy=>h y (by simp at hy ⊢;simp [hy])
  simp only [l8,h1,h2,h3]
 case load n x=>cases n<;>simp only [l8,h x U]
 case pick c a b=>simp only [l8,h c U,h a U,h b U]
 case bin b x y=>simp only [l8,h x U,h y U]
 case A1 b x y=>simp only [l8,h x U,h y U]
 case Bc b ks x y=>simp only [l8,h x U,h y U]
 case J4 s x y=>simp only [l8,h x U,h y U]
 case jA n s x y=>simp only [l8,h x U,h y U]
 case K6 x y=>simp only [l8,h x U,h y U]
 case lookup kk z ok x y=>simp only [l8,h x U,h y U]
 case cH x=>simp only [l8,h x U]
 case un b x=>simp only [l8,h x U]
 case AJ b x=>simp only [l8,h x U]
 case pE k x=>simp only [l8,h x U]
 case mH x=>simp only [l8,h x U]
 case off k x=>simp only [l8,h x U]
 case extract x i=>simp only [l8,h x U]
 case fld x i=>simp only [l8,h x U]
 case len x=>simp only [l8,h x U]
 case Y0 x=>simp only [l8,h x U]
 all_goals rfl
def T1:Option B4->Option B4->Prop
 |some (.cells l),J (.cells l')=>l.map c7.F4=l'.map c7.F4
 |a,b=>a=b
theorem T1.refl o:T1 o o:=by
 simp_all [T1]<;>grind
def T1.symm {a b}(h:T1 a b):T1 b a:=by
 simp_all [T1,absurd]<;>grind
theorem T1.trans {a b c}(h:T1 a b)(k:T1 b c):T1 a c:=by
 simp_all [T1]<;>grind
theorem QF (v:c7):v.F4.F4=v.F4:=by cases v<;>rfl
def aC2 {H H' id off n}(h:T1 H'[id]? H[id]?){vs}(hr:rd H id off n=J vs):∃vs',rd H' id off n=J vs' /\vs'.map c7.F4=vs.map c7.F4:=by
 unfold rd at hr ⊢;split at hr
 next l hl=>
  split at hr
  .cases hr
   rw [hl] at h;cases h' :H'[id]? with
   |none=>simp_all [T1]
   |some o =>
    rw [h'] at h;cases o with
    |cells l' =>
     have h:l'.map c7.F4=l.map c7.F4:=by grind [T1]
     have hll:O l'=O l:=by simpa using congrArg List.length h
     simp_all
    |dead=>simp [T1] at h
    |map es=>simp [T1] at h
  .cases hr
 .cases hr
def LV {ρ H H' op v rs}(h:l8 ρ H op=J (v,rs))(hr:∀id,id∈rs->T1 H'[id]? H[id]?):l8 ρ H' op=J (v,rs):=by
 cases op
 case load n x =>
  cases n with
  |none =>
   simp only [l8] at h ⊢;split at h
   next id off hp=>
    split at h
    next u hu=>
     cases h;obtain ⟨vs',h1,h2⟩:=aC2 (hr id U) hu;obtain ⟨u',rfl⟩:∃u',vs' =[u']:=by
      have:=congrArg List.length h2;simp at this;exact List.length_eq_one_iff.1 this
     simp at h2;simp only [h1,h2]
    .cases h
   .exact h
   .cases h
  |some n =>
   simp only [l8] at h ⊢;split at h
   next id off hp=>
    split at h
    next us hu=>
     cases h;obtain ⟨vs',h1,h2⟩:=aC2 (hr id U) hu;simp only [h1,h2]
    .cases h
   .exact h
   .cases h
 case lookup kk zero ok m k =>
  simp only [l8] at h ⊢;split at h
  next id key hp hq=>
   split at h
   next es hes=>
    split at h
    next hf hft=>
     cases h;have:=hr id U;rw [hes] at this;have h' :H'[id]? =J (.map es):=by
      cases h' :H'[id]? with
      |none=>rw [h'] at this;simp [T1] at this
      |some o=>rw [h'] at this;cases o<;>simp_all [T1]
     simp only [h',hf,hft]
    .cases h
   .cases h
  .exact h
  .cases h
 case J3 sz len zero parts ob=>cases ob<;>exact h
 all_goals exact h
structure Still (k:Nat)(dst y4:Option Nat)(d:List Touch)(st st' :G4):Prop where
 L:∀m,m≠k->(st'.L.getD m .any).F4=(st.L.getD m .any).F4
 Gb:∀m,m≠k->∀b,st'.L[m]? =J (c7.d (.bool b))↔st.L[m]? =J (c7.d (.bool b))
 Gt:∀m,m≠k->(st'.L[m]? =J (c7.tuple [])↔st.L[m]? =J (c7.tuple []))
 T:∀s,dst≠J s->(st'.T.getD s .any).F4=(st.T.getD s .any).F4
 o5:st'.o5=d++st.o5
 H:∀id:Nat,d.any (Touch.G8 id)=F->y4≠J id->T1 st'.H[id]? st.H[id]?
 Py:O st.H<=O st'.H
 kR:O st'.L=O st.L
 Y0:O st'.T=O st.T
section
variable {k:Nat} {dst y4:Option Nat} {d d1 d2:List Touch} {st st1 st' :G4}
theorem Still.refl k dst y4 st:Still k dst y4 [] st st :=
 ⟨λ_ _=>rfl,λ_ _ _=>Iff.rfl,λ_ _=>Iff.rfl,λ_ _=>rfl,rfl,λ_ _ _=>T1.refl _,o6 _,rfl,rfl⟩
theorem Still.trans (h:Still k dst y4 d1 st st1)(g:Still k dst y4 d2 st1 st'):Still k dst y4 (d2++d1) st st' where
 L m hm:=(g.L m hm).trans (h.L m hm)
 Gb m hm b:=(g.Gb m hm b).trans (h.Gb m hm b)
 Gt m hm:=(g.Gt m hm).trans (h.Gt m hm)
 T s hs:=(g.T s hs).trans (h.T s hs)
 o5:=by rw [g.o5,h.o5,M3]
 H id hd hn:=by
  simp only [List.any_append,E5] at hd;exact (g.H id hd.1 hn).trans (h.H id hd.2 hn)
 Py:=A3 h.Py g.Py
 kR:=g.kR.trans h.kR
 Y0:=g.Y0.trans h.Y0
theorem Still.put v:Still k dst y4 [] st (put st k v) where
 L m hm:=by grind [B3.put,P0]
 Gb m hm b:=by grind [B3.put,q8]
 Gt m hm:=by grind [B3.put,q8]
 T _ _:=rfl
 o5:=rfl
 H _ _ _:=T1.refl _
 Py:=o6 _
 kR:=by simp [B3.put]
 Y0:=rfl
def Still.L1 {j z n c}(hj:st.L[j]? =J (.own z n c)):Still k dst y4 [] st { st with L:=st.L.set j (.d (.slice n c)) } where
 L m _:=by
  by_cases e:j=m
  .subst e
   rw [O3 _ _ _ _ (y9 hj),bQ hj];rfl
  simp_all
 Gb m _ b:=by
  grind
 Gt m _:=by
  grind
 T _ _:=rfl
 o5:=rfl
 H _ _ _:=T1.refl _
 Py:=o6 _
 kR:=U
 Y0:=rfl
theorem Still.F1 y:Still k dst y4 [] st (F1 st y).2:=by
 cases y with
 |loc j =>
  simp only [B3.F1];split
  next hj=>
   exact Still.L1 hj
  .exact Still.refl _ _ _ _
  .exact Still.refl _ _ _ _
 |slot s=>exact Still.refl _ _ _ _
 |const v=>exact Still.refl _ _ _ _
def Still.heap {H' :n9}(h2:∀id,d.any (Touch.G8 id)=F->y4≠J id->T1 H'[id]? st.H[id]?)(hl:O st.H<=O H'):Still k dst y4 d st { st with H:=H',o5:=d++st.o5 } :=
 ⟨λ_ _=>rfl,λ_ _ _=>Iff.rfl,λ_ _=>Iff.rfl,λ_ _=>rfl,rfl,h2,hl,rfl,rfl⟩
def Still.newObj {i} o:Still k dst (J i) [] st (E1 st (J i) o) :=
 ⟨λ_ _=>rfl,λ_ _ _=>Iff.rfl,λ_ _=>Iff.rfl,λ_ _=>rfl,rfl,λid _ hn=>by
  simp_all [E1,q8,T1.refl],(by simp [E1]),rfl,rfl⟩
theorem Still.aJ {l sz len cells op}(h:aJ l st sz op=J (len,cells,st')):∃d,Still k dst y4 d st st' :=by
 unfold B3.aJ at h;split at h
 next s=>
  split at h
  .cases h
  .split at h
   next hs=>
    split at h
    .cases h
     refine ⟨[.slot s],λ_ _=>rfl,λ_ _ _=>Iff.rfl,λ_ _=>Iff.rfl,λs' _=>?_,rfl,λ_ _ _=>T1.refl _,o6 _,rfl,U⟩
     by_cases e:s=s'
     .subst e
      rw [O3 _ _ _ _ (y9 hs),bQ hs];rfl
     simp_all
    .cases h
   .cases h
 .split at h
  next id off an5=>
   split at h
   .cases h
   .split at h
    next cs hcs=>
     split at h
     next hco=>
      split at h
      .cases h
       refine ⟨[.cell id off],Still.heap (λid' _ _=>?_) U⟩
       by_cases he:id=id'
       .subst he
        rw [C7 (y9 hcs),hcs];apply List.ext_getElem?;intro n;simp only [List.getElem?_map]
        by_cases e:off=n
        .subst e
         rw [C7 (y9 hco),hco];rfl
        simp_all
       simp_all [q8,T1.refl]
      .cases h
     .cases h
    .cases h
  .cases h
 .cases h
theorem Still.Q7 {l j9 sz len cells y}(h:Q7 l j9 st sz y=J (len,cells,st')):∃d,Still k dst y4 d st st' :=by
 unfold B3.Q7 at h;split at h
 .split at h
  .cases h;exact ⟨[],Still.refl _ _ _ _⟩
  .cases h
 .cases h
 .cases h
 .split at h
  next hj=>
   split at h
   .cases h
    exact ⟨[],Still.L1 hj⟩
   .cases h
  .split at h
   .exact Still.aJ h
   .cases h
  .cases h
theorem Still.D7 {E f args}(h:D7 E k f args st=J st'):∃d,Still k dst K d st st' :=by
 unfold B3.D7 at h;split at h
 .split at h
  next v H1 _=>
   split at h
   next hlen=>
    cases h;refine ⟨[]++[.below (O H1)],Still.trans (Still.heap (λid hd _=>?_) hlen) (Still.put _)⟩
    grind [Touch.G8,List.getElem?_eq_none,T1.refl]
   .cases h
  .cases h
 .simp only at h
  generalize I4 st.H E.lim.strict 8 (C0 args)=n at h;generalize (args.headD .any).K9=m at h;split at h
  .split at h
   .split at h
    .split at h
     .cases h
      refine ⟨[]++[.below n],Still.trans (Still.heap (λid hd _=>?_) D) (Still.put _)⟩;simp_all [Touch.G8,q9,List.getElem?_drop,T1.refl]
     .cases h
    .cases h
   .split at h
    .split at h
     .cases h
      exact ⟨_,Still.put _⟩
     .cases h
    .cases h
   .split at h
    .split at h
     .cases h
      refine ⟨[]++[.below m],Still.trans (Still.heap (λid hd _=>?_) D) (Still.put _)⟩;simp_all [Touch.G8,q9,List.getElem?_drop,List.take,T1.refl]
     .cases h
    .cases h
  .cases h
def ab2 {H H' id off vs}(h:wr H id off vs=J H'):O H'=O H:=by
 grind [wr]
theorem Still.R2 {E n a x}(h:R2 E k n st a x=J st'):∃d,Still k dst K d st st' :=by
 unfold B3.R2 at h;split at h
 next id off=>
  split at h
  .split at h
   .split at h
    next H' hw=>
     cases h;refine ⟨[]++([.obj id]++[]),Still.trans (Still.trans (Still.F1 x) (Still.heap (λid' hd _=>?_) (by rw [ab2 hw];omega))) (Still.put _)⟩
     grind [wq,T1.refl,Touch.G8]
    .cases h
   .cases h
  .cases h
 .cases h
theorem Still.aj {E sz zero a}(h:aj E k sz zero st a=J st'):∃d,Still k dst K d st st' :=by
 unfold B3.aj at h;split at h
 next id z lo len=>
  split at h
  .split at h
   next H' hw=>
    cases h;refine ⟨[]++[.obj id],Still.trans (Still.heap (λid' hd _=>?_) (by rw [ab2 hw];omega)) (Still.put _)⟩
    grind [wq,T1.refl,Touch.G8]
   .cases h
  .cases h
 .cases h
  exact ⟨_,Still.put _⟩
 .cases h
theorem Still.W7 {E kk m key v}(h:W7 E k kk st m key v=J st'):∃d,Still k dst K d st st' :=by
 unfold B3.W7 at h;split at h
 next id kd _=>
  split at h
  .split at h
   .split at h
    .split at h
     .cases h
      refine ⟨[]++[.obj id],Still.trans (Still.heap (λid' hd _=>?_) U) (Still.put _)⟩;rw [q8]
      .exact T1.refl _
      .rintro rfl
       simp [Touch.G8] at hd
     .cases h
    .cases h
   .cases h
  .cases h
 .cases h
theorem Still.D9 {E j9 op}(hk:F9 st op=F)(hn:y4.isSome=op.A6)(h:D9 E j9 y4 k st op=J st'):∃d,Still k dst y4 d st st' :=by
 cases op<;>simp only [B3.D9] at h<;>try (cases h;done)
 all_goals (simp only [s7.A6] at hn)
 case alloc zero =>
  obtain ⟨i,rfl⟩:=Option.isSome_iff_exists.1 hn;cases h;exact ⟨_,(Still.newObj _).trans (Still.put _)⟩
 case box x =>
  obtain ⟨i,rfl⟩:=Option.isSome_iff_exists.1 hn;split at h
  .cases h;exact ⟨_,(Still.newObj _).trans (Still.put _)⟩
  .cases h
 case ug x =>
  cases h;exact ⟨_,Still.put _⟩
 case own sz x =>
  split at h
  next ht=>
   obtain ⟨d,hd⟩:=Still.Q7 (k:=k) (dst:=dst) (y4:=y4) ht;cases h;exact ⟨_,hd.trans (Still.put _)⟩
  .cases h
 case makeMap =>
  obtain ⟨i,rfl⟩:=Option.isSome_iff_exists.1 hn;cases h;exact ⟨_,(Still.newObj _).trans (Still.put _)⟩
 case jI sz zero x y =>
  obtain ⟨i,rfl⟩:=Option.isSome_iff_exists.1 hn;split at h
  .cases h;exact ⟨_,(Still.newObj _).trans (Still.put _)⟩
  .cases h
 case J3 sz len zero parts ob =>
  cases ob
  .cases h
  .obtain ⟨i,rfl⟩:=Option.isSome_iff_exists.1 hn
   simp only at h;split at h
   .split at h
    .cases h;exact ⟨_,(Still.newObj _).trans (Still.put _)⟩
    .cases h
   .cases h
 case store n a x =>
  have:y4=K:=by simpa using hn
  subst this;exact Still.R2 h
 case J9 sz bytes x y =>
  have:y4=K:=by simpa using hn
  subst this;obtain ⟨s,hs,rfl⟩:=qj h;have hnew:∀(H' :n9) (o:B4) (cF :List Touch) (d:List Touch) (v:c7),cF =d++st.o5->O H'=O st.H->(∀id:Nat,d.any (Touch.G8 id)=F->T1 H'[id]? st.H[id]?) ->
    ∃d',Still k dst K d' st { (B3.put (E1 { st with H:=H',o5:=cF } K o) k v) with o5:= .obj (O st.H)::cF }:=by
   intro H' o cF d v ht hl hH;subst ht;refine ⟨[]++(.obj (O st.H)::d),Still.trans (Still.heap (H' :=H' ++[o]) (λid hd _=>?_) (by simp [hl])) (Still.put v)⟩;simp only [List.any_cons,E5] at hd;have hne:id≠O st.H:=by rintro rfl;simp [Touch.G8] at hd
   rcases x9 id (O st.H) with h1|h1
   .rw [s8 V]
    exact hH id hd.2
   .rw [List.getElem?_eq_none D,List.getElem?_eq_none h1]
    exact T1.refl _
  split at hs
  .split at hs
   next id _ _ _ _ _=>
    unfold B3.U7 at hs;split at hs
    .split at hs
     .split at hs
      .cases hs
       exact hnew _ _ _ [.obj id] _ rfl U λid' hd=>by
        rw [q8]
        .exact T1.refl _
        .rintro rfl
         simp [Touch.G8] at hd
      .cases hs
     .cases hs
    .cases hs
   .cases hs
  .unfold B3.K0 at hs
   simp only [if_true] at hs;split at hs
   .split at hs
    .split at hs
     .cases hs
      exact ⟨[]++[.obj (O st.H)],Still.trans (Still.heap (H' :=st.H) (λ_ _ _=>T1.refl _) (o6 _)) (Still.put _)⟩
     .cases hs
      exact hnew st.H _ st.o5 [] _ rfl rfl λ_ _=>T1.refl _
    .cases hs
   .cases hs
 case append sz bytes ob x y =>
  split at h
  next hx=>
   simp [F9,hx] at hk
  .cases ob with
   |true =>
    obtain ⟨i,rfl⟩:=Option.isSome_iff_exists.1 hn;unfold B3.K0 at h;simp only [if_true] at h;split at h
    .split at h
     .split at h
      .cases h;exact ⟨_,Still.put _⟩
      .cases h;exact ⟨_,(Still.newObj _).trans (Still.put _)⟩
     .cases h
    .cases h
   |false =>
    have:y4=K:=by simpa using hn
    subst this;unfold B3.K0 at h;simp only [e8,if_false] at h;split at h
    .split at h
     .split at h
      next ht=>
       split at h
       .cases h
        obtain ⟨d,hd⟩:=Still.Q7 (k:=k) (dst:=dst) (y4:=K) ht;exact ⟨_,hd.trans (Still.put _)⟩
       .cases h
      .cases h
     .cases h
    .cases h
 case clear sz zero x =>
  have:y4=K:=by simpa using hn
  subst this;exact Still.aj h
 case call f xs =>
  have:y4=K:=by simpa using hn
  subst this;exact Still.D7 h
 case Y2 x xs =>
  have:y4=K:=by simpa using hn
  subst this;split at h
  .exact Still.D7 h
  .cases h
 case dU =>
  have:y4=K:=by simpa using hn
  subst this;exact Still.W7 h
 case defer x =>
  split at h
  .split at h
   .cases h;exact ⟨_,Still.put _⟩
   .cases h
  .cases h
theorem Still.F2 {bK2}(h:y8 bK2 st k dst=J st'):∃d,Still k dst y4 d st st' :=by
 rcases U4 h with ⟨_,rfl⟩|⟨s,o5,rfl,_,rfl,Pj⟩
 .exact ⟨_,Still.refl _ _ _ _⟩
 .have hx:=Still.F1 (k:=k) (dst:=J s) (y4:=y4) (st:=st) (.loc k)
  have key:∀d,o5=d++st.o5->Still k (J s) y4 d st { (B3.F1 st (.loc k)).2 with T:=st.T.set s (B3.F1 st (.loc k)).1,o5 }:=by
   intro d hd;refine ⟨hx.L,hx.Gb,hx.Gt,λs' hs=>?_,hd,λid _ hn=>hx.H id rfl hn,hx.Py,hx.kR,U⟩;simp_all
  rcases Pj with rfl|⟨rfl,_⟩
  .exact ⟨[.slot s],key _ rfl⟩
  .exact ⟨[],key _ rfl⟩
theorem Still.A2 {E j9 i rs}(hk:F9 st i.op=F)(hn:y4.isSome=i.op.A6)(h:A2 E j9 y4 k i st=J (st',rs)):∃d,Still k i.dst y4 d st st' :=by
 unfold B3.A2 at h;split at h
 .split at h
  next st1 rs1 hW=>
   split at h
   next st2 hts=>
    cases h;have h1:∃d,Still k i.dst y4 d st st1:=by
     unfold B3.D3 at hW;split at hW
     .split at hW
      next he=>
       cases hW;exact Still.D9 hk hn he
      .cases hW
     .split at hW
      .cases hW
       exact ⟨_,(Still.F1 _).trans (Still.put _)⟩
      .split at hW
       .cases hW
        exact ⟨_,Still.put _⟩
       .cases hW
    obtain ⟨d1,h1⟩:=h1;obtain ⟨d2,h2⟩:=Still.F2 (y4:=y4) hts;exact ⟨_,h1.trans h2⟩
   .cases h
  .cases h
 .split at h
  next hts=>
   cases h;obtain ⟨d2,h2⟩:=Still.F2 (y4:=y4) hts;exact ⟨_,(Still.put _).trans h2⟩
  .cases h
 .cases h
theorem Still.G5 (h:Still k dst y4 d st st'){x}(hl:k∉x.eo)(ht:∀s,s∈x.slots->dst≠J s):G5 st'.T st'.L x=G5 st.T st.L x:=by
 cases x with
 |loc j =>
  exact h.L j (λe=>hl (by simp [z6.eo,e]))
 |slot s =>
  exact h.T s (ht s (by simp [z6.slots]))
 |const v=>rfl
def Still.wanted (h:Still k dst y4 d st st'){g}(hg:∀j b,g=J (j,b)->j≠k):A9 st'.L g=A9 st.L g:=by
 cases g with
 |none=>rfl
 |some p =>
  obtain ⟨j,want⟩:=p;have hj:=hg j want rfl;have h1:=h.Gb j hj;have h2:=h.Gt j hj
  grind [A9,absurd]
theorem Still.KZ {E i rs}(h:Still k dst y4 d st st'):(aM E i y4 st st' rs).KZ=cD y4++d:=by
 simp only [aM,h.o5];simp
def Still.reads {E i rs}(h:Still k dst y4 d st st'){ids}(hh:I9 (aM E i y4 st st' rs).KZ ids=F){id}(hid:id∈ids):T1 st'.H[id]? st.H[id]? :=by
 rw [h.KZ] at hh;unfold I9 at hh;have hno:∀t,t∈(cD y4++d:List Touch)->t.G8 id=F:=by
  grind
 refine h.H id ?_ ?_
 all_goals grind [List.any_eq_false,cD,Touch.G8]
end
end Go.B3
namespace Go.B3
variable [E0]
section
variable {E:Env} {j9:List o4} {y4:Option Nat} {k q:Nat} {v:c7} {st st1 st2 st' :G4}
theorem sH {x}(h:q∉x.eo):G5 (put st q v).T (put st q v).L x=G5 st.T st.L x:=by
 simp_all [G5,put,z6.eo]<;>grind
theorem put_comm (h:q≠k) u:put (put st q v) k u=put (put st k u) q v:=by
 simp_all [put,List.set_comm]
theorem oQ {l:List c7}{q j}(h:q≠j) v:(l.set q v)[j]? =l[j]? :=q8 h
def DW {x}(h:q∉x.eo):F1 (put st q v) x=((F1 st x).1,put (F1 st x).2 q v):=by
 cases x with
 |loc j =>
  grind [z6.eo,F1,put,oQ,G5,List.getD,List.set_comm]
 |slot s=>rfl
 |const c=>rfl
theorem fI o:E1 (put st q v) y4 o=put (E1 st y4 o) q v:=by cases y4<;>rfl
theorem kz:newId (put st q v) y4=newId st y4:=rfl
def Gp {x}(h:q∉x.eo):bF (put st q v) x=bF st x:=by
 simp_all [z6.eo,bF,put]<;>grind
def MA {l sz op}(h:q∉op.R4.flatMap z6.eo):aJ l (put st q v) sz op=(aJ l st sz op).map λp=>(p.1,p.2.1,put p.2.2 q v):=by
 unfold aJ;split
 .have e1:(put st q v).o5=st.o5:=rfl
  have e2:(put st q v).T=st.T:=rfl;simp [e1,e2];split
  .rfl
  .split
   .split
    all_goals rfl
   .rfl
 next x=>
  have hx:q∉x.eo:=λe=>h (by simp [s7.R4,e])
  rw [Gp hx];have e1:(put st q v).o5=st.o5:=rfl;have e2:(put st q v).H=st.H:=rfl;split
  .simp [e1,e2]
   split
   .rfl
   .split
    .split
     .split
      all_goals rfl
     .rfl
    .rfl
  .rfl
 .rfl
def zD {l sz x}(h:q∉x.eo)(h2:∀j a,x= .loc j->j9[j]? =J a->q∉a.op.R4.flatMap z6.eo) :
  Q7 l j9 (put st q v) sz x=(Q7 l j9 st sz x).map λp=>(p.1,p.2.1,put p.2.2 q v):=by
 cases x with
 |const c =>
  unfold Q7;cases c<;>first|rfl|skip
  simp_all
 |slot s=>rfl
 |loc j =>
  have hj:q≠j:=λe=>h (by simp [z6.eo,e])
  have e:(put st q v).L[j]? =st.L[j]? :=by simp_all [put,oQ]
  simp [Q7];rw [e];cases hl:st.L[j]? with
  |none=>rfl
  |some b =>
   cases b with
   |own z len cells =>
    grind [put,List.set_comm]
   |d x =>
    cases x with
    |slice n c =>
     cases ha:j9[j]? with
     |none=>rfl
     |some a=>simp_all [MA]
    |_=>rfl
   |_=>rfl
def yI (h:q≠k){f args}:D7 E k f args (put st q v)=(D7 E k f args st).map λs=>put s q v:=by
 have e1:(put st q v).H=st.H:=rfl;have e2:(put st q v).o5=st.o5:=rfl;have key:∀(H:n9) (t:List Touch) (u:c7),put { put st q v with H:=H,o5:=t } k u=put (put { st with H:=H,o5:=t } k u) q v:=by
  simp_all [put,List.set_comm]
 unfold D7;simp [e1];split
 .split
  all_goals simp_all
 .split
  .split
   .split
    all_goals simp_all
   .split
    all_goals simp_all
   .split
    all_goals simp_all
  .rfl
def JO (h:q≠k){n a x}(hx:q∉x.eo):R2 E k n (put st q v) a x=(R2 E k n st a x).map λs=>put s q v:=by
 unfold R2;simp [DW hx];cases a with
 |ptr id off =>
  simp only;split
  .split
   .have e:(put (F1 st x).2 q v).H=(F1 st x).2.H:=rfl
    split
    all_goals simp_all [put,C6,List.set_comm]
   .rfl
  .rfl
 |_=>rfl
def It (h:q≠k){sz zero a}:aj E k sz zero (put st q v) a=(aj E k sz zero st a).map λs=>put s q v:=by
 have e:(put st q v).H=st.H:=rfl;unfold aj;split
 .split
  .split
   all_goals grind [put,List.set_comm]
  .rfl
 all_goals grind [put_comm]
def Fb (h:q≠k){kk m key x}:W7 E k kk (put st q v) m key x=(W7 E k kk st m key x).map λs=>put s q v:=by
 have e:(put st q v).H=st.H:=rfl;unfold W7;split
 .rw [e]
  split
  .split
   .split
    .split
     .simp only [put,C6]
      congr 2
      exact List.set_comm _ _ h
     .rfl
    .rfl
   .rfl
  .rfl
 .rfl
theorem PF {l op}(h:q∉op.R4.flatMap z6.eo):gG l (put st q v) op=gG l st op:=by
 unfold gG;split
 .rfl
 next x=>
  have hx:q∉x.eo:=λe=>h (by simp [s7.R4,e])
  rw [Gp hx];rfl
 .rfl
def Ve {l x}(h:q∉x.eo)(h2:∀j a,x= .loc j->j9[j]? =J a->q∉a.op.R4.flatMap z6.eo):isNil l j9 (put st q v) x=isNil l j9 st x:=by
 cases x with
 |const c=>cases c<;>rfl
 |slot s=>rfl
 |loc j =>
  grind [z6.eo,put,oQ,isNil,PF]
def tg (h:q≠k){sz bytes ob x y}(hx:q∉x.eo)(h2:∀j a,x= .loc j->j9[j]? =J a->q∉a.op.R4.flatMap z6.eo) :
  K0 E j9 y4 k sz bytes ob (put st q v) x y=(K0 E j9 y4 k sz bytes ob st x y).map λs=>put s q v:=by
 have e:(put st q v).H=st.H:=rfl;unfold K0;rw [e,Ve hx h2,zD hx h2];split
 .split
  .grind [put_comm,fI,kz]
  .split
   all_goals grind [Q7,put_comm]
 .rfl
theorem P8 {i x}(hx:x∈i.op.R4)(h:q∉eF j9 i):q∉x.eo:=by
 simp_all [eF,M3,List.mem_append_left,List.mem_flatMap]
def eW {i g b}(hg:i.guard=J (g,b))(h:q∉eF j9 i):g≠q:=by
 grind [eF]
def Fc {i sz bytes ob x y}(hop:i.op= .append sz bytes ob x y)(h:q∉eF j9 i):∀j a,x= .loc j->j9[j]? =J a->q∉a.op.R4.flatMap z6.eo:=by
 grind [eF,List.mem_append_right]
def CP {i sz bytes x y}(hop:i.op= .J9 sz bytes x y)(h:q∉eF j9 i):∀j a,x= .loc j->j9[j]? =J a->q∉a.op.R4.flatMap z6.eo:=by
 rintro j a rfl ha hq;apply h;unfold eF;rw [hop];simp only [ha];exact List.mem_append_right _ hq
def CQ {i sz x}(hop:i.op= .own sz x)(h:q∉eF j9 i):∀j a,x= .loc j->j9[j]? =J a->q∉a.op.R4.flatMap z6.eo:=by
 rintro j a rfl ha hq;apply h;unfold eF;rw [hop];simp only [ha];exact List.mem_append_right _ hq
def EK (h:q≠k){sz bytes id lo len y}:U7 E y4 k sz bytes (put st q v) id lo len y=(U7 E y4 k sz bytes st id lo len y).map λs=>put s q v:=by
 unfold U7;split
 .have e1:(put st q v).H=st.H:=rfl
  have e2:newId (put st q v) y4=newId st y4:=by cases y4<;>rfl
  rw [e1,e2];split
  .split
   .simp only [C6,Option.some.injEq]
    rw [<- put_comm h];cases y4<;>rfl
   .rfl
  .rfl
 .rfl
def Kg (st:G4)(op:s7)(v:c7):Prop:=∀sz Fx ob x y id z lo n,op= .append sz Fx ob x y->G5 st.T st.L x= .s5 id z lo n->v.kill id=v
def Kg.of {op}(h:F9 st op=F):Kg st op v:=λ_ _ _ _ _ _ _ _ _ e hx=>by subst e;simp [F9,hx] at h
theorem FW id:∀ l j x,K1 id (l.set j x)=(K1 id l).set j (x.kill id)
 |[],_,_=>rfl
 |a::l,0,x=>rfl
 |a::l,j+1,x=>by simp only [A8,K1,FW id l j x]
def EL (h:q≠k){sz bytes id lo len y}(hv:v.kill id=v):U8 E k sz bytes (put st q v) id lo len y=(U8 E k sz bytes st id lo len y).map λs=>put s q v:=by
 unfold U8;split
 .have e1:(put st q v).H=st.H:=rfl
  rw [e1];split
  .split
   .simp only [C6,Option.some.injEq]
    rw [<- put_comm h];simp only [put,FW,hv]
   .rfl
  .rfl
 .rfl
def UD {i}(h:q≠k)(hu:q∉eF j9 i)(hk:Kg st i.op v):D9 E j9 y4 k (put st q v) i.op=(D9 E j9 y4 k st i.op).map λs=>put s q v:=by
 have hρ:∀x,x∈i.op.R4->G5 (put st q v).T (put st q v).L x=G5 st.T st.L x:=λx hx=>sH (P8 hx hu)
 cases hop:i.op<;>simp only [hop,s7.R4] at hρ<;>simp only [D9]<;>try rfl
 case alloc zero=>simp only [fI,kz,put_comm h,C6]
 case box x =>
  rw [hρ x U];split
  .simp only [fI,kz,put_comm h,C6]
  .rfl
 case makeMap=>simp only [fI,kz,put_comm h,C6]
 case ug x=>simp only [put_comm h,C6]
 case jI sz zero x y =>
  rw [hρ x U,hρ y U];split
  .simp only [fI,kz,put_comm h,C6]
  .rfl
 case J3 sz len zero parts ob =>
  cases ob
  .rfl
  .have e:(parts.map λx=>(x.1,x.2.1,G5 (put st q v).T (put st q v).L x.2.2))=(parts.map λx=>(x.1,x.2.1,G5 st.T st.L x.2.2)):=lS hρ
   simp only [e];cases bB zero (parts.map λx=>(x.1,x.2.1,G5 st.T st.L x.2.2)) with
   |none=>rfl
   |some cs =>
    simp only;split
    .simp only [fI,kz,put_comm h,C6]
    .rfl
 case store n a x =>
  rw [hρ a U];exact JO h (P8 (by simp [hop,s7.R4]) hu)
 case append sz bytes ob x y =>
  rw [hρ x U,hρ y U];split
  next hx=>
   split
   .exact EL h (hk _ _ _ _ _ _ _ _ _ hop hx)
   .rfl
  .exact tg h (P8 (by simp [hop,s7.R4]) hu) (Fc hop hu)
 case J9 sz bytes x y =>
  rw [hρ x U,hρ y U];have key:∀r r2:Option G4,r2=r.map (λs=>put s q v)->ir (put st q v) r2=(ir st r).map λs=>put s q v:=by
   rintro r _ rfl;cases r<;>rfl
  refine key _ _ ?_;split
  .split
   .exact EK h
   .rfl
  .exact tg h (P8 (by simp [hop,s7.R4]) hu) (CP hop hu)
 case own sz x =>
  rw [zD (P8 (by simp [hop,s7.R4]) hu) (CQ hop hu)];cases Q7 E.lim j9 st sz x with
  |none=>rfl
  |some p =>
   obtain ⟨len,cells,s1⟩:=p;simp only [C6,put_comm h]
 case clear sz zero x =>
  rw [hρ x U];exact It h
 case call f xs =>
  rw [X0 hρ];exact yI h
 case Y2 x xs =>
  rw [hρ x U,X0 (l:=xs) λy hy=>hρ y (by simp [hy])];split
  .exact yI h
  .rfl
 case dU kk m key x =>
  rw [hρ m U,hρ key U,hρ x U];exact Fb h
 case defer x =>
  rw [hρ x U];split
  .split
   .simp only [put_comm h,C6]
   .rfl
  .rfl
def DK (h:q≠k){dst}:y8 y4 (put st q v) k dst=(y8 y4 st k dst).map λs=>put s q v:=by
 have hx:q∉(z6.loc k).eo:=by grind [z6.eo]
 have e1:(put st q v).T=st.T:=rfl;have e2:(put st q v).o5=st.o5:=rfl;cases y4<;>cases dst<;>simp [y8,F2,X2,DW hx,e1]<;>first|rfl|(split<;>rfl)
def wanted_put {g}(h:∀j b,g=J (j,b)->j≠q):A9 (put st q v).L g=A9 st.L g:=by
 cases g with
 |none=>rfl
 |some p =>
  grind [A9,put,oQ]
def kC {i}(h:q≠k)(hu:q∉eF j9 i)(hk:Kg st i.op v):A2 E j9 y4 k i (put st q v)=(A2 E j9 y4 k i st).map λp=>(put p.1 q v,p.2):=by
 have hρ:∀x,x∈i.op.R4->G5 (put st q v).T (put st q v).L x=G5 st.T st.L x:=λx hx=>sH (P8 hx hu)
 have hW:D3 E j9 y4 k i.op (put st q v)=(D3 E j9 y4 k i.op st).map λp=>(put p.1 q v,p.2):=by
  unfold D3;split
  .rw [UD h hu hk]
   cases D9 E j9 y4 k st i.op<;>rfl
  .cases hop:i.op with
   |S1 x =>
    simp only [DW (P8 (x:=x) (by simp [hop,s7.R4]) hu),put_comm h,C6]
   |_ =>
    simp only;rw [<- hop,oM hρ];have e:(put st q v).H=st.H:=rfl;rw [e];cases hp:l8 (G5 st.T st.L) st.H i.op with
    |none=>rfl
    |some p=>simp only [put_comm h,C6]
 unfold A2;rw [wanted_put (λj b hg=>eW hg hu),hW];split
 .cases hp:D3 E j9 y4 k i.op st with
  |none=>rfl
  |some p =>
   obtain ⟨s1,rs⟩:=p;simp only [C6];rw [DK h];cases y8 y4 s1 k i.dst<;>rfl
 .rw [put_comm h,DK h]
  cases y8 y4 (put st k (.tuple [])) k i.dst<;>rfl
 .rfl
def T4 (st:G4)(i:Nat)(o:B4):G4:={ st with H:=st.H.set i o }
theorem rC {H:n9}{n i o}(h:n<=i):(H.set i o).take n=H.take n:=List.take_set_of_le h
theorem FY H s:∀ j m,m<=I4 H s j m
 |0,m=>by simp [I4]
 |j+1,m=>by
  unfold I4;split
  .omega
  .simp only
   split
   .omega
   .exact A3 (Nat.le_max_left _ _) (FY H s j _)
theorem kJ H s i o:∀ j n,I4 H s j n<=i->I4 (H.set i o) s j n=I4 H s j n
 |0,n,_=>rfl
 |j+1,n,h=>by
  have hn:n<=i:=A3 (FY H s (j+1) n) h;unfold I4 at h ⊢;split
  .rfl
  next gv=>
   rw [if_neg gv] at h;simp [rC hn] at h ⊢;split
   .rfl
   next hm=>
    rw [if_neg hm] at h;exact kJ H s i o j _ h
def yM H s i o j n(h:I4 (H.set i o) s j n<=i):I4 H s j n=I4 (H.set i o) s j n:=by
 rcases x9 i (O H) with hi|hi
 .have:=kJ (H.set i o) s i H[i] j n h
  simp_all
 .rw [List.set_eq_of_length_le hi]
def JP {H s n i o}(h:n<=i):I7 (H.set i o) s n=I7 H s n:=by
 grind [I7,rC]
def KL {H:n9}{n i o}(h:n<=i):(H.set i o).drop n=(H.drop n).set (i - n) o:=by
 apply List.ext_getElem?
 grind
theorem BI {A H:n9}{n i o}(ha:O A=n)(h:n<=i):A++(H.set i o).drop n=(A++H.drop n).set i o:=by
 simp_all [KL,List.set_append,if_neg]
def uZ {f args i o}(hi:i<O st.H)(hs:(if E.prom f then O st.H else I4 st.H E.lim.strict 8 (C0 args))<=i) :
  D7 E k f args (T4 st i o)=(D7 E k f args st).map λs=>T4 s i o:=by
 have e1:(T4 st i o).H=st.H.set i o:=rfl;have e2:(T4 st i o).o5=st.o5:=rfl;unfold D7;simp [e1]
 by_cases hp:E.prom f=W
 .grind
 .rw [if_neg hp] at hs
  rw [if_neg hp,if_neg hp,kJ _ _ _ _ _ _ hs];simp [rC hs,JP hs,List.length_set];split
  .split
   .split
    all_goals simp_all [C6,put,T4,BI]
   .split
    .split
     all_goals rfl
    .rfl
   .split
    all_goals grind [put,T4,BI,A3]
  .rfl
def zG {dst i o}:y8 y4 (T4 st i o) k dst=(y8 y4 st k dst).map λs=>T4 s i o:=by
 have hx:F1 (T4 st i o) (.loc k)=((F1 st (.loc k)).1,T4 (F1 st (.loc k)).2 i o):=by
  grind [F1,T4]
 have e1:(T4 st i o).T=st.T:=rfl;have e2:(T4 st i o).o5=st.o5:=rfl;cases y4<;>cases dst<;>simp [y8,F2,X2,hx,e1]<;>first|rfl|(split<;>rfl)
def sU (i:o4):Bool:=match i.op with
 | .call .. =>W
 | .Y2 .. =>W
 |_=>F
def vi (j9:List o4)(i:o4):Bool:=match i.op with
 | .J9 _ _ (.loc j) _=>(match j9[j]? with
  |some a=>(match a.op with
   | .J3 .. =>W
   |_=>F)
  |none=>F)
 |_=>F
def Ca {i}(h:vi j9 i=W):∃sz Fx j y a,i.op= .J9 sz Fx (.loc j) y/\j9[j]? =J a/\∀l st,gG l st a.op=F:=by
 unfold vi at h;split at h
 next sz Fx j y hop=>
  split at h
  next a ha=>
   split at h
   next hb=>
    exact ⟨_,_,_,_,a,hop,ha,λl st=>by rw [hb];rfl⟩
   .cases h
  .cases h
 .cases h
def FT {l st2 j a}(ha:j9[j]? =J a)(hn:∀l st,gG l st a.op=F)(hL:st2.L[j]? =st.L[j]?):isNil l j9 st2 (.loc j)=isNil l j9 st (.loc j):=by
 simp only [isNil,hL,ha,hn]
def nF {α β:Type}{c} [Decidable c] g{a:Option α}{b:Option β}(h:b=a.map g):(if c then b else K)=(if c then a else K).map g:=by
 subst h
 by_cases hc:c<;>simp [hc]
def qY {H sz m o y}(h:y.K9<=m):C1 (H.set m o) sz y=C1 H sz y:=by
 cases y
 case s5 id z lo len =>
  simp only [c7.K9] at h;simp only [C1,rd];rw [q8 V]
 case d x=>cases x<;>rfl
 all_goals rfl
def UB {sz bytes j m y o a}(ha:j9[j]? =J a)(hn:∀l st,gG l st a.op=F)(hm:m<O st.H)(hs:max (G5 st.T st.L (.loc j)).K9 (G5 st.T st.L y).K9<=m) :
  D9 E j9 y4 k (T4 st m o) (.J9 sz bytes (.loc j) y)=(D9 E j9 y4 k st (.J9 sz bytes (.loc j) y)).map λs=>T4 s m o:=by
 have e:∀x,G5 (T4 st m o).T (T4 st m o).L x=G5 st.T st.L x:=λ_=>rfl
 have e1:(T4 st m o).H=st.H.set m o:=rfl;have e2:newId (T4 st m o) K=newId st K:=by simp [newId,T4]
 simp only [D9,e];have key:∀r r2:Option G4,r2=r.map (λs=>T4 s m o)->ir (T4 st m o) r2=(ir st r).map λs=>T4 s m o:=by
  rintro r _ rfl;cases r with
  |none=>rfl
  |some s=>simp [ir,T4]
 refine key _ _ ?_;split
 next id z lo len hx=>
  rw [hx] at hs;simp only [c7.K9] at hs;refine nF _ ?_;unfold U7;rw [e1,q8 (show m≠id by omega),qY V,e2];refine nF _ ?_;cases h1:st.H[id]? with
  |none=>rfl
  |some ob =>
   cases ob with
   |cells l =>
    cases h2:C1 st.H sz (G5 st.T st.L y) with
    |none=>rfl
    |some p =>
     refine nF _ ?_;simp only [C6,Option.some.injEq,put,E1,T4,newId,List.length_set,Option.getD_none];rw [List.set_append_left _ _ (by simpa using hm),List.set_comm _ _ (show m≠id by omega)]
   |_=>rfl
 .unfold K0
  rw [e1,qY V,FT (st:=st) (st2:=T4 st m o) ha hn rfl];cases h2:C1 st.H sz (G5 st.T st.L y) with
  |none=>rfl
  |some p =>
   obtain ⟨m',cs⟩:=p;simp only [if_true]
   by_cases hc:isNil E.lim j9 st (.loc j)=W/\roomFor m' bytes=W/\0<sz
   case neg=>simp only [hc,if_false,Option.map_none]
   simp only [hc,and_self,if_true]
   by_cases h0:m' =0
   .simp only [h0,if_true];rfl
   .simp only [h0,if_false,C6,Option.some.injEq,put,E1,T4,newId,List.length_set,Option.getD_none]
    rw [List.set_append_left _ _ hm]
def tF {i m o}(hW:D3 E j9 y4 k i.op (T4 st m o)=(D3 E j9 y4 k i.op st).map λp=>(T4 p.1 m o,p.2)):A2 E j9 y4 k i (T4 st m o)=(A2 E j9 y4 k i st).map λp=>(T4 p.1 m o,p.2):=by
 unfold A2;have e3:A9 (T4 st m o).L i.guard=A9 st.L i.guard:=rfl;rw [e3,hW];split
 .cases hp:D3 E j9 y4 k i.op st with
  |none=>rfl
  |some p =>
   obtain ⟨s1,rs⟩:=p;simp only [C6];rw [zG];cases y8 y4 s1 k i.dst<;>rfl
 .have e4:put (T4 st m o) k (.tuple [])=T4 (put st k (.tuple [])) m o:=rfl
  rw [e4,zG];cases y8 y4 (put st k (.tuple [])) k i.dst<;>rfl
 .rfl
def Ms {i m o}(hc:vi j9 i=W)(hi:m<O st.H)(hs:I6 E st i.op<=m):A2 E j9 y4 k i (T4 st m o)=(A2 E j9 y4 k i st).map λp=>(T4 p.1 m o,p.2):=by
 obtain ⟨sz,Fx,j,y,a,hop,ha,hn⟩:=Ca hc;refine tF ?_;rw [hop] at hs ⊢;simp only [D3,s7.D4,if_true];rw [UB ha hn hi hs];cases D9 E j9 y4 k st (.J9 sz Fx (.loc j) y)<;>rfl
def Qi {i m o}(hc:sU i=W)(hi:m<O st.H)(hs:I6 E st i.op<=m):A2 E j9 y4 k i (T4 st m o)=(A2 E j9 y4 k i st).map λp=>(T4 p.1 m o,p.2):=by
 have hW:D3 E j9 y4 k i.op (T4 st m o)=(D3 E j9 y4 k i.op st).map λp=>(T4 p.1 m o,p.2):=by
  unfold sU at hc;unfold D3;have e:∀x,G5 (T4 st m o).T (T4 st m o).L x=G5 st.T st.L x:=λ_=>rfl
  split at hc
  next f xs hop=>
   rw [hop] at hs ⊢;simp only [s7.D4,if_true,D9];have:D7 E k f (xs.map (G5 (T4 st m o).T (T4 st m o).L)) (T4 st m o)=(D7 E k f (xs.map (G5 st.T st.L)) st).map λs=>T4 s m o:=uZ hi hs
   rw [this];cases D7 E k f (xs.map (G5 st.T st.L)) st<;>rfl
  next x xs hop=>
   rw [hop] at hs ⊢;simp only [s7.D4,if_true,D9];rw [e x];simp only [I6] at hs;cases hx:G5 st.T st.L x with
   |func f first caps =>
    rw [hx] at hs;simp only at hs ⊢;have:D7 E k f (first++xs.map (G5 (T4 st m o).T (T4 st m o).L)++caps) (T4 st m o)=(D7 E k f (first++xs.map (G5 st.T st.L)++caps) st).map λs=>T4 s m o:=uZ hi hs
    rw [this];cases D7 E k f (first++xs.map (G5 st.T st.L)++caps) st<;>rfl
   |_=>rfl
  .cases hc
 exact tF hW
def VM {i:o4}{m o}(hs:I6 E (T4 st m o) i.op<=m):I6 E st i.op=I6 E (T4 st m o) i.op:=by
 have e:∀x,G5 (T4 st m o).T (T4 st m o).L x=G5 st.T st.L x:=λ_=>rfl
 have e1:(T4 st m o).H=st.H.set m o:=rfl;cases hop:i.op<;>rw [hop] at hs<;>simp only [I6] at hs ⊢
 case call f xs =>
  simp only [e1,List.length_set] at hs ⊢
  by_cases hp:E.prom f=W
  .rw [if_pos hp,if_pos hp]
  .rw [if_neg hp] at hs ⊢
   rw [if_neg hp];exact yM _ _ _ _ _ _ hs
 case Y2 x xs =>
  simp only [e x,e1,List.length_set] at hs ⊢;split at hs
  next f first caps hx=>
   by_cases hp:E.prom f=W
   .simp only [hp,if_true]
   .rw [if_neg hp] at hs ⊢
    rw [if_neg hp];exact yM _ _ _ _ _ _ hs
  .rfl
 case J9=>rfl
def V0 (s:G4)(dst:Option Nat)(u:c7):G4:=match dst with
 |none=>s
 |some t=>{ s with T:=s.T.set t u }
def Dm s dst u:(V0 s dst u).L=s.L:=by cases dst<;>rfl
def xW s dst u:(V0 s dst u).H=s.H:=by cases dst<;>rfl
def ZA s dst u:(V0 s dst u).o5=s.o5:=by cases dst<;>rfl
def Gw s dst u:O (V0 s dst u).T=O s.T:=by cases dst<;>simp [V0]
theorem qQ {s dst u x}(h:∀t,dst=J t->t∉x.slots):G5 (V0 s dst u).T (V0 s dst u).L x=G5 s.T s.L x:=by
 simp_all [G5,V0,z6.slots]<;>grind
def ve {f args dst u}:D7 E k f args (V0 st dst u)=(D7 E k f args st).map λs=>V0 s dst u:=by
 cases dst with
 |none=>grind [V0,D7]
 |some t =>
  unfold D7;have e1:(V0 st (J t) u).H=st.H:=rfl;have e2:(V0 st (J t) u).o5=st.o5:=rfl;simp [e1];split
  .split
   .split<;>rfl
   .rfl
  .split
   .split
    .split
     .split<;>rfl
     .rfl
    .split
     .split<;>rfl
     .rfl
    .split
     .split<;>rfl
     .rfl
   .rfl
def zH {dst dst' u}(h:∀s,dst=J s->dst' ≠J s):y8 y4 (V0 st dst' u) k dst=(y8 y4 st k dst).map λs=>V0 s dst' u:=by
 cases dst' with
 |none=>simp_all [V0,y8]
 |some t =>
  have hx:F1 (V0 st (J t) u) (.loc k)=((F1 st (.loc k)).1,V0 (F1 st (.loc k)).2 (J t) u):=by
   simp [F1,V0];cases st.L[k]? with
   |none=>rfl
   |some a=>cases a<;>rfl
  have e2:(V0 st (J t) u).o5=st.o5:=rfl;have e3:O (V0 st (J t) u).T=O st.T:=Gw _ _ _;cases dst with
  |none=>cases y4<;>rfl
  |some s =>
   have hne:t≠s:=λe=>h s rfl (by rw [e])
   have e4:∀x,(V0 st (J t) u).T.set s x=(st.T.set s x).set t u:=λx=>List.set_comm _ _ hne
   cases y4<;>simp [y8,F2,X2,hx,e2,e3,e4]<;>split<;>rfl
def EN (i:o4):Bool:= !i.op.D4&&(match i.op with
 | .S1 _=>F
 |_=>W)
def DD {op}(h:op.D4=F)(hm:∀y,op≠ .S1 y):D3 E j9 y4 k op st=(l8 (G5 st.T st.L) st.H op).map λp=>(put st k p.1,p.2):=by
 unfold D3;rw [h];cases op<;>first
  |exact (hm _ rfl).elim
  |(simp only [e8,if_false]
    generalize l8 _ _ _=r;cases r<;>rfl)
def QK {i}(h:EN i=W):i.op.D4=F/\∀y,i.op≠ .S1 y:=by
 simp only [EN,c8,o8] at h;refine ⟨h.1,λy e=>?_⟩;rw [e] at h;cases h.2
def nc {i}(h:EN i=W) st:F9 st i.op=F:=by
 have h1:=(QK h).1;cases hop:i.op<;>rw [hop] at h1<;>first|rfl|(cases h1)
def tG {i dst u}(hd:∀s,i.dst=J s->dst≠J s)(hW:D3 E j9 y4 k i.op (V0 st dst u)=(D3 E j9 y4 k i.op st).map λp=>(V0 p.1 dst u,p.2)) :
  A2 E j9 y4 k i (V0 st dst u)=(A2 E j9 y4 k i st).map λp=>(V0 p.1 dst u,p.2):=by
 unfold A2;rw [Dm,hW];split
 .cases hp:D3 E j9 y4 k i.op st with
  |none=>rfl
  |some p =>
   obtain ⟨s1,rs⟩:=p;simp only [C6];rw [zH hd];cases y8 y4 s1 k i.dst<;>rfl
 .have e4:put (V0 st dst u) k (.tuple [])=V0 (put st k (.tuple [])) dst u:=by cases dst<;>rfl
  rw [e4,zH hd];cases y8 y4 (put st k (.tuple [])) k i.dst<;>rfl
 .rfl
def UC {sz bytes j x y dst u a}(hxj:x= .loc j)(ha:j9[j]? =J a)(hn:∀l st,gG l st a.op=F)(hy:G5 (V0 st dst u).T (V0 st dst u).L y=G5 st.T st.L y) :
  D9 E j9 y4 k (V0 st dst u) (.J9 sz bytes x y)=(D9 E j9 y4 k st (.J9 sz bytes x y)).map λs=>V0 s dst u:=by
 subst hxj;have e:G5 (V0 st dst u).T (V0 st dst u).L (.loc j)=G5 st.T st.L (.loc j):=by simp only [G5,Dm]
 simp only [D9,e,hy];have key:∀r r2:Option G4,r2=r.map (λs=>V0 s dst u)->ir (V0 st dst u) r2=(ir st r).map λs=>V0 s dst u:=by
  rintro r _ rfl;cases r with
  |none=>rfl
  |some s=>cases dst<;>rfl
 refine key _ _ ?_;have e2:newId (V0 st dst u) K=newId st K:=by simp only [newId,xW]
 split
 next id z lo len hx=>
  refine nF _ ?_;unfold U7;rw [xW,e2];refine nF _ ?_;cases h1:st.H[id]? with
  |none=>rfl
  |some ob =>
   cases ob with
   |cells l =>
    cases h2:C1 st.H sz (G5 st.T st.L y) with
    |none=>rfl
    |some p =>
     refine nF _ ?_;cases dst<;>rfl
   |_=>rfl
 .unfold K0
  rw [xW,FT (st:=st) (st2:=V0 st dst u) ha hn (by rw [Dm])];cases h2:C1 st.H sz (G5 st.T st.L y) with
  |none=>rfl
  |some p =>
   obtain ⟨m',cs⟩:=p;simp only [if_true]
   by_cases hc:isNil E.lim j9 st (.loc j)=W/\roomFor m' bytes=W/\0<sz
   case neg=>simp only [hc,if_false,Option.map_none]
   simp only [hc,and_self,if_true]
   by_cases h0:m' =0
   .simp only [h0,if_true];cases dst<;>rfl
   .simp only [h0,if_false];cases dst<;>rfl
def zz {i dst u}(hc:vi j9 i=W)(hu:∀t,dst=J t->t∉fP i)(hd:∀s,i.dst=J s->dst≠J s) :
  A2 E j9 y4 k i (V0 st dst u)=(A2 E j9 y4 k i st).map λp=>(V0 p.1 dst u,p.2):=by
 obtain ⟨sz,Fx,j,y,a,hop,ha,hn⟩:=Ca hc;refine tG hd ?_;have hy:G5 (V0 st dst u).T (V0 st dst u).L y=G5 st.T st.L y:=by
  refine qQ λt ht hs=>hu t ht ?_
  unfold fP;exact List.mem_flatMap.2 ⟨y,by rw [hop];simp [s7.R4],hs⟩
 rw [hop];simp only [D3,s7.D4,if_true];rw [UC rfl ha hn hy];cases D9 E j9 y4 k st (.J9 sz Fx (.loc j) y)<;>rfl
def uK {i dst u}(hc:sU i=W\/EN i=W)(hu:∀t,dst=J t->t∉fP i)(hd:∀s,i.dst=J s->dst≠J s) :
  A2 E j9 y4 k i (V0 st dst u)=(A2 E j9 y4 k i st).map λp=>(V0 p.1 dst u,p.2):=by
 have hρ:∀x,x∈i.op.R4->G5 (V0 st dst u).T (V0 st dst u).L x=G5 st.T st.L x:=by
  intro x hx;refine qQ λt ht hs=>hu t ht ?_
  unfold fP;exact List.mem_flatMap.2 ⟨x,hx,hs⟩
 have hW:D3 E j9 y4 k i.op (V0 st dst u)=(D3 E j9 y4 k i.op st).map λp=>(V0 p.1 dst u,p.2):=by
  rcases C9 (EN i) with hd1|hd1
  .obtain ⟨h1,h2⟩:=QK hd1
   rw [DD h1 h2,DD h1 h2,oM hρ,xW];have e4:∀v,put (V0 st dst u) k v=V0 (put st k v) dst u:=λv=>by cases dst<;>rfl
   cases l8 (G5 st.T st.L) st.H i.op with
   |none=>rfl
   |some p=>simp only [C6,e4]
  replace hc:sU i=W:=hc.resolve_right (by rw [hd1];simp)
  unfold sU at hc;unfold D3;split at hc
  next f xs hop=>
   rw [hop] at hρ ⊢;simp only [s7.D4,if_true,D9];rw [X0 (l:=xs) λy hy=>hρ y (by simp [s7.R4,hy]),ve];cases D7 E k f (xs.map (G5 st.T st.L)) st<;>rfl
  next x xs hop=>
   rw [hop] at hρ ⊢;simp only [s7.D4,if_true,D9];rw [hρ x (by simp [s7.R4]),X0 (l:=xs) λy hy=>hρ y (by simp [s7.R4,hy])];cases hx:G5 st.T st.L x with
   |func f first caps =>
    simp only;rw [ve];cases D7 E k f (first++xs.map (G5 st.T st.L)++caps) st<;>rfl
   |_=>rfl
  .cases hc
 exact tG hd hW
end
end Go.B3
namespace Go.B3
variable [E0]
def Cb (i:o4):Bool:= !i.op.D4&&i.dst.isNone&&(match i.op with
 | .S1 (.loc _)=>F
 |_=>W)
def sV (i:o4):Bool:=match i.op with
 | .ug _=>W
 | .alloc _=>W
 | .box _=>W
 | .makeMap=>W
 | .jI .. =>W
 | .J3 _ _ _ _ b=>b
 |_=>F
section
variable {E:Env} {j9:List o4} {y4:Option Nat} {k q:Nat} {st st1 st2 st' :G4}
def iB {i}(h:Cb i=W) st:F9 st i.op=F:=by
 simp_all [Cb,s7.D4,F9]<;>grind
def fD {i}(h:Cb i=W) st:I6 E st i.op=0:=by
 simp_all [Cb,s7.D4,I6]<;>grind
def cr {i}(h:sV i=W) st:F9 st i.op=F:=by
 grind [sV,F9]
def fC {i}(h:sV i=W) st:I6 E st i.op=0:=by
 grind [sV,I6]
def iA {i}(h:sV i=W):i.op.A6=W:=by
 grind [sV,s7.A6]
def Uy {i}(h:sU i=W) st:F9 st i.op=F:=by
 grind [sU,F9]
theorem lZ {s dst}(h:dst.isNone=W):y8 y4 s k dst=J s:=by
 cases dst with
 |none=>cases y4<;>rfl
 |some _=>simp at h
def Il {i}(hP:Cb i=W){rs}(h:A2 E j9 y4 k i st=J (st',rs)) :
  ∃v,st' =put st k v/\∀s2,(∀x,x∈i.op.R4->G5 s2.T s2.L x=G5 st.T st.L x)->A9 s2.L i.guard=A9 st.L i.guard->(∀id,id∈rs->T1 s2.H[id]? st.H[id]?) ->
   A2 E j9 y4 k i s2=J (put s2 k v,rs):=by
 simp only [Cb,c8,o8] at hP;obtain ⟨⟨h1,h2⟩,h3⟩:=hP;unfold A2 at h;split at h
 next hw=>
  split at h
  next s1 rs1 hW=>
   rw [lZ h2] at h;cases h;unfold D3 at hW;rw [h1] at hW;simp [e8,if_false] at hW;have other:∀{v:c7},(∀x,i.op≠ .S1 x)->l8 (G5 st.T st.L) st.H i.op=J (v,rs)->st' =put st k v->∃v,st' =put st k v/\∀s2:G4,(∀x,x∈i.op.R4->G5 s2.T s2.L x=G5 st.T st.L x)->A9 s2.L i.guard=A9 st.L i.guard->(∀id,id∈rs->T1 s2.H[id]? st.H[id]?) ->
     A2 E j9 y4 k i s2=J (put s2 k v,rs):=by
    intro v hm hp e;refine ⟨v,e,λs2 hρ hwd hr=>?_⟩;unfold A2;rw [hwd,hw];have:D3 E j9 y4 k i.op s2=J (put s2 k v,rs):=by
     unfold D3;have hp2:l8 (G5 s2.T s2.L) s2.H i.op=J (v,rs):=LV (by simp_all [oM]) hr;simp_all
    simp_all [lZ]
   split at hW
   next x hop=>
    cases hW;refine ⟨(F1 st x).1,?_,λs2 hρ hwd hr=>?_⟩
    .cases x with
     |loc j=>simp_all
     |slot s=>rfl
     |const c=>rfl
    .unfold A2
     have e1:F1 s2 x=((F1 st x).1,s2):=by
      simp_all [s7.R4,F1]<;>grind
     simp_all [D3,s7.D4,e8,if_false,lZ]
   grind
  .cases h
 all_goals grind [lZ,A2]
def oP (s:G4)(n:Nat):Option B4->G4
 |some o=>T4 s n o
 |none=>s
inductive NF (k n:Nat) (dst:Option Nat):(G4->G4)->Prop where
 |mk (o:Option B4) (v u:c7):NF k n dst (λs=>V0 (put (oP s n o) k v) dst u)
inductive NF0 (k:Nat) (dst:Option Nat):(G4->G4)->Prop where
 |mk (v u:c7):NF0 k dst (λs=>V0 (put s k v) dst u)
structure Alike (i:o4)(st s2:G4):Prop where
 T:O s2.T=O st.T
 L:O s2.L=O st.L
 o5:∀s,i.dst=J s->s2.o5.any (Touch.V7 s)=W
def MB {s v dst}(hv:∀z n c,v≠ .own z n c){s'}(h:X2 (put s k v) k dst=J s') :
  ∃u,s' =V0 (put s k v) dst u/\∀s2,O s2.T=O s.T->O s2.L=O s.L->(∀t,dst=J t->s2.o5.any (Touch.V7 t)=W)->X2 (put s2 k v) k dst=J (V0 (put s2 k v) dst u):=by
 cases dst with
 |none=>cases h;exact ⟨.any,rfl,λs2 _ _ _=>rfl⟩
 |some t =>
  have hx:∀s:G4,F1 (put s k v) (.loc k)=((if k<O s.L then v.UA else .any),put s k v):=by
   simp_all [F1,put,G5,List.getD,c7.F4,c7.UA,absurd]<;>grind
  simp only [X2,hx] at h;split at h
  next hc=>
   simp [c8,decide_eq_true_eq] at hc;cases h;refine ⟨_,rfl,λs2 h1 h2 h3=>?_⟩;simp only [X2,hx];have:(decide (t<O (put s2 k v).T)&&(put s2 k v).o5.any (Touch.V7 t))=W:=by
    simp_all [c8,decide_eq_true_eq,put]
   rw [if_pos this,h2];rfl
  .cases h
def Jw s n o:(oP s n o).T=s.T:=by cases o<;>rfl
def Dl s n o:(oP s n o).L=s.L:=by cases o<;>rfl
def Mk s n o:(oP s n o).o5=s.o5:=by cases o<;>rfl
def Ij {i n}(hN:sV i=W){rs}(h:A2 E j9 (J n) k i st=J (st',rs)) :
  rs=[]/\∃f,NF k n i.dst f/\(i.op.makes=F->NF0 k i.dst f)/\st' =f st/\∀s2,(∀x,x∈i.op.R4->G5 s2.T s2.L x=G5 st.T st.L x)->A9 s2.L i.guard=A9 st.L i.guard->Alike i st s2->A2 E j9 (J n) k i s2=J (f s2,[]):=by
 unfold sV at hN;have h3:=hN;have cp0:i.op.D4=W:=by
  grind [s7.D4]
 have slot:∀(o:Option B4) (v:c7),(i.op.makes=F->o=K)->(∀z n c,v≠ .own z n c)->(∀s2:G4,(∀x,x∈i.op.R4->G5 s2.T s2.L x=G5 st.T st.L x)->A9 s2.L i.guard=A9 st.L i.guard->A2 E j9 (J n) k i s2=(X2 (put (oP s2 n o) k v) k i.dst).map λs=>(s,[])) ->
   rs=[]/\∃f,NF k n i.dst f/\(i.op.makes=F->NF0 k i.dst f)/\st' =f st/\∀s2:G4,(∀x,x∈i.op.R4->G5 s2.T s2.L x=G5 st.T st.L x)->A9 s2.L i.guard=A9 st.L i.guard->Alike i st s2->A2 E j9 (J n) k i s2=J (f s2,[]):=by
  intro o v ho hv hs;rw [hs st (λ_ _=>rfl) rfl] at h;cases ht:X2 (put (oP st n o) k v) k i.dst with
  |none=>simp_all
  |some s' =>
   rw [ht] at h;obtain ⟨rfl,rfl⟩:=h;obtain ⟨u,h4,h5⟩:=MB hv ht;refine ⟨rfl,_,NF.mk o v u,λhm=>by rw [ho hm];exact NF0.mk v u,h4,λs2 hρ hw ha=>?_⟩;rw [hs s2 hρ hw,h5 (oP s2 n o) (by rw [Jw,Jw];exact ha.T) (by rw [Dl,Dl];exact ha.L) (λt ht=>by rw [Mk];exact ha.o5 t ht)];rfl
 obtain ⟨wd,hw⟩:∃wd,A9 st.L i.guard=wd:=⟨_,rfl⟩;cases wd with
 |none=>simp_all [A2]
 |some b =>
  cases b with
  |false =>
   refine slot K (.tuple []) (λ_=>rfl) U λs2 hρ hwd=>?_
   unfold A2
   grind [y8,oP,X2,put]
  |true =>
   by_cases hcn:∃x,i.op= .ug x
   .obtain ⟨x,hx⟩:=hcn
    refine slot K (.d x) (λ_=>rfl) U λs2 hρ hwd=>?_
    grind [A2,D3,s7.D4,D9,y8,oP,X2,put]
   have hmk:i.op.makes=W:=by
    cases hop:i.op<;>rw [hop] at h3<;>first|exact h3|simp_all|simp_all|rfl
   have key:∀(o:B4) (v:c7),(∀z n c,v≠ .own z n c)->(∀s2:G4,(∀x,x∈i.op.R4->G5 s2.T s2.L x=G5 st.T st.L x)->D9 E j9 (J n) k s2 i.op=J (put (T4 s2 n o) k v)) ->
     rs=[]/\∃f,NF k n i.dst f/\(i.op.makes=F->NF0 k i.dst f)/\st' =f st/\∀s2:G4,(∀x,x∈i.op.R4->G5 s2.T s2.L x=G5 st.T st.L x)->A9 s2.L i.guard=A9 st.L i.guard->Alike i st s2->A2 E j9 (J n) k i s2=J (f s2,[]):=by
    intro o v hv h5;refine slot (J o) v (λh=>M) hv λs2 hρ hwd=>?_
    unfold A2
    grind [D3,put,T4,y8,oP,X2]
   obtain ⟨op,hop⟩:∃op,i.op=op:=⟨_,rfl⟩;have he:∃s1,D9 E j9 (J n) k st i.op=J s1:=by
    grind [A2,D3]
   obtain ⟨s1,he⟩:=he;have bF4 :∀x,op≠ .ug x:=λx e=>hcn ⟨x,hop.trans e⟩
   cases op<;>(try (exact absurd rfl (bF4 _)))<;>rw [hop] at h3<;>simp at h3<;>(try (cases h3;done))<;>rw [hop] at he<;>simp only [D9] at he
   next zero=>
    refine key (.cells zero) (.ptr n 0) U (λs2 _=>?_);rw [hop];rfl
   next x=>
    split at he
    next l hl=>
     refine key (.cells l) (.ptr n 0) U (λs2 hρ=>?_);rw [hop];simp only [D9];rw [hρ x (by simp [hop,s7.R4]),hl];rfl
    .cases he
   next sz len zero parts ob=>
    subst h3;simp only at he;split at he
    next cs hcs=>
     split at he
     next hl=>
      refine key (.cells cs) (.s5 n sz 0 len) U (λs2 hρ=>?_);rw [hop];simp only [D9];have e:(parts.map λx=>(x.1,x.2.1,G5 s2.T s2.L x.2.2))=(parts.map λx=>(x.1,x.2.1,G5 st.T st.L x.2.2)):=lS (λx hx=>hρ x (by grind [s7.R4]));have ux :bB zero (parts.map λx=>(x.1,x.2.1,G5 st.T st.L x.2.2))=J cs:=hcs;simp only [e,ux,if_pos hl];rfl
     .cases he
    .cases he
   .refine key (.map []) (.map n) U (λs2 _=>?_)
    rw [hop];rfl
   next sz zero x y=>
    split at he
    next m hm=>
     refine key (.cells (c9 m zero).flatten) (.s5 n sz 0 m) U (λs2 hρ=>?_);rw [hop];simp only [D9];rw [hρ x (by simp [hop,s7.R4]),hρ y (by simp [hop,s7.R4]),hm];rfl
    .cases he
end
end Go.B3
namespace Go.B3
variable [E0]
def ak8 (i:o4):Bool:=match i.op with
 | .ug _=>W
 |_=>F
def xw {i}(h:ak8 i=W):sV i=W/\i.op.makes=F:=by
 unfold ak8 at h;unfold sV;cases hop:i.op<;>rw [hop] at h<;>first|exact ⟨rfl,rfl⟩|(cases h)
def Ux {j9 i}(h:vi j9 i=W) st:F9 st i.op=F:=by
 obtain ⟨sz,Fx,j,y,a,hop,_⟩:=Ca h;rw [hop];rfl
def iw {j9 i}(h:sU i=W\/vi j9 i=W) st:F9 st i.op=F:=h.elim (λh=>Uy h st) λh=>Ux h st
def Jd (j9:List o4)(j:Nat)(a:o4)(i:Nat)(b:o4):Bool :=
 !(eF j9 b).contains j&& !(eF j9 a).contains i &&
 (match b.dst with|some s=> !(fP a).contains s&&a.dst != J s|none=>W)&&(match a.dst with|some s=> !(fP b).contains s|none=>W) &&
 ((Cb a&&(Cb b||a.dm.contains i))||(Cb b&&b.dm.contains j)||(sV a&&sV b)||(sV a&&(sU b||vi j9 b)&&a.dm.contains i)||((sU a||vi j9 a)&&sV b&&b.dm.contains j)||(ak8 a&&EN b)||(EN a&&ak8 b))
def QB (E:Env)(j9:List o4)(Y1:Nat->Option Nat)(lg:Nat->jx)(k:Nat)(st st' :G4):Prop :=
 ∃i,j9[k]? =J i/\lu E j9 (Y1 k) k i st=J (st',lg k)
structure Uo (j9:List o4)(Y1:Nat->Option Nat):Prop where
 alloc:∀(k:Nat) i,j9[k]? =J i->(Y1 k).isSome=i.op.A6
 inj:∀j k n,Y1 j=J n->Y1 k=J n->j=k
def QA (j9:List o4)(lg:Nat->jx):Prop :=
 ∀(k:Nat) i e,j9[k]? =J i->e∈i.dm->I9 (lg e).KZ (lg k).reads=F/\(i.op.makes=W->(lg e).Jv<=(lg k).id)
section
variable {E:Env} {j9:List o4} {y4:Option Nat} {k q:Nat} {v:c7} {st st1 st2 st' :G4}
def cw {i l}:lu E j9 y4 k i st=J (st',l)↔(F9 st i.op&&j9.any λa=>a.dm.contains k&& !calm st i.op a)=F/\∃rs,A2 E j9 y4 k i st=J (st',rs)/\l=aM E i y4 st st' rs:=by
 grind [lu]
def eE {i l}(h:F9 st i.op=F/\∃rs,A2 E j9 y4 k i st=J (st',rs)/\l=aM E i y4 st st' rs):lu E j9 y4 k i st=J (st',l) :=
 cw.2 ⟨by rw [h.1];rfl,h.2⟩
def RD {j}{i b:o4}{q:Nat}(h:(F9 st i.op&&j9.any λa=>a.dm.contains j&& !calm st i.op a)=F)(hk:F9 st i.op=W)(hb:j9[q]? =J b)(hu:j∈b.dm):calm st i.op b=W:=by
 grind
def Kw {op a}(h:calm st op a=W):∃sz Fx ob x y s id z lo n j o,op= .append sz Fx ob x y/\a.op= .S1 (.slot s)/\a.dst=K/\a.guard=K/\G5 st.T st.L x= .s5 id z lo n/\st.T[s]? =J (.ptr j o)/\j≠id:=by
 unfold calm at h;split at h
 next sz Fx ob x y s ho=>
  simp [c8,Option.isNone_iff_eq_none] at h;obtain ⟨⟨h1,h2⟩,h3⟩:=h;split at h3
  next id z lo n j o h4 h5=>
   exact ⟨_,_,_,_,_,_,_,_,_,_,_,_,rfl,ho,h1,h2,h4,h5,λe=>M⟩
  .cases h3
 .cases h
def BT {s2 op a}(h:∀x,x∈op.R4->G5 s2.T s2.L x=G5 st.T st.L x)(hT:s2.T=st.T):calm s2 op a=calm st op a:=by
 unfold calm
 grind [s7.R4]
def Kx {sz Fx ob x y id z lo n j o}(h:G5 st.T st.L x= .s5 id z lo n)(hj:j≠id):Kg st (.append sz Fx ob x y) (.ptr j o):=λ_ _ _ x' _ id' _ _ _ e hx=>by
 simp_all [c7.kill]
def vI {a s j o}(h1:a.op= .S1 (.slot s))(h2:a.dst=K)(h3:a.guard=K)(h:st.T[s]? =J (.ptr j o)):A2 E j9 y4 k a st=J (put st k (.ptr j o),[]):=by
 have e:(F1 st (.slot s))=(.ptr j o,st):=by simp [F1,G5,h,c7.F4]
 simp [A2,h3,D3,h1,e,h2];cases y4<;>rfl
def Kl {i sz Fx ob x y id z lo n s j o rs}(hop:i.op= .append sz Fx ob x y)(hx:G5 st.T st.L x= .s5 id z lo n)(h:A2 E j9 y4 k i st=J (st',rs))(hs:i.dst≠J s)(hT:st.T[s]? =J (.ptr j o))(hj:j≠id):st'.T[s]? =J (.ptr j o):=by
 have slot:∀s1 s2:G4,y8 y4 s1 k i.dst=J s2->s1.T[s]? =J (.ptr j o)->s2.T[s]? =J (.ptr j o):=by
  intro s1 s2 h h1;cases hd:i.dst with
  |none=>rw [hd] at h;cases y4<;>cases h<;>exact h1
  |some t =>
   cases y4<;>simp only [y8,F2,X2] at h<;>split at h<;>first|grind|grind
 unfold A2 at h;split at h
 .split at h
  next s1 rs1 h1=>
   split at h
   next s2 h2=>
    cases h;refine slot _ _ h2 ?_;simp [D3,hop,s7.D4,if_true,D9,hx] at h1;split at h1
    next s3 h3=>
     cases h1;split at h3
     .unfold U8 at h3
      split at h3
      .split at h3
       .split at h3
        .cases h3
         have e:∀(l:List c7) (s:Nat),l[s]? =J (.ptr j o)->(K1 id l)[s]? =J (.ptr j o):=by
          intro l
          induction l with
          |nil=>simp_all
          |cons a l ih =>
           grind [K1,c7.kill]
         exact e _ _ hT
        .cases h3
       .cases h3
      .cases h3
     .cases h3
    .cases h1
   .cases h
  .cases h
 .split at h
  next s2 h2=>
   cases h;exact slot _ _ h2 hT
  .cases h
 .cases h
def iY {s2 op}(h:∀x,x∈op.R4->G5 s2.T s2.L x=G5 st.T st.L x):F9 s2 op=F9 st op:=by
 cases op<;>simp [F9];simp_all [s7.R4]
def iN {s2 op}(h:∀x,x∈op.R4->G5 s2.T s2.L x=G5 st.T st.L x)(hH:s2.H=st.H):I6 E s2 op=I6 E st op:=by
 cases op<;>simp only [I6,s7.R4] at h ⊢
 case call f xs=>rw [hH,X0 h]
 case Y2 x xs=>rw [hH,h x U,X0 (l:=xs) λy hy=>h y (by simp [hy])]
 case J9 sz Fx x y=>rw [h x U,h y U]
def X5 {i}(hu:q∉eF j9 i):∀x,x∈i.op.R4->G5 (put st q v).T (put st q v).L x=G5 st.T st.L x :=
 λ_ hx=>sH (P8 hx hu)
theorem NF.G5 {n dst f}(hf:NF k n dst f){x}(h:k∉x.eo)(ht:∀t,dst=J t->t∉x.slots) s:G5 (f s).T (f s).L x=G5 s.T s.L x:=by
 cases hf with
 |mk o v u =>
  simp_all [qQ,sH,Jw,Dl]
def NF.wanted {n dst f}(hf:NF k n dst f){g}(h:∀j b,g=J (j,b)->j≠k) s:A9 (f s).L g=A9 s.L g:=by
 cases hf with
 |mk o v u =>
  simp_all [Dm,wanted_put,Dl]
theorem NF.o5 {n dst f}(hf:NF k n dst f) s:(f s).o5=s.o5:=by
 cases hf with
 |mk o v u =>
  rw [ZA];exact Mk _ _ _
def NF.Y0 {n dst f}(hf:NF k n dst f) s:O (f s).T=O s.T:=by
 cases hf with
 |mk o v u =>
  rw [Gw];show O (oP s n o).T=_
  rw [Jw]
def NF.kR {n dst f}(hf:NF k n dst f) s:O (f s).L=O s.L:=by
 cases hf with
 |mk o v u =>
  simp_all [Dm,put,Dl]
def NF.comm {n m j i d e f g}(hf:NF j n d f)(hg:NF i m e g)(hji:j≠i)(hnm:n≠m)(hde:∀s,e=J s->d≠J s) s:f (g s)=g (f s):=by
 cases hf with
 |mk o v u =>
  cases hg with
  |mk o' v' u' =>
   have sX:∀(l:List B4) (a b:B4),(l.set m b).set n a=(l.set n a).set m b:=λl a b=>List.set_comm _ _ (λe=>hnm e.symm)
   have hL:∀(l:List c7) (a b:c7),(l.set i b).set j a=(l.set j a).set i b:=λl a b=>List.set_comm _ _ (λe=>hji e.symm)
   cases o<;>cases o' <;>cases d<;>cases e<;>simp [V0,oP,T4,put,hL]
   all_goals grind [set,List.set_comm]
def PU {i:o4}{m o}(hs:I6 E st i.op<=m):I6 E (T4 st m o) i.op=I6 E st i.op:=by
 have e:∀x,G5 (T4 st m o).T (T4 st m o).L x=G5 st.T st.L x:=λ_=>rfl
 have e1:(T4 st m o).H=st.H.set m o:=rfl;have e2:∀xs,List.map (G5 (T4 st m o).T (T4 st m o).L) xs=List.map (G5 st.T st.L) xs:=λ_=>rfl
 cases hop:i.op<;>rw [hop] at hs<;>simp only [I6] at hs ⊢
 case call f xs =>
  simp only [e1,e2,List.length_set]
  by_cases hp:E.prom f=W
  .rw [if_pos hp,if_pos hp]
  .rw [if_neg hp] at hs ⊢
   rw [if_neg hp];exact kJ _ _ _ _ _ _ hs
 case Y2 x xs =>
  simp only [e x,e1,e2,List.length_set];split at hs
  next f first caps hx=>
   by_cases hp:E.prom f=W
   .simp only [hp,if_true]
   .rw [if_neg hp] at hs ⊢
    rw [if_neg hp];exact kJ _ _ _ _ _ _ hs
  .rfl
 case J9=>rfl
def NF.Jv {n j dst f}(hf:NF j n dst f){i}(hu:j∉eF j9 i)(ht:∀t,dst=J t->t∉fP i) :
  ∃o:Option B4,I6 E (f st) i.op=I6 E (oP st n o) i.op:=by
 cases hf with
 |mk o v u =>
  refine ⟨o,?_⟩;refine iN (λx hx=>?_) ?_
  .grind [qQ,sH,P8,fP]
  .simp [xW]
   rfl
def aV8 {i n j dst f}(hf:NF j n dst f)(hC:sU i=W\/vi j9 i=W)(hjk:j≠k)(hu:j∉eF j9 i)(ht:∀t,dst=J t->t∉fP i)(hd:∀s,i.dst=J s->dst≠J s)(hn:n<O st.H)(hs:I6 E st i.op<=n) :
  A2 E j9 y4 k i (f st)=(A2 E j9 y4 k i st).map (λp=>(f p.1,p.2))/\I6 E (f st) i.op=I6 E st i.op:=by
 refine ⟨?_,?_⟩
 .cases hf with
  |mk o v u =>
   have h1:=hC.elim (λhC=>uK (E:=E) (j9:=j9) (y4:=y4) (k:=k) (st:=put (oP st n o) j v) (u:=u) (.inl hC) ht hd) λhC=>zz (E:=E) (j9:=j9) (y4:=y4) (k:=k) (st:=put (oP st n o) j v) (u:=u) hC ht hd
   have h2:=kC (E:=E) (y4:=y4) (v:=v) (st:=oP st n o) hjk hu (.of (iw hC _));have h3:A2 E j9 y4 k i (oP st n o)=(A2 E j9 y4 k i st).map (λp=>(oP p.1 n o,p.2)):=by
    cases o with
    |none=>simp only [oP];cases A2 E j9 y4 k i st<;>rfl
    |some o=>exact hC.elim (λhC=>Qi hC hn hs) λhC=>Ms hC hn hs
   simp only;rw [h1,h2,h3];cases A2 E j9 y4 k i st<;>rfl
 .obtain ⟨o,ho⟩:=hf.Jv (E:=E) (st:=st) hu ht
  rw [ho];cases o with
  |none=>rfl
  |some o=>exact PU hs
def ax5 {i j dst f}(hf:NF0 j dst f)(hC:(sU i=W\/vi j9 i=W)\/EN i=W)(hjk:j≠k)(hu:j∉eF j9 i)(ht:∀t,dst=J t->t∉fP i)(hd:∀s,i.dst=J s->dst≠J s) :
  A2 E j9 y4 k i (f st)=(A2 E j9 y4 k i st).map (λp=>(f p.1,p.2))/\I6 E (f st) i.op=I6 E st i.op:=by
 cases hf with
 |mk v u =>
  have h1:A2 E j9 y4 k i (V0 (put st j v) dst u)=(A2 E j9 y4 k i (put st j v)).map λp=>(V0 p.1 dst u,p.2):=by
   rcases hC with (hC|hC)|hC
   .exact uK (.inl hC) ht hd
   .exact zz hC ht hd
   .exact uK (.inr hC) ht hd
  have h2:=kC (E:=E) (y4:=y4) (v:=v) (st:=st) hjk hu (.of (hC.elim (λh=>iw h _) (λh=>nc h _)));refine ⟨?_,?_⟩
  .simp only
   rw [h1,h2];cases A2 E j9 y4 k i st<;>rfl
  .refine iN (λx hx=>?_) (by rw [xW];rfl)
   rw [qQ (λt ht' =>λhs=>ht t ht' (by unfold fP;exact List.mem_flatMap.2 ⟨x,hx,hs⟩)),sH (P8 hx hu)]
def Uk {i n j dst f}(hf:NF j n dst f)(hu:j∉eF j9 i)(ht:∀t,dst=J t->t∉fP i)(hs:I6 E (f st) i.op<=n):I6 E st i.op=I6 E (f st) i.op:=by
 obtain ⟨o,ho⟩:=hf.Jv (E:=E) (st:=st) hu ht;rw [ho] at hs ⊢;cases o with
 |none=>rfl
 |some o=>exact VM hs
def nE {i s s2 s' s2' rs}(h1:s2.o5=s.o5)(h2:s2'.o5=s'.o5)(h3:I6 E s2 i.op=I6 E s i.op):aM E i y4 s2 s2' rs=aM E i y4 s s' rs:=by
 simp_all [aM]
def fH {i s s2 s' s2' rs}(h1:s2'.o5.take (O s2'.o5 - O s2.o5)=s'.o5.take (O s'.o5 - O s.o5))(h3:I6 E s2 i.op=I6 E s i.op):aM E i y4 s2 s2' rs=aM E i y4 s s' rs:=by
 simp_all [aM]
def Still.Jr {i b:o4}{d AI kb}(h:Still kb b.dst AI d st st')(hl:kb∉eF j9 i)(ht:∀s,b.dst=J s->s∉fP i):∀x,x∈i.op.R4->B3.G5 st'.T st'.L x=B3.G5 st.T st.L x:=by
 intro x hx;refine h.G5 (P8 hx hl) λs hs e=>ht s e ?_
 simp_all [fP,List.mem_flatMap]
def Still.sP {i b:o4}{d AI kb}(h:Still kb b.dst AI d st st')(hl:kb∉eF j9 i):A9 st'.L i.guard=A9 st.L i.guard :=
 h.wanted λ_ _ hg=>eW hg hl
def kD (j9:List o4)(st:G4):Prop:=∀(k:Nat) i s,j9[k]? =J i->i.op.A6=W->i.dst=J s->st.o5.any (Touch.V7 s)=W
def Still.marked {kb dst AI d}(h:Still kb dst AI d st st')(hm:kD j9 st):kD j9 st' :=by
 intro k i s hi ha hd;rw [h.o5,List.any_append,hm k i s hi ha hd];simp
def ye {i rs}(hn:y4.isSome=i.op.A6)(h:A2 E j9 y4 k i st=J (st',rs)):O st.H<=O st'.H/\∃d,st'.o5=d++st.o5:=by
 cases hk:F9 st i.op with
 |false =>
  obtain ⟨d,hd⟩:=Still.A2 hk hn h;exact ⟨hd.Py,d,hd.o5⟩
 |true =>
  have slot:∀{s s2:G4} {dst:Option Nat},y8 y4 s k dst=J s2->O s.H=O s2.H/\∃d,s2.o5=d++s.o5:=by
   intro s s2 dst h;have hx:(F1 s (.loc k)).2.H=s.H/\(F1 s (.loc k)).2.o5=s.o5:=by
    simp only [F1];split<;>exact ⟨rfl,rfl⟩
   cases dst with
   |none=>cases y4<;>simp only [y8,F2,X2,Option.some.injEq] at h<;>subst h<;>exact ⟨rfl,[],rfl⟩
   |some t =>
    cases y4<;>simp only [y8,F2,X2] at h
    .split at h
     .cases h;exact ⟨by simp only [hx.1],[_],rfl⟩
     .cases h
    .split at h
     .cases h;exact ⟨by simp only [hx.1],[],by simp only [hx.2];rfl⟩
     .cases h
  have bQ4:∀{v:c7} {s2:G4},y8 y4 (put st k v) k i.dst=J s2->O st.H<=O s2.H/\∃d,s2.o5=d++st.o5:=by
   intro v s2 h;obtain ⟨h1,d,h2⟩:=slot h;exact ⟨Nat.le_of_eq h1,d,h2⟩
  simp only [A2] at h;split at h
  .split at h
   next s1 rs1 h1=>
    split at h
    next s2 h2=>
     cases h;obtain ⟨e1,d,e2⟩:=slot h2;have hw:O st.H<=O s1.H/\∃d,s1.o5=d++st.o5:=by
      cases hop:i.op<;>rw [hop] at hk h1<;>simp only [F9,e8] at hk
      next sz bytes ob x y=>
       simp only [D3,s7.D4,if_true] at h1;split at h1
       next s3 h3=>
        cases h1;simp only [D9] at h3;split at hk
        next id z lo len hr=>
         rw [hr] at h3;simp only at h3;split at h3
         .simp only [U8] at h3
          split at h3
          .split at h3
           .split at h3
            .cases h3
             refine ⟨by simp [put];omega,[_],rfl⟩
            .cases h3
           .cases h3
          .cases h3
         .cases h3
        .cases hk
       .cases h1
     obtain ⟨e3,d2,e4⟩:=hw;exact ⟨V,d++d2,by rw [e2,e4,M3]⟩
    .cases h
   .cases h
  .split at h
   next s2 h2=>
    cases h;exact bQ4 h2
   .cases h
  .cases h
theorem kD.ext (hm:kD j9 st)(h:∃d,st'.o5=d++st.o5):kD j9 st' :=by
 obtain ⟨d,h⟩:=h;intro k i s hi ha hd;rw [h,List.any_append,hm k i s hi ha hd];simp
def swap {Y1 lg}(hn:Uo j9 Y1)(hlg:QA j9 lg){j i a b}(hp:Jd j9 j a i b=W)(ha:j9[j]? =J a)(hb:j9[i]? =J b)(hji:j≠i)
  (hin:∀k n,Y1 k=J n->n<O st.H) (ED:kD j9 st) (h1:QB E j9 Y1 lg j st st1) (h2:QB E j9 Y1 lg i st1 st2):∃Mq,QB E j9 Y1 lg i st Mq /\QB E j9 Y1 lg j Mq st2:=by
 obtain ⟨a',ha',h1⟩:=h1;rw [ha] at ha';cases ha';obtain ⟨b',hb',h2⟩:=h2;rw [hb] at hb';cases hb';obtain ⟨ka0,rsa,sa,la⟩:=cw.1 h1;obtain ⟨kb0,rsb,sb,lb⟩:=cw.1 h2;simp only [Jd,c8,o8,List.contains_eq_mem,decide_eq_false_iff_not] at hp;obtain ⟨⟨⟨⟨u1,u2⟩,t1⟩,t2⟩,ga⟩:=hp;have t1' :∀s,b.dst=J s->s∉fP a:=by
  intro s hs;rw [hs] at t1;simp at t1;exact t1.1
 have t3:∀s,b.dst=J s->a.dst≠J s:=by
  intro s hs;rw [hs] at t1;simp at t1;exact t1.2
 have t4:∀s,a.dst=J s->b.dst≠J s:=λs hs h=>t3 s h hs
 have t2' :∀s,a.dst=J s->s∉fP b:=by
  intro s hs;rw [hs] at t2;simpa using t2
 have Yw:=hn.alloc j a ha;have AI:=hn.alloc i b hb;simp only [Bool.or_eq_true,c8,decide_eq_true_eq] at ga;cases kb:F9 st1 b.op with
 |true =>
  have hu:Cb a=W/\i∈a.dm:=by
   rcases ga with (((((h|h)|h)|h)|h)|h)|h
   .rcases h.2 with h2|h2
    .rw [iB h2] at kb;cases kb
    .exact ⟨h.1,h2⟩
   .rw [iB h.1] at kb;cases kb
   .rw [cr h.2] at kb;cases kb
   .rw [iw h.1.2] at kb;cases kb
   .rw [cr h.1.2] at kb;cases kb
   .rw [nc h.2] at kb;cases kb
   .rw [cr (xw h.2).1] at kb;cases kb
  obtain ⟨sz,Fx,ob,x,y,s,id,z,lo,n,jd,o,hop,hmv,hd,hg,hx,hT,hne⟩:=Kw (RD kb0 kb ha hu.2);obtain ⟨v,e0,_⟩:=Il hu.1 sa;have hT0:st.T[s]? =J (.ptr jd o):=by rw [e0] at hT;exact hT
  rw [vI hmv hd hg hT0] at sa;obtain ⟨rfl,rfl⟩:put st j (.ptr jd o)=st1/\[]=rsa:=by simpa using sa
  have hx0:G5 st.T st.L x= .s5 id z lo n:=by rw [<- X5 u1 x (by simp [hop,s7.R4])];exact hx
  rw [kC hji u1 (by rw [hop];exact Kx hx0 hne)] at sb;cases Kb:A2 E j9 (Y1 i) i b st with
  |none=>rw [Kb] at sb;cases sb
  |some p =>
   obtain ⟨s',rs'⟩:=p;rw [Kb] at sb;simp only [C6,Option.some.injEq,Prod.mk.injEq] at sb;obtain ⟨rfl,rfl⟩:=sb;have hTs:=Kl hop hx0 Kb (λe=>t1' s e (by simp [fP,hmv,s7.R4,z6.slots])) hT0 hne;refine ⟨s',⟨b,hb,cw.2 ⟨?_,rs',Kb,?_⟩⟩,a,ha,cw.2 ⟨by rw [iB hu.1];rfl,[],vI hmv hd hg hTs,?_⟩⟩
   .rw [<- kb0,iY (X5 u1)]
    simp only [BT (X5 u1) (show (put st j (.ptr jd o)).T=st.T from rfl)]
   .rw [lb];exact nE rfl rfl (iN (X5 u1) rfl)
   .rw [la];exact (fH (by simp [put]) (by rw [fD hu.1,fD hu.1])).symm
 |false =>
 cases ka:F9 st a.op with
 |true =>
  have hu:Cb b=W/\j∈b.dm:=by
   rcases ga with (((((h|h)|h)|h)|h)|h)|h
   .rw [iB h.1] at ka;cases ka
   .exact ⟨h.1,h.2⟩
   .rw [cr h.1] at ka;cases ka
   .rw [cr h.1.1] at ka;cases ka
   .rw [iw h.1.1] at ka;cases ka
   .rw [cr (xw h.1).1] at ka;cases ka
   .rw [nc h.1] at ka;cases ka
  obtain ⟨sz,Fx,ob,x,y,s,id,z,lo,n,jd,o,hop,hmv,hd,hg,hx,hT,hne⟩:=Kw (RD ka0 ka hb hu.2);have hT1:=Kl hop hx sa (λe=>t2' s e (by simp [fP,hmv,s7.R4,z6.slots])) hT hne;rw [vI hmv hd hg hT1] at sb;obtain ⟨rfl,rfl⟩:put st1 i (.ptr jd o)=st2/\[]=rsb:=by simpa using sb
  refine ⟨put st i (.ptr jd o),⟨b,hb,cw.2 ⟨by rw [iB hu.1];rfl,[],vI hmv hd hg hT,?_⟩⟩,a,ha,cw.2 ⟨?_,rsa,?_,?_⟩⟩
  .rw [lb];exact fH (by simp [put]) (by rw [fD hu.1,fD hu.1])
  .rw [<- ka0,iY (X5 u2)]
   simp only [BT (X5 u2) (show (put st i (.ptr jd o)).T=st.T from rfl)]
  .rw [kC (λe=>hji e.symm) u2 (by rw [hop];exact Kx hx hne),sa]
   rfl
  .rw [la];exact (nE (s:=st) (s2:=put st i (.ptr jd o)) (s' :=st1) (s2' :=put st1 i (.ptr jd o)) rfl rfl (iN (X5 u2) rfl)).symm
 |false =>
 obtain ⟨da,stA⟩:=Still.A2 ka Yw sa;have aL5:sV a=W->((sU b=W\/vi j9 b=W)\/EN b=W)->(a.op.makes=W->(sU b=W\/vi j9 b=W)/\i∈a.dm)->∃Mq,QB E j9 Y1 lg i st Mq /\QB E j9 Y1 lg j Mq st2:=by
  intro Wn hCD XP;have hkb:∀s,F9 s b.op=F:=λs=>hCD.elim (λh=>iw h s) (λh=>nc h s)
  have Ka:=iA Wn;rw [Ka] at Yw;obtain ⟨n,hn1⟩:=Option.isSome_iff_exists.1 Yw;rw [hn1] at sa;obtain ⟨rfl,f,hf,hf0,rfl,Ta⟩:=Ij Wn sa;obtain ⟨hs1,hs2⟩:A2 E j9 (Y1 i) i b (f st)=(A2 E j9 (Y1 i) i b st).map (λp=>(f p.1,p.2))/\I6 E (f st) b.op=I6 E st b.op:=by
   cases hmk:a.op.makes with
   |true =>
    have an8:I6 E (f st) b.op<=n:=by
     have:=(hlg j a i ha (XP hmk).2).2 hmk;rw [lb,la] at this;simpa [aM,hn1] using this
    have bb0:=Uk hf u1 t2' an8;exact aV8 (E:=E) (j9:=j9) (y4:=Y1 i) hf (XP hmk).1 hji u1 t2' t3 (hin j n hn1) (by rw [bb0];exact an8)
   |false=>exact ax5 (hf0 hmk) hCD hji u1 t2' t3
  rw [hs1] at sb;cases Kb:A2 E j9 (Y1 i) i b st with
  |none=>rw [Kb] at sb;cases sb
  |some p =>
   obtain ⟨s',rs'⟩:=p;rw [Kb] at sb;simp only [C6,Option.some.injEq,Prod.mk.injEq] at sb;obtain ⟨rfl,rfl⟩:=sb;obtain ⟨db,stB⟩:=Still.A2 (hkb st) AI Kb;refine ⟨s',⟨b,hb,eE ⟨hkb _,rs',Kb,?_⟩⟩,a,ha,eE ⟨cr Wn _,[],?_,?_⟩⟩
   .rw [lb]
    exact nE (hf.o5 _) (hf.o5 _) hs2
   .rw [hn1]
    exact Ta s' (stB.Jr u2 t1') (stB.sP u2) ⟨stB.Y0,stB.kR,λs hs=>stB.marked ED j a s ha Ka hs⟩
   .rw [la]
    refine fH ?_ ?_
    .simp [hf.o5]
    .rw [fC Wn,fC Wn]
 have aL6:sV b=W->((sU a=W\/vi j9 a=W)\/EN a=W)->(b.op.makes=W->(sU a=W\/vi j9 a=W)/\j∈b.dm)->∃Mq,QB E j9 Y1 lg i st Mq /\QB E j9 Y1 lg j Mq st2:=by
  intro Wo hCD XP;have hka:∀s,F9 s a.op=F:=λs=>hCD.elim (λh=>iw h s) (λh=>nc h s)
  have Ka:=iA Wo;rw [Ka] at AI;obtain ⟨m,Rm⟩:=Option.isSome_iff_exists.1 AI;rw [Rm] at sb;obtain ⟨rfl,g,hg,Wq,rfl,Tb⟩:=Ij Wo sb;obtain ⟨hs1,hs2⟩:A2 E j9 (Y1 j) j a (g st)=(A2 E j9 (Y1 j) j a st).map (λp=>(g p.1,p.2))/\I6 E (g st) a.op=I6 E st a.op:=by
   cases hmk:b.op.makes with
   |true =>
    have an8:I6 E st a.op<=m:=by
     have:=(hlg i b j hb (XP hmk).2).2 hmk;rw [lb,la] at this;simpa [aM,Rm] using this
    exact aV8 (E:=E) (j9:=j9) (y4:=Y1 j) hg (XP hmk).1 (λe=>hji e.symm) u2 t1' t4 (hin i m Rm) an8
   |false=>exact ax5 (Wq hmk) hCD (λe=>hji e.symm) u2 t1' t4
  have sb0:A2 E j9 (J m) i b st=J (g st,[]) :=
   Tb st (λx hx=>(stA.Jr u1 t2' x hx).symm) (stA.sP u1).symm ⟨stA.Y0.symm,stA.kR.symm,λs hs=>ED i b s hb Ka hs⟩
  refine ⟨g st,⟨b,hb,eE ⟨cr Wo _,[],by rw [Rm];exact sb0,?_⟩⟩,a,ha,eE ⟨hka _,rsa,?_,?_⟩⟩
  .rw [lb]
   refine fH ?_ ?_
   .simp [hg.o5]
   .rw [fC Wo,fC Wo]
  .rw [hs1,sa];rfl
  .rw [la]
   exact (nE (hg.o5 _) (hg.o5 _) hs2).symm
 rcases ga with (((((ga|ga)|ga)|ga)|ga)|ga)|ga
 ·
  obtain ⟨hPa,ga⟩:=ga;obtain ⟨v,rfl,Ta⟩:=Il hPa sa;have kb' :F9 st b.op=F:=by rw [<- iY (X5 u1)];exact kb
  have hs:=kC (E:=E) (y4:=Y1 i) (v:=v) hji u1 (.of kb');rw [hs] at sb;cases Kb:A2 E j9 (Y1 i) i b st with
  |none=>rw [Kb] at sb;cases sb
  |some p =>
   obtain ⟨s',rs'⟩:=p;rw [Kb] at sb;simp only [C6,Option.some.injEq,Prod.mk.injEq] at sb;obtain ⟨rfl,rfl⟩:=sb;have lb' :lg i=aM E b (Y1 i) st s' rs' :=by rw [lb];exact nE rfl rfl (iN (X5 u1) rfl)
   obtain ⟨db,stB⟩:=Still.A2 kb' AI Kb;refine ⟨s',⟨b,hb,eE ⟨kb',rs',Kb,lb'⟩⟩,a,ha,eE ⟨iB hPa _,rsa,?_,?_⟩⟩
   .refine Ta s' (stB.Jr u2 t1') (stB.sP u2) λid hid=>?_
    rcases ga with hPb|hun
    .obtain ⟨u,rfl,_⟩:=Il hPb Kb
     exact T1.refl _
    .have:=(hlg j a i ha hun).1
     rw [lb',la] at this;exact stB.reads (E:=E) (i:=b) (rs:=rs') this hid
   .rw [la]
    refine (fH ?_ ?_).symm
    .simp [put]
    .rw [fD hPa,fD hPa]
 ·
  obtain ⟨hPb,hun⟩:=ga;obtain ⟨v,rfl,Tb⟩:=Il hPb sb;have sb0:A2 E j9 (Y1 i) i b st=J (put st i v,rsb):=by
   refine Tb st (λx hx=>(stA.Jr u1 t2' x hx).symm) (stA.sP u1).symm λid hid=>?_
   have:=(hlg i b j hb hun).1;rw [la,lb] at this;exact (stA.reads (E:=E) (i:=a) (rs:=rsa) this hid).symm
  refine ⟨put st i v,⟨b,hb,eE ⟨iB hPb _,rsb,sb0,?_⟩⟩,a,ha,eE ⟨by rw [iY (X5 u2)];exact ka,rsa,?_,?_⟩⟩
  .rw [lb]
   refine (fH ?_ ?_)
   .simp [put]
   .rw [fD hPb,fD hPb]
  .rw [kC (λe=>hji e.symm) u2 (.of ka),sa]
   rfl
  .rw [la]
   exact (nE (s:=st) (s2:=put st i v) (s' :=st1) (s2' :=put st1 i v) rfl rfl (iN (X5 u2) rfl)).symm
 ·
  obtain ⟨Wn,Wo⟩:=ga;rw [iA Wn] at Yw;rw [iA Wo] at AI;obtain ⟨n,hn1⟩:=Option.isSome_iff_exists.1 Yw;obtain ⟨m,Rm⟩:=Option.isSome_iff_exists.1 AI;rw [hn1] at sa;rw [Rm] at sb;obtain ⟨rfl,f,hf,hf0,rfl,Ta⟩:=Ij Wn sa;obtain ⟨rfl,g,hg,Wq,rfl,Tb⟩:=Ij Wo sb;have hnm:n≠m:=by
   rintro rfl;exact hji (hn.inj j i n hn1 Rm)
  have ut:∀{c:o4} {x:z6} {t:Nat},x∈c.op.R4->t∉fP c->t∉x.slots:=by
   intro c x t hx ht h;apply ht;unfold fP;exact List.mem_flatMap.2 ⟨x,hx,h⟩
  have sb0:A2 E j9 (J m) i b st=J (g st,[]) :=
   Tb st (λx hx=>(hf.G5 (P8 hx u1) (λt ht=>ut hx (t2' t ht)) st).symm) (hf.wanted (λ_ _ h=>eW h u1) st).symm ⟨(hf.Y0 st).symm,(hf.kR st).symm,λs hs=>ED i b s hb (iA Wo) hs⟩
  have sa0:A2 E j9 (J n) j a (g st)=J (f (g st),[]) :=
   Ta (g st) (λx hx=>hg.G5 (P8 hx u2) (λt ht=>ut hx (t1' t ht)) st) (hg.wanted (λ_ _ h=>eW h u2) st) ⟨hg.Y0 st,hg.kR st,λs hs=>by rw [hg.o5];exact ED j a s ha (iA Wn) hs⟩
  refine ⟨g st,⟨b,hb,eE ⟨cr Wo _,[],by rw [Rm];exact sb0,?_⟩⟩,a,ha,eE ⟨cr Wn _,[],by rw [hn1,sa0,hf.comm hg hji hnm t3],?_⟩⟩
  .rw [lb]
   refine fH ?_ ?_
   .simp [hf.o5,hg.o5]
   .rw [fC Wo,fC Wo]
  .rw [la]
   refine (fH ?_ ?_)
   .simp [hf.o5,hg.o5]
   .rw [fC Wn,fC Wn]
 .exact aL5 ga.1.1 (.inl ga.1.2) λ_=>⟨ga.1.2,ga.2⟩
 .exact aL6 ga.1.2 (.inl ga.1.1) λ_=>⟨ga.1.1,ga.2⟩
 .exact aL5 (xw ga.1).1 (.inr ga.2) λh=>by rw [(xw ga.1).2] at h;cases h
 .exact aL6 (xw ga.2).1 (.inr ga.1) λh=>by rw [(xw ga.2).2] at h;cases h
end
end Go.B3
namespace Go.B3
variable [E0]
inductive uT (E:Env) (j9:List o4) (Y1:Nat->Option Nat) (lg:Nat->jx):List Nat->G4->G4->Prop where
 |nil (st:G4):uT E j9 Y1 lg [] st st
 |cons {k:Nat} {ks:List Nat} {st st1 st2:G4}:QB E j9 Y1 lg k st st1->uT E j9 Y1 lg ks st1 st2->uT E j9 Y1 lg (k::ks) st st2
section
variable {E:Env} {j9:List o4} {Y1:Nat->Option Nat} {lg:Nat->jx} {st st1 st2 fin:G4}
theorem QB.len (hn:Uo j9 Y1){k}(h:QB E j9 Y1 lg k st st1):O st.H<=O st1.H:=by
 obtain ⟨i,hi,h⟩:=h;obtain ⟨hk,rs,hs,_⟩:=cw.1 h;exact (ye (hn.alloc k i hi) hs).1
def QB.marked (hn:Uo j9 Y1){k}(h:QB E j9 Y1 lg k st st1)(hm:kD j9 st):kD j9 st1:=by
 obtain ⟨i,hi,h⟩:=h;obtain ⟨hk,rs,hs,_⟩:=cw.1 h;exact hm.ext (ye (hn.alloc k i hi) hs).2
theorem uT.front (hn:Uo j9 Y1)(hlg:QA j9 lg){i b}(hb:j9[i]? =J b){rest} :
  ∀ js st,(∀j,j∈js->j≠i/\∃a,j9[j]? =J a/\Jd j9 j a i b=W)->(∀k n,Y1 k=J n->n<O st.H)->kD j9 st->uT E j9 Y1 lg (js++i::rest) st fin ->
   ∃st',QB E j9 Y1 lg i st st' /\uT E j9 Y1 lg (js++rest) st' fin
 |[],st,_,_,_,h=>by
  cases h with
  |cons h1 h2=>grind
 |j::js,st,hj,hin,ED,h=>by
  cases h with
  |cons h1 h2 =>
   obtain ⟨s2,g1,g2⟩:=uT.front hn hlg hb js _ (λj' hj' =>hj j' (by simp [hj'])) (λk n hk=>Nat.lt_of_lt_of_le (hin k n hk) (h1.len hn)) (h1.marked hn ED) h2;obtain ⟨hne,a,ha,hp⟩:=hj j U;obtain ⟨s1,e1,e2⟩:=swap hn hlg hp ha hb hne hin ED h1 g1;exact ⟨s1,e1,uT.cons e2 g2⟩
end
def direct (o:Oper):List Nat:=(o.after.toList.filter (Region.binds .any)).map (·.on)
def OD:List Oper->List (List Nat)->List (List Nat)
 |[],acc=>acc
 |o::os,acc=>OD os (acc++[((direct o).flatMap λe=>e::acc.getD e []).eraseDups])
def LO (W5:List (List Nat))(k:Nat)(o:Oper):Bool :=
 (W5.getD k []).all λj=>(direct o).contains j||(direct o).any λe=>(W5.getD e []).contains j
def BX (j9:List o4)(W5:List (List Nat))(i:Nat)(b:o4):Bool :=
 (List.range i).all λj=>(W5.getD i []).contains j||(match j9[j]? with
  |some a=>Jd j9 j a i b
  |none=>F)
def qp (X:Cx)(j9:List o4)(W5:List (List Nat)):List o4->Nat->Bool
 |[],k=>X.ops.size==k
 |i::is,k=>(match X.ops[k]? with
  |some o=>LO W5 k o&&(direct o).all (λe=>decide (e<k))&&ue X (λj=>(W5.getD k []).contains j) o i&&BX j9 W5 k i
  |none=>F)&&qp X j9 W5 is (k+1)
theorem BV {X j9 W5}:∀ is k,j9.drop k=is->qp X j9 W5 is k=W->∀ m b,k<=m->j9[m]? =J b ->
  ∃o,X.ops[m]? =J o/\LO W5 m o=W/\(∀e,e∈direct o->e<m)/\ue X (λj=>(W5.getD m []).contains j) o b=W/\BX j9 W5 m b=W
 |[],k,hd,_,m,b,hkm,hb=>by
  simp_all [List.length]<;>grind
 |i::is,k,hd,h,m,b,hkm,hb=>by
  simp only [qp,c8] at h
  by_cases e:m=k
  .subst e
   have hi:j9[m]? =J i:=by
    have:(j9.drop m)[0]? =J i:=by rw [hd];rfl
    grind
   grind
  .have hd' :j9.drop (k+1)=is:=by
    have:=congrArg (List.drop 1) hd
    grind [List.drop_drop]
   exact BV is (k+1) hd' h.2 m b V hb
theorem qq {X j9 W5}:∀ is k,qp X j9 W5 is k=W->X.ops.size=k+O is
 |[],k,h=>by grind [qp]
 |i::is,k,h=>by
  simp [qp,c8] at h;have:=qq is (k+1) h.2
  grind
def Wz (X:Cx)(S:Nat->Prop):Prop:=∀(k:Nat) o,S k->X.ops[k]? =J o->∀e,e∈direct o->S e
def OE {X W5 S}(hc:Wz X S)(hok:∀ k o,X.ops[k]? =J o->LO W5 k o=W/\∀e,e∈direct o->e<k)(hout:∀k,X.ops.size<=k->W5.getD k []=[]) :
  ∀ n k,k<=n->∀o,X.ops[k]? =J o->(∀e,e∈direct o->S e)->∀j,j∈W5.getD k []->S j:=by
 intro n
 induction n with
 |zero =>
  grind [LO]
 |succ n ih =>
  intro k hk o ho hd j hj;obtain ⟨h1,h2⟩:=hok k o ho;have:=L4.1 h1 j hj;simp [Bool.or_eq_true,List.contains_eq_mem,decide_eq_true_eq,List.any_eq_true] at this
  rcases this with h|⟨e,he,hej⟩
  .exact hd j h
  .have hlt:=h2 e he
   cases hoe:X.ops[e]? with
   |none =>
    simp_all
   |some oe=>exact ih e V oe hoe (hc e oe (hd e he) hoe) j hej
def ey (n:Nat)(listed:Array Bool):List Nat:=(List.range n).filter λj=> !listed.getD j F
def Mb {n i listed}(hi:i<n)(hu:listed.getD i F=F)(hs:listed.size=n) :
  ∃js rest,ey n listed=js++i::rest/\ey n (listed.setIfInBounds i W)=js++rest/\∀j,j∈js->j<i/\listed.getD j F=F:=by
 refine ⟨(List.range i).filter λj=> !listed.getD j F,(List.range' (i+1) (n - i - 1)).filter λj=> !listed.getD j F,?_,?_,?_⟩
 .unfold ey
  have:List.range n=List.range i++i::List.range' (i+1) (n - i - 1):=by
   have h:=List.range'_append_1 (s:=0) (m:=i) (n:=n - i - 1+1)
   grind [List.range_eq_range',List.range'_succ]
  simp_all
 .unfold ey
  have:List.range n=List.range i++i::List.range' (i+1) (n - i - 1):=by
   have h:=List.range'_append_1 (s:=0) (m:=i) (n:=n - i - 1+1)
   grind [List.range_eq_range',List.range'_succ]
  rw [this,List.filter_append,List.filter_cons];have e1:(!(listed.setIfInBounds i W).getD i F)=F:=by simp [hs,hi]
  rw [e1]
  congr 1
  .refine List.filter_congr λj hj=>?_
   simp_all<;>grind
  .refine List.filter_congr λj hj=>?_
   simp_all<;>grind
 simp_all
section
variable {X:Cx} {j9:List o4} {E:Env} {nt:Nat} {Y1:Nat->Option Nat} {lg:Nat->jx} {fin:G4} {W5:List (List Nat)}
def Us (hst:Stat X nt)(Rh:qc X.P E.cf E.prom)(gV:∀f args H lm r,E.cf f args H lm=J r->U1 X.P f=W)(hs:E.lim.strict<=E.lim.base)(hbe:E.lim.base<=E.entry) Q
  (KW:qp X j9 W5 j9 0=W) (hout:∀k,X.ops.size<=k->W5.getD k []=[]) (hn:Uo j9 Y1) (hne:∀k n,Y1 k=J n->E.entry<=n) (hlg:QA j9 lg) :
  ∀ fuel listed st a w G I N,Rg X j9 E nt (λj=>listed.getD j F=W) st a w G I N->listed.size=O j9->Wz X (λj=>listed.getD j F=W) ->
   (∀k n,Y1 k=J n->n<O st.H)->kD j9 st->(∀k n,Y1 k=J n->listed.getD k F=F->¬ N n)->uT E j9 Y1 lg (ey (O j9) listed) st fin->O (ey (O j9) listed)<=fuel ->
   (∀a' w' G' I' N',Fin X j9 E nt st w G I N fin a' w' G' I' N' ->Q .normal a' w')->wpAny X.P .any X.ops Q fuel listed a w:=by
 have hsize:X.ops.size=O j9:=by grind [qq]
 have AE:=λ(m:Nat) b hb=>BV j9 0 U KW m b (A4 _) hb
 have XR:∀(k:Nat) o,X.ops[k]? =J o->LO W5 k o=W/\∀e,e∈direct o->e<k:=by
  intro k o ho;have hk:k<O j9:=by
   grind
  obtain ⟨o',h1,h2,h3,_⟩:=AE k j9[k] (n5 hk);simp_all
 have hdone:∀(listed:Array Bool),listed.size=O j9->Region.ready .any X.ops listed=[]->ey (O j9) listed=[]:=by
  intro listed hls hr;cases XT:ey (O j9) listed with
  |nil=>rfl
  |cons i rest =>
   exfalso;have hi:i<O j9/\listed.getD i F=F/\∀j,j<i->listed.getD j F=W:=by
    have hm:i∈ey (O j9) listed:=M
    unfold ey at hm;simp only [List.mem_filter,List.mem_range,o8] at hm;refine ⟨hm.1,hm.2,λj hj=>?_⟩;cases hlj:listed.getD j F with
    |true=>rfl
    |false =>
     have hjm:j∈ey (O j9) listed:=by
      grind [ey,o8]
     have bq6:(ey (O j9) listed).Pairwise (·<·):=List.Pairwise.filter _ List.pairwise_lt_range
     grind [N6]
   obtain ⟨o,ho,_,hlt,_⟩:=AE i j9[i] (n5 hi.1);have:i∈Region.ready .any X.ops listed:=by
    grind [mem_ready,direct]
   simp_all
 have hend:∀(listed:Array Bool) (st:G4) (a:Act) (w:World) (G:Gh) (I:T0) (N:Nat->Prop),Rg X j9 E nt (λj=>listed.getD j F=W) st a w G I N->listed.size=O j9->uT E j9 Y1 lg (ey (O j9) listed) st fin->ey (O j9) listed=[] ->
   Fin X j9 E nt st w G I N fin a w G I N:=by
  intro listed st a w G I N hR hls hrun XT;rw [XT] at hrun;cases hrun;refine ⟨hR.congr λj=>?_,bw.refl _ _ _ _ _ _⟩;constructor
  .grind
  simp_all [ey,List.mem_filter,List.mem_range,o8]
 intro fuel
 induction fuel with
 |zero =>
  intro listed st a w G I N hR hls hcl hin ED hfr hrun hfl hQ;have XT:ey (O j9) listed=[]:=List.length_eq_zero_iff.1 V;refine ⟨?_,hQ _ _ _ _ _ (hend listed st a w G I N hR hls hrun XT)⟩;cases hr:Region.ready .any X.ops listed with
  |nil=>rfl
  |cons i rest =>
   exfalso;have:i∈Region.ready .any X.ops listed:=by rw [hr];simp
   obtain ⟨h0,o,ho,_⟩:=mem_ready.1 this;have hi:i<O j9:=by grind
   have EZ:i<listed.size:=V
   have:i∈ey (O j9) listed:=by
    grind [ey,o8]
   grind
 |succ fuel ih =>
  intro listed st a w G I N hR hls hcl hin ED hfr hrun hfl hQ;refine ⟨λhr=>hQ _ _ _ _ _ (hend listed st a w G I N hR hls hrun (hdone listed hls hr)),λi hi=>?_⟩;obtain ⟨h0,o,ho,hall⟩:=mem_ready.1 hi;have hia:i<O j9:=by grind
  have EZ:i<listed.size:=V
  have hun:listed.getD i F=F:=by
   grind
  obtain ⟨b,hb⟩:∃b,j9[i]? =J b:=⟨_,n5 hia⟩;obtain ⟨o',ho',hoa,hlt,hci,mL⟩:=AE i b hb;rw [ho] at ho';cases ho';have bF7:∀e,e∈direct o->listed.getD e F=W:=by
   grind [direct]
  have bF3:=OE hcl XR hout i i (o6 _) o ho bF7;obtain ⟨js,rest,hr1,Va,hjs⟩:=Mb hia hun hls;rw [hr1] at hrun;obtain ⟨st1,bI1,bZ2⟩:=uT.front hn hlg hb js st (λj hj=>by
   obtain ⟨hji,hju⟩:=hjs j hj
   grind [BX]) hin ED hrun
  obtain ⟨b',hb',hD⟩:=bI1;rw [hb] at hb';cases hb';obtain ⟨hk,rs,hstep,cq3⟩:=cw.1 hD;have hstill:=(ye (hn.alloc i b hb) hstep).2;refine zA hst Rh gV hs hbe hR (f9:=λj=>(W5.getD i []).contains j) (λj hj=>bF3 j (by simpa using hj)) (by grind) ho hb hci (y4:=Y1 i) (λKa=>?_) (λn hni=>⟨hne i n hni,hin i n hni⟩) hstep _ _ ?_
  .have:=hn.alloc i b hb
   rw [Ka] at this;obtain ⟨n,hni⟩:=Option.isSome_iff_exists.1 this;rw [hni];have h1:=hne i n hni;exact ⟨hfr i n hni hun,(λm hm=>by grind),by grind [newId],by grind [newId]⟩
  .intro a' w' G' I' N' hdn
   have sX:∀j,(listed.setIfInBounds i W).getD j F=W↔(listed.getD j F=W\/j=i):=by
    intro j
    by_cases e:j=i
    .subst e;simp [EZ]
    .rw [Go.getD_set_ne F (λh=>e h.symm)]
     simp [e]
   refine ih (listed.setIfInBounds i W) st1 a' w' G' I' N' (hdn.rg.congr λj=>(sX j).symm) (by simp [hls]) ?_ (λk n hk=>Nat.lt_of_lt_of_le (hin k n hk) hdn.len) (ED.ext hstill) ?_ (by grind) ?_ ?_
   .intro k ok hk hok e he
    rw [sX] at hk ⊢
    rcases hk with hk|rfl
    .exact Or.inl (hcl k ok hk hok e he)
    grind
   .intro k n hk hku hN
    have bG4 :listed.getD k F=F/\k≠i:=by
     grind
    rcases hdn.old n (hin k n hk) hN with h|h
    .grind
    .exact bG4.2 (hn.inj k i n hk h)
   .grind
   .intro a'' w'' G'' I'' N'' hf
    exact hQ _ _ _ _ _ ⟨hf.rg,hdn.since.trans hf.since⟩
def tD (j9:List o4)(base:Nat)(k:Nat):Option Nat :=
 match j9[k]? with
 |some i=>if i.op.A6 then J (base+O ((j9.take k).filter (·.op.A6))) else K
 |none=>K
def aq1 j9 base:Uo j9 (tD j9 base):=by
 refine ⟨λk i hi=>?_,λj k n hj hk=>?_⟩
 .grind [tD]
 .have key:∀a b n,a<b->tD j9 base a=J n->tD j9 base b=J n->False:=by
   intro a b n hab ha hb;unfold tD at ha hb;split at ha
   .split at ha
    .split at hb
     .split at hb
      .have h1:O ((j9.take (a+1)).filter (·.op.A6))=O ((j9.take a).filter (·.op.A6))+1:=by
        simp_all [List.take_add_one,List.filter_append]
       grind [List.Sublist.length_le,List.Sublist.filter,List.take_sublist_take_left]
      .cases hb
     .cases hb
    .cases ha
   .cases ha
  grind
theorem zq {base}:∀ is k na st st2 Pz lgf,j9.drop k=is->na=base+O ((j9.take k).filter (·.op.A6))->R9 E j9 is k na st=J (st2,Pz) ->
  (∀m,m<O is->lgf (k+m)=Pz.getD m ⟨[],[],0,0⟩)->O Pz=O is/\uT E j9 (tD j9 base) lgf (List.range' k (O is)) st st2
 |[],k,na,st,st2,Pz,lgf,hd,hna,h,hl=>by
  cases h;exact ⟨rfl,uT.nil _⟩
 |i::is,k,na,st,st2,Pz,lgf,hd,hna,h,hl=>by
  have hi:j9[k]? =J i:=by
   have:(j9.drop k)[0]? =J i:=by rw [hd];rfl
   grind
  have hd' :j9.drop (k+1)=is:=by
   have:=congrArg (List.drop 1) hd
   grind [List.drop_drop]
  simp [R9] at h;split at h
  next st1 l hstep=>
   split at h
   next st3 lg3 hrun=>
    cases h;have bG8 :(if i.op.A6=W then na+1 else na)=base+O ((j9.take (k+1)).filter (·.op.A6)):=by
     grind
    obtain ⟨g1,g2⟩:=zq is (k+1) _ st1 st2 lg3 lgf hd' bG8 hrun (λm hm=>by
     simp_all<;>grind)
    refine ⟨by simp [g1],?_⟩;refine uT.cons ⟨i,hi,?_⟩ g2
    grind [tD]
   .cases h
  .cases h
def Vt {Pz}(hlen:O Pz=O j9)(h:fK j9 Pz=W):QA j9 (λk=>Pz.getD k ⟨[],[],0,0⟩):=by
 intro k i e hi he;unfold fK at h;have hk:=y9 hi;have hz:(i,Pz.getD k ⟨[],[],0,0⟩)∈j9.zip Pz:=by
  refine List.mem_of_getElem? (i:=k) ?_;simp_all
 grind
end
end Go.B3
namespace Go.B3
variable [E0]
structure Cd (P:Program)(names:List Tmp)(E:Env)(nt:Nat)(st:St)(a:Act)(w:World)(G:Gh)(I:T0)(N:Nat->Prop):Prop where
 T:∀(s:Nat) t,names[s]? =J t->VR G I N w (.slot s) (st.T.getD s .any) (a.tmps.getD t undef)
 H:HR G I N w st.H
 wf:WF G w
 W9:Ul E.lim st.H
 Y0:O st.T=O names
 bY:∀id,N id->id<O st.H
 IE:E.entry<=O st.H
 size:a.tmps.size=nt
 idle:∀d,d∈a.defers->Kh P E.idle d
def um (names:List Tmp):List (Option Tmp)->Bool
 |[]=>W
 |none::r=>um names r
 |some d::r=>(names.contains d|| !r.contains (J d))&&um names r
def lP:List Tmp->Bool
 |[]=>W
 |x::xs=> !xs.contains x&&lP xs
theorem tC:∀ l,lP l=W->∀(s s' :Nat) t,l[s]? =J t->l[s']? =J t->s=s'
 |[],_,s,s',t,h,_=>by simp at h
 |x::xs,hok,s,s',t,h,h' =>by
  simp [lP,c8,List.contains_eq_mem] at hok;cases s with
  |zero =>
   grind
  |succ s =>
   cases s' with
   |zero =>
    grind
   |succ s' =>rw [tC xs hok.2 s s' t (by simpa using h) M]
theorem vq names:∀ l,um names l=W->∀(i j:Nat) d,l[i]? =J (J d)->l[j]? =J (J d)->names.contains d=F->i=j
 |[],_,i,j,d,h,_,_=>by simp at h
 |x::xs,hok,i,j,d,h,h',hn=>by
  have vD:um names xs=W:=by
   cases x with
   |none=>exact hok
   |some d' =>simp_all [um,c8]
  have hnot:x=J d->J d∉xs:=by
   grind [um,absurd]
  cases i with
  |zero =>
   grind
  |succ i =>
   cases j with
   |zero =>
    grind
   |succ j=>rw [vq names xs vD i j d (by simpa using h) M hn]
def fB (P:Program)(names:List Tmp)(nt:Nat)(ops:Array Oper)(j9:List o4)(draw:Bool):Bool :=
 um names (ops.toList.map (·.dst))&&(ops.toList.all λo=>match o.dst with|some d=>decide (d<nt)|none=>W) &&
 (if draw then
   let W5:=OD ops.toList []
   decide (O W5<=ops.size)&&qp ⟨P,names,ops⟩ j9 W5 j9 0&&P.follows .mixedOrders
  else ou ⟨P,names,ops⟩ j9 0)
def av6 {P names nt ops j9 draw}(hn:lP names=W)(h:fB P names nt ops j9 draw=W):Stat ⟨P,names,ops⟩ nt:=by
 simp [fB,c8] at h;obtain ⟨⟨h1,h2⟩,_⟩:=h;have get:∀(i:Nat) d,(ops[i]?).bind (·.dst)=J d->(ops.toList.map (·.dst))[i]? =J (J d):=by
  simp_all<;>grind
 refine ⟨λi j d hi hj hc=>vq names _ h1 i j d (get i d hi) (get j d hj) hc,λi d hd=>?_,λs s' t=>tC names hn s s' t⟩
 grind
section
variable {P:Program} {names:List Tmp} {E:Env} {nt:Nat} {st:St} {a:Act} {w:World} {G:Gh} {I:T0} {N:Nat->Prop} {ops:Array Oper} {j9:List o4}
def Cd.start (h:Cd P names E nt st a w G I N) X(hX:X=⟨P,names,ops⟩){S}(hS:∀j,¬ S j){H'} ext(hH:H' =st.H++ext)(aZ0:∀o,o∈ext->o= .dead){L}(hL:O L=O j9) o5 :
  Rg X j9 E nt S ⟨st.T,H',L,o5⟩ a w G I N:=by
 subst hX;subst hH;have get:∀(id:Nat) o,(st.H++ext)[id]? =J o->st.H[id]? =J o\/o= .dead:=by
  intro id o ho
  rcases x9 id (O st.H) with hlt|hge
  .grind
  .rw [q9 hge] at ho
   exact Or.inr (aZ0 o (List.mem_of_getElem? ho))
 refine ⟨⟨h.T,λj hj=>absurd hj (hS j),λid o ho=>?_,h.wf,λid o ho=>?_⟩,⟨λj _ _ _ _ hj=>absurd hj (hS j),λj _ _ _ _ _ _ hj=>absurd hj (hS j)⟩,λj _ _ hj=>absurd hj (hS j),h.Y0,hL,λid hid=>?_,?_,h.size,h.idle⟩
 .rcases get id o ho with h1|rfl
  .exact h.H id o h1
  .simp [OR]
 .rcases get id o ho with h1|rfl
  .exact h.W9 id o h1
  .simp [B4.K9]
 .have:=h.bY id hid;simp;omega
 .have:=h.IE;simp;omega
theorem Cd.drew (h:Cd P names E nt st a w G I N) n(hn:w.drawn<=n):Cd P names E nt st a { w with drawn:=n } G I N/\bw E st.H w G I N st.H { w with drawn:=n } G I N:=by
 have hx:Ext G w G { w with drawn:=n }:=(Ext.refl G w).drew n hn;have hk:∀pl,bI pl G w G { w with drawn:=n }:=λ_ _ _ h=>⟨h,rfl⟩
 refine ⟨⟨λs t ht=>VR.mono hx (λ_ _=>rfl) (λ_ h=>h) _ _ _ (Or.inr (hk _)) (h.T s t ht),λid o ho=>OR.mono (w:=w) hx.sub (λ_ _=>rfl) (λ_ h=>h) id o (λh=>⟨h,rfl⟩) (λ_=>hk _) (h.H id o ho),h.wf,h.W9,h.Y0,h.bY,h.IE,h.size,h.idle⟩,?_⟩;exact ⟨hx,λid _=>⟨λ_ h=>⟨h,rfl⟩,λ_=>hk _⟩,λ_ _ _=>rfl,λ_ _ h=>h,λ_ _ h=>h,λ_ o _ h=>Or.inr ⟨o,h,o6 _⟩⟩
def Cd.done {X}(hX:X=⟨P,names,ops⟩){S r}(h:Rg X j9 E nt S r a w G I N):Cd P names E nt ⟨r.T,r.H⟩ a w G I N:=by
 subst hX;exact ⟨h.ri.T,h.ri.H,h.ri.wf,h.ri.W9,h.Y0,h.bY,h.IE,h.size,h.idle⟩
structure Qx (P:Program)(E:Env):Prop where
 cf:qc P E.cf E.prom
 can:∀f args H lm r,E.cf f args H lm=J r->U1 P f=W
 strict:E.lim.strict<=E.lim.base
 base:E.lim.base<=E.entry
def bw.vu {H0 ext H:n9}{w0 w G0 G I0 I N0 N}(hb:E.lim.base<=O H0)(h:bw E (H0++ext) w0 G0 I0 N0 H w G I N):bw E H0 w0 G0 I0 N0 H w G I N:=by
 refine ⟨h.ext,h.ew,h.inj,h.mono,h.old,λid o' hid ho=>?_⟩
 rcases h.hle id o' hid ho with h1|⟨o,h1,h2⟩
 all_goals grind
def vP (hE:Qx P E)(hn:lP names=W){draw}(hc:fB P names nt ops j9 draw=W)(h:Cd P names E nt st a w G I N){r}(hr:S0 E j9 draw st.T st.H=J r) id Q
  (hQ:∀a' w' G' I' N',Rg ⟨P,names,ops⟩ j9 E nt (λj=>j<O j9) r a' w' G' I' N' ->bw E st.H w G I N r.H w' G' I' N' ->Q .normal a' w'):(Code.region id ops draw).wp P Q a w:=by
 have hst:=av6 hn hc;simp only [fB,c8] at hc;obtain ⟨_,hc⟩:=hc;unfold S0 at hr;cases draw with
 |false =>
  refine wp_region ?_;have hsz:ops.size=O j9:=by
   have:∀(is:List o4) (k:Nat),ou ⟨P,names,ops⟩ is k=W->ops.size=k+O is:=by
    intro is
    induction is with
    |nil=>simp_all [ou]
    |cons i is ih =>
     grind [ou]
   grind
  rw [hsz,List.range_eq_range'];have hR:Rg ⟨P,names,ops⟩ j9 E nt (λj=>j<0) ⟨st.T,st.H,c9 (O j9) .any,[]⟩ a w G I N :=
   h.start _ rfl (λj=>U) [] U U U []
  refine Jt (X:=⟨P,names,ops⟩) hst hE.cf hE.can hE.strict hE.base Q j9 0 U U hc _ a w G I N r hR hr ?_;intro a' w' G' I' N' hf;exact hQ a' w' G' I' N' hf.rg hf.since
 |true =>
  simp only [if_true,c8,decide_eq_true_eq] at hr hc;obtain ⟨⟨Vb,aY3⟩,bG7⟩:=hc;split at hr
  next r' Pz hrun=>
   split at hr
   next hok=>
    cases hr;refine wp_region_any bG7 ?_;obtain ⟨h2,aK5⟩:=h.drew (w.drawn+1) (Nat.le_succ _);have hR:Rg ⟨P,names,ops⟩ j9 E nt (λj=>(Array.replicate ops.size F).getD j F=W) ⟨st.T,st.H++Z2 j9,c9 (O j9) .any,slotsOf j9⟩ a { w with drawn:=w.drawn+1 } G I N :=
     h2.start _ rfl (λj=>by
      simp_all<;>grind) (Z2 j9) rfl (by
      simp_all [Z2]) U (slotsOf j9)
    have aZ9:kD j9 ⟨st.T,st.H++Z2 j9,c9 (O j9) .any,slotsOf j9⟩:=by
     intro k i s hi ha hd;simp_all [Touch.V7,slotsOf]<;>grind
    have hsize:ops.size=O j9:=by
     have:=qq (X:=⟨P,names,ops⟩) j9 0 aY3;simp_all
    obtain ⟨hlen,cn0⟩:=zq (base:=O st.H) j9 0 (O st.H) _ r Pz (λk=>Pz.getD k ⟨[],[],0,0⟩) U U hrun (λm _=>U);have XT:ey (O j9) (Array.replicate ops.size F)=List.range' 0 (O j9):=by
     simp_all [ey,List.filter_eq_self,List.range_eq_range']
    have hlt:∀k n,tD j9 (O st.H) k=J n->O st.H<=n/\n<O (st.H++Z2 j9):=by
     intro k n hk;unfold tD at hk;split at hk
     .split at hk
      .have h1:O ((j9.take (k+1)).filter (·.op.A6))=O ((j9.take k).filter (·.op.A6))+1:=by
        simp_all [List.take_add_one,List.filter_append]
       grind [List.Sublist.length_le,List.Sublist.filter,List.take_sublist,Z2]
      .cases hk
     .cases hk
    refine Us (X:=⟨P,names,ops⟩) (W5:=OD ops.toList []) (Y1:=tD j9 (O st.H)) (lg:=λk=>Pz.getD k ⟨[],[],0,0⟩) (fin:=r) hst hE.cf hE.can hE.strict hE.base Q aY3 (λk hk=>?_) (aq1 j9 _) (λk n hk=>?_) (Vt hlen hok)
     ops.size (Array.replicate ops.size F) _ a _ G I N hR (by simp [hsize]) ?_ (λk n hk=>(hlt k n hk).2) aZ9 (λk n hk _ hN=>?_) M M ?_
    .grind
    .have:=(hlt k n hk).1;have:=h.IE;omega
    .intro k o hk
     simp_all<;>grind
    .have h1:=h.bY n hN;grind
    .intro a' w' G' I' N' hf
     have hb:E.lim.base<=O st.H:=A3 hE.base h.IE;exact hQ a' w' G' I' N' hf.rg (aK5.trans (hf.since.vu hb))
   .cases hr
  .cases hr
end
end Go.B3
namespace Go.B3
variable [E0]
section
variable {P:Program} {names:List Tmp} {E:Env} {nt:Nat} {st st' :St} {a:Act} {w:World} {G:Gh} {I:T0} {N:Nat->Prop}
theorem zo:∀ cs k i id sz lo len,gZ cs k=J (i,id,sz,lo,len)->∃j,i=k+j/\cs[j]? =J (.s5 id sz lo len)
 |[],_,_,_,_,_,_,h=>by simp [gZ] at h
 |c::cs,k,i,id,sz,lo,len,h=>by
  cases c
  case s5 id' sz' lo' len' =>
   simp_all [gZ,Option.some.injEq,Prod.mk.injEq]
  all_goals
   obtain ⟨j,h1,h2⟩:=zo cs (k+1) i id sz lo len (by simp_all [gZ]);simp_all<;>grind
def OU {pl v d x}(hd:v.data? =J d)(h:VR G I N w pl v x):DR G w d x:=by
 have h2:VR G I N w pl v.F4 x:=h.F4;cases v<;>simp [c7.data?] at hd<;>first|cases hd|skip
 all_goals simp_all [c7.F4,VR]
theorem Xe b(aJ1:∀o,jS G b o):∀ vs xs o,L5 vs=J xs->(∀j v,vs[j]? =J v->∃u,w.cell? (ad b (o+j))=J u/\∀d,v.data? =J d->DR G w d u)->gl G w b o xs
 |[],xs,o,h,_=>by simp_all [L5,gl]
 |v::vs,xs,o,h,hv=>by
  unfold L5 at h;cases hd:v.data? with
  |none=>simp_all
  |some d =>
   rw [hd] at h;cases hds:L5 vs with
   |none=>simp_all
   |some ds =>
    rw [hds] at h;cases h;obtain ⟨u,h1,h2⟩:=hv 0 v rfl;refine ⟨aJ1 o,⟨u,V,h2 d hd⟩,Xe b aJ1 vs ds (o+1) hds λj v' hj=>?_⟩;obtain ⟨u',g1,g2⟩:=hv (j+1) v' M
    grind
def XF (h:Cd P names E nt st a w G I N){s}(hr:Cv E.lim E.entry s st=J st'):∃G' N',Cd P names E nt st' a w G' I N' /\bw E st.H w G I N st'.H w G' I N' :=by
 unfold Cv at hr;split at hr
 next b hT=>
  split at hr
  next cs hb=>
   split at hr
   next i id sz lo len bH7=>
    split at hr
    next vs hvs=>
     split at hr
     next xs hxs=>
      split at hr
      next aU=>
       cases hr;obtain ⟨hbase,Pd,hmay,hbb,hne⟩:=aU;obtain ⟨j,hj,hcj⟩:=zo cs 0 i id sz lo len bH7;obtain rfl:i=j:=V
       obtain ⟨old,hold,hlen,bJ0⟩:∃old,st.H[id]? =J (.cells old)/\lo+len * sz<=O old/\vs=(old.drop lo).take (len * sz):=by
        grind [rd]
       have hO:=h.H id _ hold;simp only [OR] at hO;obtain ⟨hN,c,e,f,g1,g2,g3,g4,g5⟩:=hO;have hlt:(I id).1<w.heap.size:=by
        grind
       have an0:=y9 hold;have hx:Ext G w (gR G (I id).1 .mM) w:=by
        refine ⟨rfl,rfl,rfl,λ_=>o6 _,o6 _,λb' o hi=>⟨?_,rfl⟩,λb' hb' =>⟨?_,rfl⟩,λ_ c _ _ hc=>⟨c,hc,rfl⟩⟩
        all_goals grind [jS,rG,J1]
       have hkp:∀q,bI q G w (gR G (I id).1 .mM) w:=λq b' n hb' =>⟨by grind [J1],rfl⟩
       have hob:∀id',id' ≠id->∀b',G b' = .obj id' ->(gR G (I id).1 .mM) b' = .obj id' /\w.heap[b']? =w.heap[b']? :=λid' hid b' hb' =>⟨by grind [J1],rfl⟩
       have vr:∀{pl:Place} {v:c7} {u:Value},VR G I N w pl v u->VR (gR G (I id).1 .mM) I (λi=>N i/\i≠id) w pl (v.kill id) u :=
        λhv=>VR.mono hx (λ_ _=>rfl) (λ_ h=>h) _ _ _ (Or.inr (hkp _)) (VR.kill id _ _ _ hv)
       have sX:∀(id' :Nat) (o' :B4),(((st.H.take E.lim.base++(st.H.drop E.lim.base).map (B4.kill id)).set id .dead).set b (.cells ((K1 id cs).set i (.d (.slice len xs)))))[id']? =J o' ->
         (id' =b/\o' = .cells ((K1 id cs).set i (.d (.slice len xs))))\/(id' ≠b/\id' =id/\o' = .dead)\/(id' ≠b/\id' ≠id/\id' <E.lim.base/\st.H[id']? =J o')\/(id' ≠b/\id' ≠id/\E.lim.base<=id' /\∃o1,st.H[id']? =J o1/\o' =o1.kill id):=by
        intro id' o' ho'
        by_cases e1:id' =b
        .grind
        .rw [q8 (λe=>e1 e.symm)] at ho'
         grind
       have xE:C0 ((K1 id cs).set i (.d (.slice len xs)))<=C0 cs:=A3 (oq _ _ _) (fu id cs);refine ⟨gR G (I id).1 .mM,λi=>N i/\i≠id,⟨?_,?_,?_,?_,?_,?_,?_,h.size,h.idle⟩,⟨hx,?_,λ_ _ _=>rfl,?_,λ_ _ hn=>hn.1,?_⟩⟩
       .intro s' t ht
        simp only [xB];exact vr (h.T s' t ht)
       .intro id' o' ho'
        rcases sX id' o' ho' with ⟨rfl,rfl⟩|⟨_,rfl,rfl⟩|⟨e1,e2,e3,e4⟩|⟨e1,e2,e3,o1,e4,rfl⟩
        .have hk:=OR.kill id (λe=>hne e.symm) _ (h.H id' _ hb)
         have hk:=OR.mono hx (λ_ _=>rfl) (λ_ h=>h) id' _ (λhb' =>hob id' (λe=>hne e.symm) _ hb') (λ_=>hkp _) hk;simp only [B4.kill,OR] at hk ⊢;obtain ⟨k0,c2,e2,f2,k1,k2,k3,k4,k5⟩:=hk;refine ⟨k0,c2,e2,f2,k1,k2,k3,by grind,λi' x' hx' =>?_⟩
         by_cases ei:i' =i
         .subst ei
          have EZ:i' <O (K1 id cs):=by grind
          rw [C7 EZ] at hx';cases hx';have hOb:=h.H id' _ hb;simp only [OR] at hOb;obtain ⟨_,c3,e3,f3,m1,_,_,_,m5⟩:=hOb;rw [k1] at m1;cases m1;obtain ⟨u,u1,u2⟩:=m5 i' _ hcj;refine ⟨u,u1,?_⟩;simp only [VR] at u2 ⊢;obtain ⟨_,cap,rfl,u3,_⟩:=u2;simp only [DR];refine Or.inr ⟨(I id).1,(I id).2+lo,cap,rfl,u3,Xe _ (λo=>by grind [jS,rG]) vs xs _ hxs λj v hj=>?_⟩;subst bJ0;have hj2:j<len * sz/\old[lo+j]? =J v:=by
           grind
          obtain ⟨y,y1,y2⟩:=g5 _ _ hj2.2;refine ⟨y,?_,λd hd=>DR.mono hx.mM _ _ (OU hd y2)⟩
          grind [World.cell?,M9]
         grind
        .simp [OR]
        .have XN:=OR.low (n:=E.lim.base) e3 o' ((h.W9 id' o' e4).2 e3) (h.H id' o' e4)
         exact OR.mono hx (λ_ _=>rfl) (λi hi=>⟨hi.1,V⟩) id' o' (λhb' =>hob id' e2 _ hb') (λ_=>hkp _) XN
        .exact OR.mono hx (λ_ _=>rfl) (λ_ h=>h) id' _ (λhb' =>hob id' e2 _ hb') (λ_=>hkp _) (OR.kill id e2 o1 (h.H id' o1 e4))
       .intro b' hb'
        rw [J1 V];exact h.wf b' hb'
       .intro id' o' ho'
        rcases sX id' o' ho' with ⟨rfl,rfl⟩|⟨_,rfl,rfl⟩|⟨e1,e2,e3,e4⟩|⟨e1,e2,e3,o1,e4,rfl⟩
        .obtain ⟨d1,d2⟩:=h.W9 id' _ hb
         grind [B4.K9,A3]
        .simp_all [B4.K9]
        .exact h.W9 id' o' e4
        .obtain ⟨d1,d2⟩:=h.W9 id' o1 e4
         grind [Gf,A3]
       .rw [S9];exact h.Y0
       .intro id' hn
        have:=h.bY id' hn.1
        grind
       .grind
       .intro id' hm
        grind
       all_goals grind
      .cases hr
     .cases hr
    .cases hr
   .cases hr
  .cases hr
 .cases hr
def EF (E:Env)(H:n9)(w:World)(G:Gh)(I:T0)(N:Nat->Prop)(H' :n9)(w' :World)(G' :Gh)(I' :T0)(N' :Nat->Prop):Prop :=
 ∀H0 w0 G0 I0 N0,(E.entry=0->∀b n pl,G0 b≠ .grow n pl)->bw E H0 w0 G0 I0 N0 H w G I N->bw E H0 w0 G0 I0 N0 H' w' G' I' N'
def bw.trn {E H H' w w' G G' I I' N N'}(h:bw E H w G I N H' w' G' I' N'):EF E H w G I N H' w' G' I' N' :=
 λ_ _ _ _ _ _ h0=>h0.trans h
theorem EF.refl E H w G I N:EF E H w G I N H w G I N:=λ_ _ _ _ _ _ h=>h
theorem EF.trans {E H0 H1 H2 w0 w1 w2 G0 G1 G2 I0 I1 I2 N0 N1 N2}
  (h:EF E H0 w0 G0 I0 N0 H1 w1 G1 I1 N1) (k:EF E H1 w1 G1 I1 N1 H2 w2 G2 I2 N2):EF E H0 w0 G0 I0 N0 H2 w2 G2 I2 N2 :=
 λH w G I N hg hs=>k H w G I N hg (h H w G I N hg hs)
theorem fG:∀l,O (V6 l)=O l
 |[]=>rfl
 |_::l=>by simp [V6,fG l]
theorem qE:∀ l (i:Nat),(V6 l)[i]? =(l[i]?).map c7.forget
 |[],_=>by rfl
 |_::_,0=>by rfl
 |_::l,i+1=>by simpa [V6] using qE l i
def yQ l s:(V6 l).getD s .any=(l.getD s .any).forget:=by
 grind [qE,c7.forget]
section
variable {G' :Gh} {I' :T0} {N' :Nat->Prop}
mutual
theorem VR.forget (hI:∀id,N id->I' id=I id)(hN:∀id,N id->N' id):∀(pl:Place) (v:c7) (u:Value),VR G I N w pl v u->VR G' I' N' w pl v.forget u
 |_,.any,_,_=>by simp [c7.forget,VR]
 |_,.d x,_,h=>by
  cases x
  case slice n cells =>
   cases cells with
   |nil =>
    simp_all [c7.forget,VR,DR,gl]
   |cons c cs=>simp [c7.forget,VR]
  all_goals simp_all [c7.forget,VR,DR]
 |_,.ptr id off,_,h=>by
  simp_all [c7.forget,VR]
 |_,.U2 _,_,_=>by simp [c7.forget,VR]
 |_,.s5 id sz lo len,_,h=>by
  simp_all [c7.forget,VR]
 |_,.own _ _ _,_,_=>by simp [c7.forget,VR]
 |_,.H7,_,h=>by simp_all [c7.forget,VR]
 |_,.agg l,_,h=>by
  obtain ⟨cs,h1,h2⟩:=h;exact ⟨cs,h1,J5.forget hI hN l _ h2⟩
 |_,.tuple l,_,h=>by
  obtain ⟨cs,h1,h2⟩:=h;exact ⟨cs,h1,J5.forget hI hN l _ h2⟩
 |_,.func f a b,_,h=>by
  obtain ⟨x,y,h1,h2,h3⟩:=h;exact ⟨x,y,h1,J5.forget hI hN a _ h2,J5.forget hI hN b _ h3⟩
 |_,.map id,_,h=>by
  simp_all [c7.forget,VR]
theorem J5.forget (hI:∀id,N id->I' id=I id)(hN:∀id,N id->N' id):∀(l:List c7) (vs:List Value),J5 G I N w l vs->J5 G' I' N' w (V6 l) vs
 |[],_,h=>by grind [V6,J5]
 |a::as,vs,h=>by
  obtain ⟨x,xs,h1,h2,h3⟩:=h;exact ⟨x,xs,h1,VR.forget hI hN .none a x h2,J5.forget hI hN as xs h3⟩
end
theorem ER.forget (hI:∀id,N id->I' id=I id)(hN:∀id,N id->N' id):∀ l es,ER G I N w l es->ER G' I' N' w (l.map λp=>(p.1,p.2.forget)) es
 |[],_,h=>by grind [ER]
 |(k,v)::r,es,h=>by
  obtain ⟨e,es',h1,h2,h3,h4⟩:=h;exact ⟨e,es',h1,h2,VR.forget hI hN _ _ _ h3,ER.forget hI hN r es' h4⟩
theorem OR.forget (hI:∀id,N id->I' id=I id)(hN:∀id,N id->N' id)(hG:∀b id,G b= .obj id->G' b= .obj id) id o(h:OR G I N w id o):OR G' I' N' w id o.forget:=by
 cases o with
 |dead=>simp [B4.forget,OR]
 |cells l =>
  simp [B4.forget,OR] at h ⊢
  grind [fG,qE,VR.forget]
 |map es =>
  grind [B4.forget,OR,ER.forget]
end
theorem zf:∀ cs k i sz len xs,Gi cs k=J (i,sz,len,xs)->∃j,i=k+j/\cs[j]? =J (.own sz len xs)
 |[],_,_,_,_,_,h=>by simp [Gi] at h
 |c::cs,k,i,sz,len,xs,h=>by
  cases c
  case own sz' len' xs' =>
   simp_all [Gi,Option.some.injEq,Prod.mk.injEq]
  all_goals
   obtain ⟨j,h1,h2⟩:=zf cs (k+1) i sz len xs (by simp_all [Gi]);simp_all<;>grind
theorem IC {b}:∀ xs o i d,gl G w b o xs->xs[i]? =J d->∃x,w.cell? (ad b (o+i))=J x/\DR G w d x
 |[],_,_,_,_,h=>by simp at h
 |c::cs,o,0,d,hd,h=>by
  simp_all [gl]
 |c::cs,o,i+1,d,hd,h=>by
  obtain ⟨x,h1,h2⟩:=IC cs (o+1) i d hd.2.2 (by simpa using h)
  grind
def QT {G' d x}(hf:d.flat=W)(h:DR G w d x):DR G' w d x:=by
 cases d
 case slice n cs=>simp [Data.flat] at hf
 all_goals simp_all [DR]
def aa3 (_h:Cd P names E nt st a w G I N){b2 n2 m pl2}(cf0:b2<w.heap.size)(k6:G b2= .grow n2 pl2)(hG:∀b' id,G b' = .obj id->gR G b2 (.obj m) b' = .obj id)(Pd:E.entry=0)(hbase:E.lim.base=0){H' I' N'} :
  EF E st.H w G I N H' w (gR G b2 (.obj m)) I' N' :=by
 intro H0 w0 G0 I0 N0 hg hs;have hne:∀b',(jS G0 b' =jS G0 b')/\((G0 b' = .mM\/∃n,G0 b' = .held n)->b' ≠b2):=λb' =>⟨rfl,λhi e=>by
  subst e;have:=(hs.ext.still b' hi).1;simp_all⟩
 have aJ1:∀b' o',jS G0 b' o' ->G0 b' = .mM\/∃n,G0 b' = .held n:=λb' o' hi=>by
  grind [jS,absurd]
 refine ⟨⟨hs.ext.os,hs.ext.tape,hs.ext.output,hs.ext.drawn,hs.ext.size,λb' o' hi=>?_,λb' hi=>?_,hs.ext.shape⟩,?_,?_,?_,?_,?_⟩
 .obtain ⟨q1,q2⟩:=hs.ext.mM b' o' hi
  grind [jS,J1]
 .obtain ⟨q1,q2⟩:=hs.ext.still b' hi
  simp_all [J1]
 .intro id hm
  obtain ⟨p1,p2⟩:=hs.ew id hm;refine ⟨λb' hb' =>?_,λoff b' n hb' =>absurd hb' (hg Pd _ _ _)⟩;simp_all
 all_goals omega
def aH5 (hbase:E.lim.base=0){H'}:EF E st.H w G I N H' w G I N:=λ_ _ _ _ _ _ hs=>⟨hs.ext,hs.ew,hs.inj,hs.mono,hs.old,λid o' hlt=>V⟩
def aa2 (h:Cd P names E nt st a w G I N){s}(hr:Wf E.lim E.entry s st=J st'):∃G' I' N',Cd P names E nt st' a w G' I' N' /\EF E st.H w G I N st'.H w G' I' N' :=by
 unfold Wf at hr;split at hr
 next b hT=>
  split at hr
  next cs hb=>
   split at hr
   next i sz len xs how=>
    split at hr
    .cases hr
     exact ⟨G,I,N,h,EF.refl _ _ _ _ _ _⟩
    split at hr
    next hl0 aU=>
     cases hr;obtain ⟨Pd,hbase,XV,Rj⟩:=aU;obtain ⟨j,hj,hcj⟩:=zf cs 0 i sz len xs how;obtain rfl:i=j:=V
     have hO:=h.H b _ hb;simp only [OR] at hO;obtain ⟨hN,c,e,f,g1,g2,g3,g4,g5⟩:=hO;obtain ⟨v,v1,v2⟩:=g5 i _ hcj;simp only [VR] at v2;obtain ⟨hlen,v2⟩:=v2
     rcases v2 with ⟨_,v2⟩|⟨_,b2,o,cap,c2,e2,f2,rfl,k2,k3,k4,k5,k6,k7⟩
     .exact absurd v2 hl0
     have hb2:b2<w.heap.size:=by
      rcases x9 b2 w.heap.size with h|h
      .exact h
      .rw [Array.getElem?_eq_none h] at k3;cases k3
     have hbl:=y9 hb;have hI:∀id,N id->(λk=>if k=O st.H then (b2,o) else I k) id=I id:=λid hid=>by
      have:=h.bY id hid;simp only;rw [if_neg V]
     have hN' :∀id,N id->(λk=>N k\/k=O st.H) id:=λid hid=> .inl hid
     have hG:∀b' id,G b' = .obj id->gR G b2 (.obj (O st.H)) b' = .obj id:=λb' id hb' =>by
      rw [J1 (by rintro rfl;rw [k6] at hb';cases hb')];exact hb'
     have sX:∀(id' :Nat) (o' :B4),((st.H.map B4.forget).set b (.cells ((V6 cs).set i (.s5 (O st.H) sz 0 len)))++[.cells (xs.map .d)])[id']? =J o' ->
       (id' =b/\o' = .cells ((V6 cs).set i (.s5 (O st.H) sz 0 len)))\/(id' ≠b/\∃o1,st.H[id']? =J o1/\o' =o1.forget)\/(id' =O st.H/\o' = .cells (xs.map .d)):=by
      intro id' o' ho'
      rcases x9 id' (O st.H) with hlt|hge
      .rw [s8 (by simpa using hlt)] at ho'
       by_cases e1:id' =b
       .subst e1
        rw [C7 (by simpa using hlt)] at ho';cases ho';exact .inl ⟨rfl,rfl⟩
       .rw [q8 (λe=>e1 e.symm),List.getElem?_map] at ho'
        cases h1:st.H[id']? with
        |none=>rw [h1] at ho';cases ho'
        |some o1 =>
         rw [h1] at ho';cases ho';exact .inr (.inl ⟨e1,o1,rfl,rfl⟩)
      .rw [q9 (by simpa using hge)] at ho'
       have h0:id' - O ((st.H.map B4.forget).set b (.cells ((V6 cs).set i (.s5 (O st.H) sz 0 len))))=0:=by
        have:=y9 ho';simp only [List.length_singleton] at this;omega
       rw [h0] at ho';simp only [List.length_set,C5] at h0;simp only [List.getElem?_cons_zero,Option.some.injEq] at ho';exact .inr (.inr ⟨V,ho'.symm⟩)
     have bb1:VR (gR G b2 (.obj (O st.H))) (λk=>if k=O st.H then (b2,o) else I k) (λk=>N k\/k=O st.H) w (.cell b i) (.s5 (O st.H) sz 0 len) (.slice (J (ad b2 o)) len cap):=by
      simp only [VR,if_true,Nat.add_zero];exact ⟨.inr trivial,cap,rfl,k2,c2,e2,f2,k3,k4⟩
     refine ⟨gR G b2 (.obj (O st.H)),λk=>if k=O st.H then (b2,o) else I k,λk=>N k\/k=O st.H,⟨?_,?_,?_,?_,?_,?_,?_,h.size,h.idle⟩,?_⟩
     .intro s' t ht
      simp only [yQ];exact VR.forget hI hN' _ _ _ (h.T s' t ht)
     .intro id' o' ho'
      rcases sX id' o' ho' with ⟨rfl,rfl⟩|⟨_,o1,h1,rfl⟩|⟨rfl,rfl⟩
      .have hk:=OR.forget hI hN' hG id' _ (h.H id' _ hb)
       simp only [B4.forget,OR] at hk ⊢;obtain ⟨q0,c3,e3,f3,q1,q2,q3,q4,q5⟩:=hk;refine ⟨q0,c3,e3,f3,q1,q2,q3,by simpa using q4,λi' x' hx' =>?_⟩
       by_cases ei:i' =i
       .subst ei
        rw [C7 (by rw [fG];exact y9 hcj)] at hx';cases hx';rw [if_neg V,g1] at q1;cases q1;refine ⟨_,?_,bb1⟩;rw [if_neg V];exact v1
       .rw [q8 (λe=>ei e.symm)] at hx'
        exact q5 i' x' hx'
      .exact OR.forget hI hN' hG id' _ (h.H id' o1 h1)
      .simp only [OR,if_true]
       refine ⟨.inr trivial,c2,e2,f2,k3,rG _ _ _,k5,?_,λi' x' hx' =>?_⟩
       .have:=K4 sz k2
        rw [C5,hlen];omega
       .rw [List.getElem?_map] at hx'
        cases hd:xs[i']? with
        |none=>rw [hd] at hx';cases hx'
        |some d =>
         rw [hd] at hx';cases hx';obtain ⟨x,x1,x2⟩:=IC xs o i' d k7 hd;refine ⟨x,?_,?_⟩
         .simp only [World.cell?,k3] at x1
          simpa using x1
         .simp only [VR]
          exact QT (L4.1 Rj d (List.mem_of_getElem? hd)) x2
     .intro b' hb'
      rw [J1 V];exact h.wf b' hb'
     .intro id' o' ho'
      exact ⟨λhh=>V,λhh=>V⟩
     .rw [fG];exact h.Y0
     .intro id' hn
      rcases hn with hn|rfl
      .have:=h.bY id' hn
       simp;omega
      .simp
     .have:=h.IE
      simp;omega
     .exact aa3 h hb2 k6 hG Pd hbase
    .cases hr
   .cases hr
  .cases hr
 next sz len xs hT=>
  split at hr
  .cases hr
   exact ⟨G,I,N,h,EF.refl _ _ _ _ _ _⟩
  split at hr
  next hl0 aU=>
   cases hr;obtain ⟨Pd,hbase,XV,Rj⟩:=aU;have ED:=y9 hT;have hlt:=h.Y0;obtain ⟨t,ht⟩:∃t,names[s]? =J t:=⟨_,n5 V⟩;have v2:=h.T s t ht;rw [List.getD_eq_getElem?_getD,hT,Option.getD_some] at v2;simp only [VR] at v2;obtain ⟨hlen,v2⟩:=v2
   rcases v2 with ⟨_,v2⟩|⟨_,b2,o,cap,c2,e2,f2,hv,k2,k3,k4,k5,k6,k7⟩
   .exact absurd v2 hl0
   have hb2:b2<w.heap.size:=by
    rcases x9 b2 w.heap.size with h|h
    .exact h
    .rw [Array.getElem?_eq_none h] at k3;cases k3
   have hI:∀id,N id->(λk=>if k=O st.H then (b2,o) else I k) id=I id:=λid hid=>by
    have:=h.bY id hid;simp only;rw [if_neg V]
   have hN' :∀id,N id->(λk=>N k\/k=O st.H) id:=λid hid=> .inl hid
   have hG:∀b' id,G b' = .obj id->gR G b2 (.obj (O st.H)) b' = .obj id:=λb' id hb' =>by
    rw [J1 (by rintro rfl;rw [k6] at hb';cases hb')];exact hb'
   refine ⟨gR G b2 (.obj (O st.H)),λk=>if k=O st.H then (b2,o) else I k,λk=>N k\/k=O st.H,⟨?_,?_,?_,?_,?_,?_,?_,h.size,h.idle⟩,aa3 h hb2 k6 hG Pd hbase⟩
   .intro s' t' ht'
    by_cases e:s' =s
    .subst e
     rw [ht] at ht';cases ht';rw [List.getD_eq_getElem?_getD,C7 (by rw [fG];exact ED),Option.getD_some,hv];simp only [VR,if_true,Nat.add_zero];exact ⟨.inr trivial,cap,rfl,k2,c2,e2,f2,k3,k4⟩
    .rw [List.getD_eq_getElem?_getD,q8 (λh=>e h.symm),<- List.getD_eq_getElem?_getD,yQ]
     exact VR.forget hI hN' _ _ _ (h.T s' t' ht')
   .intro id' o' ho'
    rcases x9 id' (O st.H) with hlt' |hge
    .rw [s8 (by simpa using hlt'),List.getElem?_map] at ho'
     cases h1:st.H[id']? with
     |none=>rw [h1] at ho';cases ho'
     |some o1 =>
      rw [h1] at ho';cases ho';exact OR.forget hI hN' hG id' _ (h.H id' o1 h1)
    .rw [q9 (by simpa using hge)] at ho'
     have h0:id' - O (st.H.map B4.forget)=0:=by
      have:=y9 ho';simp only [List.length_singleton] at this;omega
     rw [h0] at ho';simp only [C5] at h0;simp only [List.getElem?_cons_zero,Option.some.injEq] at ho';obtain rfl:id' =O st.H:=V
     subst ho';simp only [OR,if_true];refine ⟨.inr trivial,c2,e2,f2,k3,rG _ _ _,k5,?_,λi' x' hx' =>?_⟩
     .have:=K4 sz k2
      rw [C5,hlen];omega
     .rw [List.getElem?_map] at hx'
      cases hd:xs[i']? with
      |none=>rw [hd] at hx';cases hx'
      |some d =>
       rw [hd] at hx';cases hx';obtain ⟨x,x1,x2⟩:=IC xs o i' d k7 hd;refine ⟨x,?_,?_⟩
       .simp only [World.cell?,k3] at x1
        simpa using x1
       .simp only [VR]
        exact QT (L4.1 Rj d (List.mem_of_getElem? hd)) x2
   .intro b' hb'
    rw [J1 V];exact h.wf b' hb'
   .intro id' o' ho'
    exact ⟨λhh=>V,λhh=>V⟩
   .rw [List.length_set,fG];exact h.Y0
   .intro id' hn
    rcases hn with hn|rfl
    .have:=h.bY id' hn
     simp;omega
    .simp
   .have:=h.IE
    simp;omega
  .cases hr
 .split at hr
  next hc=>
   cases hr;obtain ⟨_,hb,hst⟩:=hc;refine ⟨G,I,N,⟨h.T,λid' o' ho' =>?_,h.wf,λid' o' ho' =>⟨λhh=>V,λhh=>V⟩,h.Y0,λid' hn=>?_,?_,h.size,h.idle⟩,aH5 hb⟩
   .rcases x9 id' (O st.H) with hlt|hge
    .rw [s8 hlt] at ho'
     exact h.H id' o' ho'
    .rw [q9 hge] at ho'
     have:=List.mem_of_getElem? ho';rw [y3] at this;subst this;simp only [OR]
   .have:=h.bY id' hn
    simp;omega
   .have:=h.IE
    simp;omega
  .cases hr
 .cases hr
def aI1 (h:Cd P names E nt st a w G I N){s}(hr:uv E.lim E.entry s st=J st'):∃G' I' N',Cd P names E nt st' a w G' I' N' /\EF E st.H w G I N st'.H w G' I' N' :=by
 unfold uv at hr;split at hr
 next r h1=>
  cases hr;obtain ⟨G',N',h2,h3⟩:=XF h h1;exact ⟨G',I,N',h2,h3.trn⟩
 .exact aa2 h hr
end
end Go.B3


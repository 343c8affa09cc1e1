import Derived.Test.YtibjocmpkoepoaaGreatB0
import Derived.Orders
set_option linter.all false
open Bool renaming and_eq_true→c9,eq_false_or_eq_true→C4,false_eq_true→j5,not_eq_true'→o5,or_eq_false_iff→D5,true→W,false→F
open List renaming append_assoc→K2,getElem?_append_left→y8,getElem?_append_right→x7,getElem?_eq_getElem→n9,getElem?_set_ne→x3,getElem?_set_self→E9,getElem_of_mem→L5,length_append→l5,length_cons→o8,length_map→A9,length_nil→B1,length_singleton→E4,map_cons→G4,pairwise_cons→O5,replicate→c8,replicate_succ→O8,set_cons_succ→o6,length→O
open Nat renaming le_refl→k9,le_trans→s5,lt_or_ge→A7,mul_le_mul_right→I8,zero_le→s9
open Option renaming map_some→C6,some→J,none→K
namespace Go.A5
variable [E3]
mutual
theorem VR.kill {G:Gh}{I:S8}{N:Nat->Prop}{w:World}(id:Nat):∀(pl:Place) (a:c7) (x:Value),VR G I N w pl a x->VR G I (λi=>N i/\i≠id) w pl (a.kill id) x
 |_,.any,_,_=>by simp [c7.kill,VR]
 |_,.d _,_,h=>by grind [c7.kill,VR]
 |_,.ptr i o,x,h=>by
  grind [c7.kill,VR]
 |_,.bP _,_,h=>by grind [c7.kill,VR]
 |_,.s6 i z lo n,x,h=>by
  grind [c7.kill,VR]
 |_,.own _ _ _,_,h=>by simp_all [c7.kill,VR]
 |_,.N7,_,h=>by simp_all [c7.kill,VR]
 |_,.agg l,x,h=>by
  obtain ⟨cs,h1,h2⟩:=h;exact ⟨cs,h1,K1.kill id l _ h2⟩
 |_,.tuple l,x,h=>by
  obtain ⟨cs,h1,h2⟩:=h;exact ⟨cs,h1,K1.kill id l _ h2⟩
 |_,.func f a b,x,h=>by
  obtain ⟨u,v,h1,h2,h3⟩:=h;exact ⟨u,v,h1,K1.kill id a _ h2,K1.kill id b _ h3⟩
 |_,.map i,x,h=>by
  grind [c7.kill,VR]
theorem K1.kill {G:Gh}{I:S8}{N:Nat->Prop}{w:World}(id:Nat):∀(l:List c7) (xs:List Value),K1 G I N w l xs->K1 G I (λi=>N i/\i≠id) w (O6 id l) xs
 |[],_,h=>by grind [O6,K1]
 |a::as,xs,h=>by
  obtain ⟨x,xs',h1,h2,h3⟩:=h;exact ⟨x,xs',h1,VR.kill id _ a x h2,K1.kill id as xs' h3⟩
end
mutual
theorem VR.low {G:Gh}{I:S8}{N:Nat->Prop}{w:World}(n:Nat):∀(pl:Place) (a:c7) (x:Value),a.J4<=n->VR G I N w pl a x->VR G I (λi=>N i/\i<n) w pl a x
 |_,.any,_,_,_=>by simp [VR]
 |_,.d _,_,_,h=>by grind [VR]
 |_,.ptr i o,x,hb,h=>by grind [c7.J4,VR]
 |_,.bP _,_,_,h=>by grind [VR]
 |_,.s6 i z lo n',x,hb,h=>by grind [c7.J4,VR]
 |_,.own _ _ _,_,_,h=>by simp_all [VR]
 |_,.N7,_,_,h=>by simp_all [VR]
 |_,.agg l,x,hb,h=>by
  obtain ⟨cs,h1,h2⟩:=h;exact ⟨cs,h1,K1.low n l _ hb h2⟩
 |_,.tuple l,x,hb,h=>by
  obtain ⟨cs,h1,h2⟩:=h;exact ⟨cs,h1,K1.low n l _ hb h2⟩
 |_,.func f a b,x,hb,h=>by
  simp [c7.J4] at hb;obtain ⟨u,v,h1,h2,h3⟩:=h;exact ⟨u,v,h1,K1.low n a _ V h2,K1.low n b _ V h3⟩
 |_,.map i,x,hb,h=>by grind [c7.J4,VR]
theorem K1.low {G:Gh}{I:S8}{N:Nat->Prop}{w:World}(n:Nat):∀(l:List c7) (xs:List Value),A8 l<=n->K1 G I N w l xs->K1 G I (λi=>N i/\i<n) w l xs
 |[],_,_,h=>by grind [K1]
 |a::as,xs,hb,h=>by
  simp [A8] at hb;obtain ⟨x,xs',h1,h2,h3⟩:=h;exact ⟨x,xs',h1,VR.low n _ a x V h2,K1.low n as xs' V h3⟩
end
section
variable {P:Program} {X:Cx} {l:J2} {S:Nat->Prop} {st:I5} {a:Act} {w w' :World} {G:Gh} {I:S8} {N:Nat->Prop} {d8:Nat->Bool} {j8:List o3}
theorem ER.kill (id:Nat):∀(es:List (Key×c7)) (xs:List MapEntry),ER G I N w es xs->ER G I (λi=>N i/\i≠id) w (es.map λp=>(p.1,p.2.kill id)) xs
 |[],_,h=>by grind [ER]
 |(k,v)::r,xs,h=>by
  obtain ⟨e,es',h1,h2,h3,h4⟩:=h;exact ⟨e,es',h1,h2,VR.kill id _ v _ h3,ER.kill id r es' h4⟩
theorem ER.low (n:Nat):∀(es:List (Key×c7)) (xs:List MapEntry),A8 (es.map (·.2))<=n->ER G I N w es xs->ER G I (λi=>N i/\i<n) w es xs
 |[],_,_,h=>by grind [ER]
 |(k,v)::r,xs,hb,h=>by
  simp [G4,A8] at hb;obtain ⟨e,es',h1,h2,h3,h4⟩:=h;exact ⟨e,es',h1,h2,VR.low n _ v _ V h3,ER.low n r es' V h4⟩
theorem gR (id:Nat):∀(l:List c7) (i:Nat),(O6 id l)[i]? =(l[i]?).map (c7.kill id)
 |[],i=>by simp [O6]
 |v::vs,0=>by simp [O6]
 |v::vs,i+1=>by simp [O6,gR id vs i]
theorem S2 (id:Nat)(l:List c7):O (O6 id l)=O l:=by
 induction l with
 |nil=>rfl
 |cons v vs ih=>simp [O6,ih]
def wC (id:Nat)(l:List c7)(i:Nat):(O6 id l).getD i .any=(l.getD i .any).kill id:=by
 grind [List.getD,gR,c7.kill]
mutual
theorem IA (id:Nat):∀(a:c7),(a.kill id).J4<=a.J4
 | .any=>by simp [c7.kill]
 | .d _=>by simp [c7.kill]
 | .ptr i o=>by grind [c7.kill,c7.J4]
 | .bP _=>by simp [c7.kill]
 | .s6 i z lo n=>by grind [c7.kill,c7.J4]
 | .own _ _ _=>by simp [c7.kill]
 | .N7=>by simp [c7.kill]
 | .agg l=>by exact eP id l
 | .tuple l=>by exact eP id l
 | .func f a b=>by
  simp [c7.kill,c7.J4];have:=eP id a;have:=eP id b;omega
 | .map i=>by grind [c7.kill,c7.J4]
theorem eP (id:Nat):∀(l:List c7),A8 (O6 id l)<=A8 l
 |[]=>by simp [O6]
 |v::vs=>by
  simp [O6,A8];have:=IA id v;have:=eP id vs;omega
end
theorem Ec (id:Nat):∀(es:List (Key×c7)),A8 ((es.map λp=>(p.1,p.2.kill id)).map (·.2))<=A8 (es.map (·.2))
 |[]=>U
 |(k,v)::r=>by
  simp only [G4,A8];have:=IA id v;have:=Ec id r;omega
theorem ET (id:Nat)(o:x4):(o.kill id).J4<=o.J4:=by
 cases o with
 |dead=>simp [x4.kill]
 |cells l=>simp_all [x4.kill,x4.J4,eP]
 |map es=>simpa only [x4.kill,x4.J4] using Ec id es
theorem OR.kill (id:Nat){id' :Nat}(hne:id' ≠id)(o:x4)(h:OR G I N w id' o):OR G I (λi=>N i/\i≠id) w id' (o.kill id):=by
 cases o with
 |dead=>simp [x4.kill,OR]
 |cells l0 =>
  grind [x4.kill,OR,S2,gR,VR.kill]
 |map es =>
  obtain ⟨hN,arr,gE,h1,h2,h3,h4⟩:=h;exact ⟨⟨hN,hne⟩,arr,gE,h1,h2,ER.kill id es _ h3,h4⟩
theorem oS:∀(l:List c7) (i:Nat) (x:c7),l[i]? =J x->x.J4<=A8 l
 |[],_,_,h=>by simp at h
 |v::vs,0,x,h=>by grind [A8]
 |v::vs,i+1,x,h=>by have:=oS vs i x (by simpa using h);grind [A8]
theorem OR.low {id n:Nat}(hn:id<n)(o:x4)(hb:o.J4<=n)(h:OR G I N w id o):OR G I (λi=>N i/\i<n) w id o:=by
 cases o with
 |dead=>simp [OR]
 |cells l0 =>
  obtain ⟨hN,c,e,f,h1,h2,h3,h4,h5⟩:=h
  .refine ⟨⟨hN,hn⟩,c,e,f,h1,h2,h3,h4,λi x hx=>?_⟩
   obtain ⟨v,g1,g2⟩:=h5 i x hx;exact ⟨v,g1,VR.low n _ x v (by exact s5 (oS _ _ _ hx) hb) g2⟩
 |map es =>
  grind [OR,ER.low,x4.J4]
end
end Go.A5
namespace Go.A5
variable [E3]
section
variable {P:Program} {X:Cx} {l:J2} {S:Nat->Prop} {st:I5} {a:Act} {w w' :World} {G G' :Gh} {I I' :S8} {N:Nat->Prop} {d8:Nat->Bool} {j8:List o3}
def qQ (H:j9)(base id:Nat)(o:x4):j9:=(H.take base++(H.drop base).map (x4.kill id)).set id o
def xX {H:j9}{base id:Nat}{o:x4}(hid:id<O H){id' :Nat}{o' :x4}(h:(qQ H base id o)[id']? =J o') :
  (id' =id/\o' =o)\/(id' ≠id/\id' <base/\H[id']? =J o')\/(id' ≠id/\base<=id' /\∃o0,H[id']? =J o0/\o' =o0.kill id):=by
 unfold qQ at h;have hlen:O (H.take base++(H.drop base).map (x4.kill id))=O H:=D
 by_cases he:id' =id
 .simp_all
 .by_cases hb:id' <base
  .grind
  .by_cases hl:base<=O H
   .grind
   grind
def cu.UW (h:RI X l S st a w G I N){k:Nat}(hk:¬ S k)(aX:k<O st.L){entry id:Nat}{o0:x4}(h0:st.H[id]? =J o0)(hbase:l.base<=id)(Nb:entry<=id)(hmay:l.may id=W)
  (hx:Ext G w G' w') (hkp:∀q,bE q G w G' w') (ho:∀id',id' ≠id->∀b,G b= .obj id' ->G' b= .obj id' /\w'.heap[b]? =w.heap[b]?) (hwf:WF G' w') (hI:∀i,i≠id->I' i=I i)
  {cs:List c7} (Sd:OR G' I' N w' id (.cells cs)) (wE:A8 cs<=max o0.J4 (id+1)) {v:c7} {x:Value} (hv:VR G' I' N w' (.loc k) v x) (l6:List Touch) (Ng:l6.any (Touch.F7 id)=W) :
  cu X l S entry st a w G I N (put { T:=O6 id st.T,H:=qQ st.H l.base id (.cells cs),L:=O6 id st.L,l6 } k v) k x w' G' I' N:=by
 have hid:=A3 h0;have hI' :∀i,(N i/\i≠id)->I' i=I i:=λi hi=>hI i hi.2
 have hNN:∀i,(N i/\i≠id)->N i:=λi hi=>hi.1
 have vr:∀{pl:Place} {b:c7} {u:Value},VR G I N w pl b u->VR G' I' N w' pl (b.kill id) u :=
  λhb=>VR.mono hx hI' hNN _ _ _ (Or.inr (hkp _)) (VR.kill id _ _ _ hb)
 refine ⟨⟨?_,?_,?_,hwf,?_⟩,?_,hx,?_,?_,?_,λ_ h=>h,?_,?_⟩
 .intro s t ht
  simp only [A5.put,wC];exact vr (h.T s t ht)
 .intro j hj d hd hn
  have:k≠j:=by grind
  simp only [A5.put];rw [P4 _ _ _ _ _ this,wC];exact vr (h.L j hj d hd hn)
 .intro id' o' ho'
  rcases xX hid ho' with ⟨rfl,rfl⟩|⟨hne,hb,hold⟩|⟨hne,hb,o1,hold,rfl⟩
  .exact Sd
  .have UD:=OR.low (n:=l.base) hb o' ((h.W1 id' o' hold).2 hb) (h.H id' o' hold)
   exact OR.mono hx (λi hi=>hI i V) (λi hi=>hi.1) id' o' (λhb' =>ho id' hne _ hb') (λ_=>hkp _) UD
  .exact OR.mono hx hI' hNN id' _ (λhb' =>ho id' hne _ hb') (λ_=>hkp _) (OR.kill id hne o1 (h.H id' o1 hold))
 .intro id' o' ho'
  rcases xX hid ho' with ⟨rfl,rfl⟩|⟨hne,hb,hold⟩|⟨hne,hb,o1,hold,rfl⟩
  .obtain ⟨d1,d2⟩:=h.W1 id' o0 h0
   grind [x4.J4]
  .exact h.W1 id' o' hold
  .obtain ⟨d1,d2⟩:=h.W1 id' o1 hold
   grind [ET]
 .simp_all [A5.put,O3,S2]
 .intro id' hm
  grind
 .grind [A5.put]
 all_goals grind [A5.put,qQ]
def yd {cs:List c7}{vs:List Value}(h:cs.all c7.one=W)(hv:K1 G I N w cs vs):JT vs:=nR _ _ h hv
def Dv (h:RI X l S st a w G I N)(hD:∀j,d8 j=W->S j){k:Nat}(hk:¬ S k)(aX:k<O st.L){o:Oper}{sz bytes:Nat}{ob:Bool}{x y:y4}
  (hc:eS P (X.ck d8) o (.append sz bytes ob x y)=W) {E:Env} (hE:E.lim=l) {id lo len:Nat} (hx:G7 st.T st.L x= .s6 id sz lo len) {st' :I5} (he:X8 E k sz bytes st id lo len (G7 st.T st.L y)=J st') :
  ∃v w' G' I',(execOp a.eval o).run P w= .ok (.value v) w' /\cu X l S E.entry st a w G I N st' k v w' G' I' N:=by
 obtain ⟨x0,y0,t,t2,e,i,z,hop,hcx,hcy,ht2,hsz,hu,hi,hsi,Uz,hz,hzs,hbp⟩:=ej hc;unfold X8 at he;rw [hE] at he;split at he
 next aQ=>
  split at he
  next l0 m cs hl0 hcs=>
   split at he
   next Jj=>
    obtain ⟨rfl,hlen,hroom,aC5,hone,_⟩:=Jj;cases he;obtain ⟨vn,hl,hf,Tt,hcl⟩:=qY (P:=P) h.H (h.R1 hD _ _ hcy) hsz hcs;have hval:=h.R1 hD _ _ hcx;rw [hx] at hval;simp only [VR] at hval;obtain ⟨Uy,cap,hx0,hcap,c,e',f,hb,hbs⟩:=hval;have uw:(execOp a.eval o).run P w=((Builtin.append_ #[t,t2] o.type #[a.eval x0,a.eval y0]).run P w).andThen λv w' => .ok (.value v) w' :=by
     obtain ⟨dst,dP,ty,pos,after,guard⟩:=o;simp only at hop;subst hop;simp [execOp,resolve,invoke,builtin]
    have xT:O vn=m * sz:=by rw [K1.length _ _ Tt,hcl]
    subst hsi Uz;have hO:=h.H id _ hl0;simp only [OR] at hO;obtain ⟨_,c0,e0,f0,h1,Jn,hnf,bl6,h5⟩:=hO;rw [hb] at h1;cases h1;have wE:A8 (O6 id l0++cs)<=max (x4.cells l0).J4 (id+1):=by
     rw [iw];have:=eP id l0;simp only [x4.J4];omega
    have Jq:=yd hone Tt;have vrk:∀{pl:Place} {b:c7} {u:Value},VR G I N w pl b u->VR G I N w pl (b.kill id) u :=
     λhb=>VR.mono (Ext.refl _ _).sub (λ_ _=>rfl) (λi hi=>hi.1) _ _ _ (Or.inr (λ_ _ h=>⟨h,rfl⟩)) (VR.kill id _ _ _ hb)
    by_cases hfit:len+m<=cap
    ·
     have hrun:=dU (P:=P) (w:=w) (ty:=o.type) hu hi ht2 (base:=J (ad (I id).1 ((I id).2+0))) (sLen:=len) (sCap:=cap) hl (hf w rfl) hfit;have hbig:(len+m) * i.size<=cap * i.size:=I8 _ hfit;rw [Nat.add_mul] at hbig;have an9:(I id).2+len * i.size+O vn<=c.size:=V
     have hst:=run_storeCells_at (P:=P) (I id).1 ((I id).2+0+len * i.size) e' f vn 0 c w hb hnf V Jq;have xO :(I id).2+0+len * i.size+O vn<=O c.toList:=D
     have oJ :(L6 c.toList ((I id).2+0+len * i.size) vn).toArray.size=c.size:=by rw [List.size_toArray,kT _ _ _ xO,Array.length_toList]
     have hw:=xe (G:=G) hb Jn oJ;refine ⟨.slice (J (ad (I id).1 ((I id).2+0))) (len+m) cap,w.setRow (I id).1 (L6 c.toList ((I id).2+0+len * i.size) vn).toArray,G,I,?_,
      cu.UW h hk aX hl0 aQ.1 aQ.2.1 aQ.2.2 hw.ext hw.keeps (λid' hne=>hw.zM hne) (λb' hb' =>h.wf b' (by rw [<- hw.size];exact hb')) (λ_ _=>rfl) ?_ wE ?_ (.obj id::st.l6) (by simp [Touch.F7])⟩
     .rw [uw,hx0,hrun]
      simp only [bp];simp only [Nat.add_zero] at hst ⊢;rw [hst];rfl
     .simp only [OR]
      have mono:∀{pl:Place} {b:c7} {u:Value},VR G I N w pl b u->VR G I N (w.setRow (I id).1 (L6 c.toList ((I id).2+0+len * i.size) vn).toArray) pl b u :=
       λhq=>VR.mono hw.ext (λ_ _=>rfl) (λ_ h=>h) _ _ _ (Or.inr (hw.keeps _)) hq
      refine ⟨Uy,_,e',f,setRow_heap w _ c _ e' f hb,Jn,by rw [oJ];exact hnf,?_,λj b hj=>?_⟩
      .rw [oJ,l5,S2,hcl];omega
      .rw [show (L6 c.toList ((I id).2+0+len * i.size) vn).toArray[(I id).2+j]? =(L6 c.toList ((I id).2+0+len * i.size) vn)[(I id).2+j]? from by simp,kR _ _ _ xO]
       have hjl:=A3 hj;rw [l5,S2,hcl] at hjl
       by_cases OM:j<O l0
       .rw [y8 (by rw [S2];exact OM),gR] at hj
        rw [if_pos V];rw [n9 OM] at hj;simp at hj;subst hj;obtain ⟨v,g1,g2⟩:=h5 j _ (n9 OM);exact ⟨v,by simpa using g1,mono (vrk g2)⟩
       .rw [x7 (by rw [S2];omega),S2] at hj
        rw [if_neg V,if_pos V];obtain ⟨u,r1,r2⟩:=K1.get _ _ Tt (j - O l0) b hj;exact ⟨u,by rw [show (I id).2+j - ((I id).2+0+len * i.size)=j - O l0 from by omega];exact r1,mono r2.place⟩
     .simp only [VR]
      exact ⟨Uy,cap,rfl,hfit,_,e',f,setRow_heap w _ c _ e' f hb,by rw [oJ];exact hbs⟩
    ·
     have hlt:cap<len+m:=V
     have UC:∃vo:List Value,O vo=len * i.size/\(∀w2:World,w2.heap=w.heap->(Builtin.firstCells i.size len (.slice (J (ad (I id).1 ((I id).2+0))) len cap)).run P w2= .ok vo.toArray w2) /\
       (∀(j:Nat) b,l0[j]? =J b->∃v,vo[j]? =J v/\VR G I N w (.cell id j) b v):=by
      refine ⟨(List.range (len * i.size)).map (λj=>(c[(I id).2+j]?).getD default),U,λw2 Sj=>?_,λj b hj=>?_⟩
      .have:=run_loadCells_list (P:=P) w2 (ad (I id).1 ((I id).2+0)) ((List.range (len * i.size)).map (λj=>(c[(I id).2+j]?).getD default)) (λj v hj=>by
        have hjn:j<len * i.size:=by
         rcases A7 j (len * i.size) with h|h
         .exact h
         .simp [h] at hj
        simp [hjn] at hj;rw [bp,jC Sj,U5 hb];have hlt:(I id).2+j<c.size:=V
        simp [hlt] at hj ⊢;exact hj)
       simpa [Builtin.firstCells] using this
      .have hjn:j<len * i.size:=by have:=A3 hj;omega
       obtain ⟨u,g1,g2⟩:=h5 j b hj;exact ⟨u,by simp [hjn,g1],g2⟩
     obtain ⟨vo,ao4,ao5,ao6⟩:=UC;obtain ⟨dM,Bk,hrun⟩:=gq (P:=P) (w:=w) (ty:=o.type) hu hi hz ht2 (base:=J (ad (I id).1 ((I id).2+0))) (sLen:=len) (sCap:=cap) hl (hf w.drew rfl) (ao5 w.drew rfl) hlt (Am hroom hbp) (qU hroom hlt);have hnb:jK w (w.drew.alloc (.cells (vo.toArray++vn.toArray++Builtin.zeroCells z.cells (dM - (len+m))) e)) (.cells (vo.toArray++vn.toArray++Builtin.zeroCells z.cells (dM - (len+m))) e):=by
      have:=jK.alloc w.drew (.cells (vo.toArray++vn.toArray++Builtin.zeroCells z.cells (dM - (len+m))) e);exact ⟨this.os,this.tape,this.output,s5 (Nat.le_succ _) this.drawn,this.size,this.old,this.new⟩
     have hsize:(vo.toArray++vn.toArray++Builtin.zeroCells z.cells (dM - (len+m))).size=dM * i.size:=by
      simp only [Array.size_append,List.size_toArray,vj,hzs,ao4,xT];have:dM * i.size=(len+m) * i.size+(dM - (len+m)) * i.size:=by rw [<- Nat.add_mul];congr 1;omega
      rw [this,Nat.add_mul]
     refine ⟨.slice (J (ad w.heap.size 0)) (len+m) dM,_,gF G w.heap.size (.obj id),qt I id (w.heap.size,0),?_,
      cu.UW h hk aX hl0 aQ.1 aQ.2.1 aQ.2.2 (hnb.ext h.wf _) (hnb.keeps h.wf _) (λid' _=>hnb.zM h.wf _ id') (hnb.wf h.wf _) (λi hi=>cS hi) ?_ wE ?_ (.obj id::st.l6) (by simp [Touch.F7])⟩
     .rw [uw,hx0,hrun];rfl
     .simp only [OR]
      have mono:∀{pl:Place} {b:c7} {u:Value},VR G I N w pl b u->VR (gF G w.heap.size (.obj id)) (qt I id (w.heap.size,0)) N _ pl (b.kill id) u :=
       λhq=>VR.mono (hnb.ext h.wf _).sub (λi hi=>cS hi.2) (λi hi=>hi.1) _ _ _ (Or.inr (hnb.keeps h.wf _ _)) (VR.kill id _ _ _ hq)
      refine ⟨Uy,_,e,(0,0),by rw [Y2];exact hnb.new,U,nr _,?_,λj b hj=>?_⟩
      .rw [hsize]
       simp only [Y2,l5,S2,hcl];have:(len+m) * i.size<=dM * i.size:=I8 _ Bk;rw [Nat.add_mul] at this;omega
      .have hjl:=A3 hj
       rw [l5,S2,hcl] at hjl;simp only [Y2,Nat.zero_add];rw [show (vo.toArray++vn.toArray++Builtin.zeroCells z.cells (dM - (len+m)))[j]? =(vo++vn++(Builtin.zeroCells z.cells (dM - (len+m))).toList)[j]? from by rw [<- Array.getElem?_toList];simp,
        y8 (by rw [l5];omega)]
       by_cases OM:j<O l0
       .rw [y8 (by rw [S2];exact OM),gR] at hj
        rw [y8 V];rw [n9 OM] at hj;simp at hj;subst hj;obtain ⟨v,g1,g2⟩:=ao6 j _ (n9 OM);exact ⟨v,g1,mono g2⟩
       .rw [x7 (by rw [S2];omega),S2] at hj
        rw [x7 V];obtain ⟨u,r1,r2⟩:=K1.get _ _ Tt (j - O l0) b hj;refine ⟨u,by rw [show j - O vo=j - O l0 from by omega];exact r1,?_⟩;have hb' :b.J4<=id:=s5 (oS _ _ _ hj) aC5;exact (VR.mono (hnb.ext h.wf _).sub (λi hi=>cS (by have:=hi.2;omega)) (λi hi=>hi.1) _ _ _ (Or.inl rfl) (VR.low id _ _ _ hb' r2)).place
     .simp only [VR]
      refine ⟨Uy,dM,U,Bk,_,e,(0,0),by rw [Y2];exact hnb.new,?_⟩;rw [hsize];simp
   .cases he
  .cases he
 .cases he
end
end Go.A5
namespace Go.A5
variable [E3]
section
variable {P:Program} {X:Cx} {l:J2} {S:Nat->Prop} {st:I5} {a:Act} {w w' :World} {G G' :Gh} {I I' :S8} {N:Nat->Prop} {d8:Nat->Bool} {j8:List o3}
def MK (P:Program)(ck:Operand->y4->Bool)(o:Oper)(op:s8):Bool :=
 match o.op,op with
 | .mapUpdate t m k v,.dF kk m' k' v' =>ck m m' &&ck k k' &&ck v v' &&(match P.underlying t with
  |some (.map kt _)=>wI P kt kk
  |_=>F)
 |_,_=>F
theorem AG:∀{ks:List CK} {l m:List KD},Q9 ks (l.map KD.av) (m.map KD.av)=J W->l=m
 |[],[],[],_=>rfl
 |[],_::_,_,h=>by simp [Q9] at h
 |[],[],_::_,h=>by simp [Q9] at h
 |k::ks,[],m,h=>by simp [Q9] at h
 |k::ks,x::l,[],h=>by simp_all [Q9,KD.av]
 |k::ks,x::l,y::m,h=>by
  have hd:∀(a b:Data),KD.av x= .d a->KD.av y= .d b->Q9 (k::ks) (.d a::l.map KD.av) (.d b::m.map KD.av)=J W->x=y/\l=m:=by
   intro a b ha hb h;simp [Q9] at h;split at h
   .split at h
    next u hu=>
     simp at h;obtain ⟨rfl,rfl⟩:=h;refine ⟨?_,AG hu⟩;simp_all [KD.av,Data.GP]<;>grind
    .cases h
   .cases h
  simp_all [KD.av]<;>grind
def Nn {kk:KK}{a b:Key}(h:Data.dK kk a b=J W):a=b:=by
 unfold Data.dK at h
 grind [AG]
def UT (k:Key):Instr.sameBits 10000 k.val k.val=W:=by
 have h:∀x:KD,Instr.sameBits 9999 x.val x.val=W:=by intro x;cases x<;>simp [KD.val,Instr.sameBits,beq_toListBytes]
 cases k<;>simp [Key.val,Instr.sameBits,beq_toListBytes]
 grind
theorem Pp {kk:KK}{t:TypeId}{d:TypeDesc}(ht:wI P t kk=W)(hd:P.underlying t=J d){key:Key}{nv:c7}{x:Value}(hx:VR G I N w .none nv x) :
  ∀(es:List (Key×c7)) (xs:List MapEntry) (i:Nat) (es' :List (Key×c7)),ER G I N w es xs->eE kk key nv es=J es' ->
   (rI (oq P w t d key.val kk) xs i K/\∀born,ER G I N w es' (xs++[{ key:=key.val,val:=x,born }])) \/
   (∃j v0,rI (oq P w t d key.val kk) xs i (J (i+j,v0))/\(∃e0,xs[j]? =J e0/\e0.key=key.val)/\ER G I N w es' (xs.modify j λe=>{ e with key:=key.val,val:=x }))
 |[],xs,i,es',hE,h=>by
  subst hE;simp [eE] at h;refine Or.inl ⟨rfl,λborn=>?_⟩
  grind [ER]
 |(k',v')::rest,xs,i,es',hE,h=>by
  obtain ⟨e,ys,rfl,h2,h3,h4⟩:=hE;unfold eE at h;split at h
  next hk=>
   have he:=Nn hk;subst he;refine Or.inr ⟨0,e.val,.inl ⟨by simp_all [uS],rfl⟩,⟨e,rfl,h2⟩,?_⟩
   grind [List.modify_zero_cons,ER]
  .split at h
   next r' hr=>
    have hne:oq P w t d key.val kk e.key F:=by simp_all [uS]
    rcases Pp ht hd hx rest ys (i+1) r' h4 hr with ⟨g1,g2⟩|⟨j,v0,g1,g2,g3⟩
    .refine Or.inl ⟨.inr ⟨hne,g1⟩,λborn=>?_⟩
     grind [ER]
    .refine Or.inr ⟨j+1,v0,.inr ⟨hne,?_⟩,M,?_⟩
     all_goals grind [List.modify_succ_cons,ER]
   .cases h
  .cases h
theorem AA {kk:KK}{key:Key}{nv:c7}:∀(es es' :List (Key×c7)),eE kk key nv es=J es' ->A8 (es'.map (·.2))<=max (A8 (es.map (·.2))) nv.J4
 |[],es',h=>by grind [eE,A8]
 |(k',v')::rest,es',h=>by
  unfold eE at h;split at h
  .grind [A8]
  .split at h
   next r' hr=>
    have:=AA rest r' hr
    grind [A8]
   .cases h
  .cases h
def MT (h:RI X l S st a w G I N)(hD:∀j,d8 j=W->S j){k:Nat}(hk:¬ S k)(aX:k<O st.L)(entry:Nat){o:Oper}{kk:KK}{m ky v:y4}(hc:MK P (X.ck d8) o (.dF kk m ky v)=W){E:Env}(hE:E.lim=l)
  {st' :I5} (he:V8 E k kk st (G7 st.T st.L m) (G7 st.T st.L ky) (G7 st.T st.L v)=J st'):∃w',(execOp a.eval o).run P w= .ok .skip w' /\cu X l S entry st a w G I N st' k undef w' G I N:=by
 obtain ⟨dst,dP,ty,pos,after,guard⟩:=o;cases dP<;>simp only [MK,c9] at hc<;>try (cases hc;done)
 rename_i t m' k' v';obtain ⟨⟨⟨hm,hky⟩,hv⟩,ht⟩:=hc;have h1:=h.R1 hD _ _ hm;have h2:=h.R1 hD _ _ hky;have h3:=h.R1 hD _ _ hv;split at ht
 next kt et hu=>
  obtain ⟨dk,hdk⟩:∃d,P.underlying kt=J d:=by
   cases hd:P.underlying kt with
   |none=>cases kk<;>simp [wI,gb,jP,hd] at ht
   |some d=>exact ⟨d,rfl⟩
  unfold V8 at he;split at he
  next id kd hp hq=>
   rw [hp] at h1;simp only [VR] at h1;have h2:=Hu hq h2;split at he
   next es XQ=>
    split at he
    next aQ=>
     split at he
     next hkk=>
      split at he
      next es' aD3=>
       cases he;have hO:=h.H id _ XQ;simp only [OR] at hO;obtain ⟨hN,arr,gE,g1,g2,g3,g4⟩:=hO;have hgo:(getObj (I id).1).run P w= .ok (.map arr gE) w:=by simp [getObj,Sem.run,g1]
       have hlt:(I id).1<w.heap.size:=by
        rcases A7 (I id).1 w.heap.size with h|h
        .exact h
        .rw [Array.getElem?_eq_none h] at g1;cases g1
       have rF:∀ob:Obj,(setObj (I id).1 ob).run P w= .ok () { w with heap:=w.heap.setIfInBounds (I id).1 ob }:=by
        intro ob;simp [setObj,Sem.run,g1]
       have wrote:∀ob:Obj,rJ id (I id).1 w { w with heap:=w.heap.setIfInBounds (I id).1 ob } G:=by
        intro ob;refine ⟨g2,rfl,rfl,rfl,k9 _,U,λb' hne=>?_,λc e f hc=>?_⟩
        .simp [Array.getElem?_setIfInBounds_ne (λe=>hne e.symm)]
        .rw [g1] at hc;cases hc
       have wE:(x4.map es').J4<=max (x4.map es).J4 (id+1)\/(l.base<=id/\l.strict<=id):=by
        left;have:=AA es es' aD3;simp only [x4.J4];have:=aQ.1;omega
       have fin:∀(RB :Array MapEntry) (TQ :Nat),ER G I N w es' RB.toList->Il RB TQ ->cu X l S entry st a w G I N (put { st with H:=st.H.set id (.map es'),l6:= .obj id::st.l6 } k .any) k undef { w with heap:=w.heap.setIfInBounds (I id).1 (.map RB TQ) } G I N:=by
        intro RB TQ hER hBn;have hw:=wrote (.map RB TQ);refine cu.write h hk aX entry hw XQ ?_ (by rw [<- hE];exact aQ.2) wE (λ_=>Iff.rfl) (by simp [VR]) (.obj id::st.l6) (by simp [Touch.F7]);simp only [OR];exact ⟨hN,RB,TQ,by simp [hlt],g2,ER.mono hw.ext (λ_ _=>rfl) (λ_ h=>h) _ _ hER,hBn⟩
       have hck:=jM (P:=P) (w:=w) ht (OH hkk) F 9998;rw [<- h2] at hck;have hp:=Pp (P:=P) (w:=w) (key:=kd) ht hdk h3 es arr.toList 0 es' g3 aD3;rw [<- h2] at hp
       rcases hp with ⟨f1,f2⟩|⟨j,v0,f1,⟨e0,f2,f2'⟩,f3⟩
       .have hfk:(Instr.findKey kt (a.eval k') arr.toList).run P w= .ok K w:=pI hdk f1
        refine ⟨_,?_,fin (arr.push { key:=a.eval k',val:=a.eval v',born:=gE }) (gE+1) (by simpa using f2 gE) (g4.push _ _)⟩;simp [execOp,h1.2,Instr.mapUpdate,run_underlying hu,hgo,hck,hfk,rF]
       .have hfk:(Instr.findKey kt (a.eval k') arr.toList).run P w= .ok (J (0+j,v0)) w:=pI hdk f1
        have hkeep:(Instr.keyThatStays (((arr[0+j]?).map (·.key)).getD (a.eval k')) (a.eval k')).run P w= .ok (a.eval k') w:=by
         have e1:arr[0+j]? =J e0:=by simpa using f2
         have Bm:=UT kd;rw [<- h2] at Bm;rw [e1];simp only [C6,Option.getD_some,f2',Instr.keyThatStays,Bm,if_true,Sem.run_pure]
        refine ⟨_,?_,fin (arr.modify (0+j) λe=>{ e with key:=a.eval k',val:=a.eval v' }) gE (by simpa using f3) (g4.modify _ _ λ_=>rfl)⟩;simp only [execOp,h1.2,Instr.mapUpdate,Sem.run_bind,run_underlying hu,Result.andThen_ok,hgo,hck,hfk,hkeep,rF,Sem.run_pure]
      .cases he
     .cases he
    .cases he
   .cases he
  .cases he
 .cases ht
end
end Go.A5
namespace Go.A5
variable [E3]
section
variable {P:Program} {X:Cx} {l:J2} {S:Nat->Prop} {st:I5} {a:Act} {w w' :World} {G G' :Gh} {I I' :S8} {N:Nat->Prop} {d8:Nat->Bool} {j8:List o3}
def JA (h:RI X l S st a w G I N)(hpv:PV X j8 S st a w I)(hT:O st.T=O X.names)(hD:∀j,d8 j=W->S j){x:Operand}{y:y4}(hc:X.ck d8 x y=W)(hn:isNil l j8 st y=W) :
  a.eval x= .slice K 0 0:=by
 unfold isNil at hn;split at hn
 .unfold Cx.ck at hc
  split at hc
  .simp_all
  .simp_all
  next v' b heq=>
   cases heq;have:=dH (G:=G) (I:=I) (N:=N) (w:=w) _ _ hc;simp_all [VR,Act.eval]
  all_goals simp_all
 next j=>
  have an2:∃t,x= .tmp t/\d8 j=W/\(X.ops[j]?).bind (·.dst)=J t/\X.names.contains t=F:=by
   simp_all [Cx.ck]<;>grind
  obtain ⟨t,rfl,hDj,Bj,Hl⟩:=an2;have hSj:=hD j hDj;simp only [Act.eval];split at hn
  .have h1:=h.L j hSj t Bj Hl
   simp_all [bN,VR]
  next n0 c0 hj=>
   split at hn
   next ai hai=>
    unfold iS at hn;split at hn
    next s hop=>
     simp only [c9,o5] at hn;obtain ⟨hun,hs⟩:=hn;split at hs
     .obtain ⟨ts,hts⟩:∃ts,X.names[s]? =J ts:=by
       grind
      have h1:=h.T s ts hts;have he:=hpv.slot j ai s ts t hSj (by rw [hj];simp) hai hop hts Bj Hl hun;simp_all [VR]
     .cases hs
    next x' hop=>
     split at hn
     next id off YN=>
      simp only [c9,o5] at hn;obtain ⟨⟨hun,hmay⟩,hs⟩:=hn;split at hs
      next cs hcs=>
       split at hs
       next Ie=>
        have hO:=h.H id _ hcs;obtain ⟨hN,c,e,f,g1,g2,g3,g4,g5⟩:=hO;have he:=hpv.cell j ai x' id off t cs hSj (by rw [hj];simp) hai hop YN hcs (A3 Ie) hun Bj Hl
        grind [U5,Option.some_inj,VR]
       .cases hs
      .cases hs
     .cases hn
    .cases hn
   .cases hn
  .cases hn
 .cases hn
def rN (h:RI X l S st a w G I N)(hpv:PV X j8 S st a w I)(hT:O st.T=O X.names)(hD:∀j,d8 j=W->S j){k:Nat}(hk:¬ S k)(aX:k<O st.L)(entry:Nat){A6:Option Nat}(hid:zB l st N A6){o:Oper}{sz bytes:Nat}{x y:y4}
  (hc:eS P (X.ck d8) o (.append sz bytes W x y)=W) {E:Env} (hE:E.lim=l) {st' :I5} (he:L8 E j8 A6 k sz bytes W st x (G7 st.T st.L y)=J st') :
  (∃v w' G',(execOp a.eval o).run P w= .ok (.value v) w' /\cu X l S entry st a w G I N st' k v w' G' I N) \/
  ∃v w' G' I' N' ob av,(execOp a.eval o).run P w= .ok (.value v) w' /\st' =put (E1 st A6 ob) k av/\cu X l S entry st a w G I N st' k v w' G' I' N' /\(∀i,N' i↔N i\/i=newId st A6):=by
 obtain ⟨x0,y0,t,t2,e,i,z,hop,hcx,hcy,ht2,hsz,hu,hi,hsi,Uz,hz,hzs,hbp⟩:=ej hc;have uw:(execOp a.eval o).run P w=((Builtin.append_ #[t,t2] o.type #[a.eval x0,a.eval y0]).run P w).andThen λv w' => .ok (.value v) w' :=by
  simp_all [guard,execOp,resolve,invoke,builtin]
 unfold L8 at he;rw [hE] at he;simp [if_true] at he;split at he
 next m cs hcs=>
  split at he
  next aQ=>
   obtain ⟨hnil,hroom,_⟩:=aQ;have hx0:=JA h hpv hT hD hcx hnil;obtain ⟨vn,hl,hf,Tt,hcl⟩:=qY (P:=P) h.H (h.R1 hD _ _ hcy) hsz hcs;have xT:O vn=m * sz:=by grind [K1.length]
   subst hsi Uz;split at he
   next hm=>
    subst hm;cases he;have hrun:=dU (P:=P) (w:=w) (ty:=o.type) hu hi ht2 (base:=K) (sLen:=0) (sCap:=0) hl (hf w rfl) (k9 _);refine Or.inl ⟨.slice K 0 0,w,G,?_,cu.same h hk aX entry (by simp [VR])⟩;simp_all
   .cases he
    have hlt:0<0+m:=V
    obtain ⟨dM,Bk,hrun⟩:=gq (P:=P) (w:=w) (ty:=o.type) hu hi hz ht2 (base:=K) (sLen:=0) (sCap:=0) (old:= #[]) hl (hf w.drew rfl) (by rfl) hlt (by rw [Nat.zero_add];exact Am hroom hbp) (by simp_all [Nat.zero_add,qU]);rw [Nat.zero_add] at Bk hrun;have hnb:jK w (w.drew.alloc (.cells (#[]++vn.toArray++Builtin.zeroCells z.cells (dM - m)) e)) (.cells (#[]++vn.toArray++Builtin.zeroCells z.cells (dM - m)) e):=by
     have:=jK.alloc w.drew (.cells (#[]++vn.toArray++Builtin.zeroCells z.cells (dM - m)) e);exact ⟨this.os,this.tape,this.output,s5 (Nat.le_succ _) this.drawn,this.size,this.old,this.new⟩
    have hsize:(#[]++vn.toArray++Builtin.zeroCells z.cells (dM - m):Array Value).size=dM * i.size:=by
     simp [Array.size_append,List.size_toArray,vj,hzs,xT,B1,Nat.zero_add];rw [<- Nat.add_mul];simp_all
    refine Or.inr ⟨.slice (J (ad w.heap.size 0)) m dM,_,_,_,_,.cells cs,_,M,rfl,cu.newObj h hk aX entry hid hnb (.cells cs) ?_ ?_,λi=>Iff.rfl⟩
    .simp only [OR]
     refine ⟨Or.inr trivial,_,e,(0,0),by rw [Y2];exact hnb.new,U,nr _,?_,λj b hj=>?_⟩
     .simp_all [Y2,Nat.zero_add,I8]
     .simp only [Y2]
      obtain ⟨u,r1,r2⟩:=K1.get _ _ Tt j b hj;refine ⟨u,?_,?_⟩
      .grind
      .exact (hnb.vr h.wf _ (λj hj=>cS (by rintro rfl;exact hid.new hj)) (λ_ h=>Or.inl h) r2).place
    .simp only [VR]
     refine ⟨Or.inr trivial,dM,U,Bk,_,e,(0,0),by rw [Y2];exact hnb.new,?_⟩;simp_all
  .cases he
 .cases he
def AI (P:Program)(ck:Operand->y4->Bool)(o:Oper)(op:s8):Bool :=
 match o.op,op with
 | .call ⟨.builtin .clear,args,argTypes⟩,.clear sz zero y =>
  (match args.toList,argTypes.toList with
   |[x],[t]=>ck x y&&decide (0<sz)&&(match P.underlying t with
    |some (.slice e)=>(match P.info? e with
     |some i=>(match i.zero with|some z=>consts z.cells.toList zero&&z.cells.size==sz&&zero.all c7.one|none=>F)
     |none=>F)
    |_=>F)
   |_,_=>F)
 |_,_=>F
theorem Je {α:Type}(zero:List α):∀(n i:Nat),((c8 n zero).flatten)[i]? =if i<n * O zero then zero[i % O zero]? else K
 |0,i=>U
 |n+1,i=>by
  rw [O8,List.flatten_cons]
  by_cases h:i<O zero
  .rw [y8 h,if_pos (by grind),Nat.mod_eq_of_lt h]
  .rw [x7 V,Je zero n (i - O zero)]
   by_cases h2:i - O zero<n * O zero
   .rw [if_pos h2,if_pos (by grind),Nat.mod_eq_sub_mod (a:=i) (b:=O zero) V]
   grind
theorem Iz {zero:List c7}(h:A8 zero=0):∀n:Nat,A8 (c8 n zero).flatten=0
 |0=>by simp [A8]
 |n+1=>by rw [O8,List.flatten_cons,iw,h,Iz h n];rfl
def RO (h:RI X l S st a w G I N)(hD:∀j,d8 j=W->S j){k:Nat}(hk:¬ S k)(aX:k<O st.L)(entry:Nat){o:Oper}{sz:Nat}{zero:List c7}{y:y4}
  (hc:AI P (X.ck d8) o (.clear sz zero y)=W) {E:Env} (hE:E.lim=l) {st' :I5} (he:aa E k sz zero st (G7 st.T st.L y)=J st') :
  ∃w',(execOp a.eval o).run P w= .ok (.value (.tuple #[])) w' /\cu X l S entry st a w G I N st' k (.tuple #[]) w' G I N:=by
 unfold AI at hc;split at hc
 next args argTypes sz' zero' y' hop heq=>
  cases heq;split at hc
  next x t ha ht=>
   have e1:args= #[x]:=by grind
   have e2:argTypes= #[t]:=by grind
   subst e1 e2;simp only [c9,decide_eq_true_eq] at hc;obtain ⟨⟨hx,hsz⟩,hc⟩:=hc;split at hc
   next e hu=>
    split at hc
    next i hi=>
     split at hc
     next z hz=>
      simp only [c9,beq_iff_eq] at hc;obtain ⟨⟨hcs,hzs⟩,hone⟩:=hc;have uw:(execOp a.eval o).run P w=((Builtin.clear_ #[t] o.type #[a.eval x]).run P w).andThen λv w' => .ok (.value v) w' :=by
       simp_all [guard,execOp,resolve,invoke,builtin]
      have hv:=h.R1 hD _ _ hx;unfold aa at he;split at he
      next id z' lo len hy=>
       rw [hy] at hv;obtain ⟨hN,cap,hx0,hcap,_⟩:=hv;split at he
       next aQ=>
        obtain ⟨rfl,hzl,hzb,hmay⟩:=aQ;split at he
        next H' hw=>
         cases he;obtain ⟨l0,c,e',f,g1,g2,g3,g4,g5,g6,g7,g8,g9⟩:=h.H.wr hw;have hvz:=fW (G:=G) (I:=I) (N:=N) (w:=w) _ _ hcs
         by_cases hlen:len=0
         .subst hlen
          have hH' :H' =st.H:=by
           rw [g2];simp only [List.replicate_zero,List.flatten_nil,splice,B1,Nat.add_zero,List.append_nil,List.take_append_drop];apply List.ext_getElem?
           grind
          have hM:=cu.write (D1:=N) h hk aX entry (w' :=w) (G:=G) (id:=id) (b:=(I id).1) ⟨g6,rfl,rfl,rfl,k9 _,rfl,λ_ _=>rfl,λc _ _ h=>⟨c,h,rfl⟩⟩ g1 (h.H id _ g1) (by grind) (Or.inl V) (λ_=>Iff.rfl) (v:= .tuple []) (x:= .tuple #[]) (by grind [VR,K1]) (.obj id::st.l6) (by simp [Touch.F7]);have rF:st.H.set id (.cells l0)=st.H:=by
           grind
          refine ⟨w,?_,by grind⟩;rw [uw,hx0];simp [Builtin.clear_,run_underlying hu]
         .have hzc:O (Builtin.zeroCells z.cells len).toList=len * z' :=by simp [vj,hzs]
          have hfl:O ((c8 len zero).flatten)=len * z' :=by simp [hzl]
          have zI:∀(j:Nat) b,((c8 len zero).flatten)[j]? =J b->∃u,(Builtin.zeroCells z.cells len).toList[j]? =J u/\VR G I N w .none b u:=by
           intro j b hj;rw [Je] at hj;split at hj
           next hjl=>
            rw [hzl] at hj hjl;obtain ⟨u,r1,r2⟩:=K1.get _ _ hvz (j % z') b hj;have hzj:z.cells[j % z']? =J u:=M
            have bV6 :z.cells[j % z.cells.size]! =u:=by
             grind
            simp_all [Array.range,Array.getElem?_toList,Builtin.zeroCells,Array.getElem?_map,C6]
           .cases hj
          obtain ⟨hO,hW⟩:=DZ g4 g5 g6 g7 g8 g9 g3 (vs:=(Builtin.zeroCells z.cells len).toList) (by rw [hzc,hfl]) (λj b hj=>by
           obtain ⟨u,r1,r2⟩:=zI j b hj;exact ⟨u,r1,r2.place⟩)
          have Jq:JT (Builtin.zeroCells z.cells len).toList:=by
           intro u hu';obtain ⟨j,hj,rfl⟩:=L5 hu';have hjl:j<O ((c8 len zero).flatten):=V
           obtain ⟨u',r1,r2⟩:=zI j _ (n9 hjl)
           grind [c8,List.getElem_mem,List.mem_flatten,mO,List.all_eq_true]
          have hrun:=run_storeCells_at (P:=P) (I id).1 ((I id).2+lo) e' f (Builtin.zeroCells z.cells len).toList 0 c w g5 g7 V Jq;have wE:(x4.cells (splice l0 lo (c8 len zero).flatten)).J4<=max (x4.cells l0).J4 (id+1)\/(l.base<=id/\l.strict<=id):=by
           grind [xA,c8,Iz,x4.J4]
          have hM:=cu.write (D1:=N) h hk aX entry hW g1 hO M wE (λ_=>Iff.rfl) (v:= .tuple []) (x:= .tuple #[]) (by simp_all [VR,K1]) (.obj id::st.l6) (by simp [Touch.F7]);simp_all [zeroValue,typeInfo,Builtin.clear_,run_underlying]
        .cases he
       .cases he
      next cells hy=>
       cases he;rw [hy] at hv;refine ⟨w,?_,cu.same h hk aX entry (by simp_all [VR,K1])⟩;rw [uw]
       rcases hv with ⟨hv|⟨a0,hv⟩,_⟩|⟨b,o',cap,hv,_⟩
       all_goals simp_all [Builtin.clear_,run_underlying]
      .cases he
     .cases hc
    .cases hc
   .cases hc
  .cases hc
 .cases hc
end
end Go.A5
namespace Go.A5
variable [E3]
def hold (G:Gh)(n:Nat):Gh:=λb =>
 match G b with
 | .grow m (.cell id off)=>if id<n then .grow m (.cell id off) else .held m
 | .grow m _=> .held m
 | .obj id=>if id<n then .obj id else .held 0
 |x=>x
def eM (G G1:Gh)(n:Nat):Gh:=λb=>if hold G n b=G b then G1 b else G b
section
variable {G G1:Gh} {w w1:World} {n:Nat}
theorem Ar (b o:Nat):jm (hold G n) b o↔jm G b o:=by
 grind [jm,hold]
def ux:Ext G w (hold G n) w where
 os:=rfl
 tape:=rfl
 output:=rfl
 drawn _:=k9 _
 size:=k9 _
 lK b o h:=⟨(Ar b o).2 h,rfl⟩
 still b h:=⟨by grind [hold],rfl⟩
 shape _ c _ _ h:=⟨c,h,rfl⟩
def OO (h:WF G w):WF (hold G n) w:=λb hb=>by simp [hold,h b hb]
def pT {b id:Nat}(hid:id<n)(h:G b= .obj id):hold G n b= .obj id:=by grind [hold]
def mI {id off:Nat}(hid:id<n):bE (.cell id off) G w (hold G n) w:=λb m hb=>⟨by grind [hold],rfl⟩
def Ez {b m:Nat}{pl:Place}(hn:n=0):hold G n b≠ .grow m pl:=by
 grind [hold]
def Jp {b id:Nat}(h:hold G n b= .obj id):id<n:=by
 grind [hold]
theorem hidden {b:Nat}(h:hold G n b≠G b):∃m,hold G n b= .held m:=by
 grind [hold]
theorem iI {b:Nat}(he:Ext (hold G n) w G1 w1)(h:hold G n b≠G b):eM G G1 n b=G b/\w1.heap[b]? =w.heap[b]? /\G1 b=hold G n b:=by
 obtain ⟨m,hm⟩:=hidden h;obtain ⟨h1,h2⟩:=he.still b (Or.inr ⟨m,hm⟩);simp_all [eM]
def iJ {b:Nat}(h:hold G n b=G b):eM G G1 n b=G1 b:=by simp [eM,h]
def Cp (he:Ext (hold G n) w G1 w1):Ext G w (eM G G1 n) w1 where
 os:=he.os
 tape:=he.tape
 output:=he.output
 drawn:=he.drawn
 size:=he.size
 lK b o h:=by
  obtain ⟨h1,h2⟩:=he.lK b o ((Ar b o).2 h);refine ⟨?_,h2⟩
  by_cases hh:hold G n b=G b
  .simp_all [jm,iJ]
  .unfold jm at h ⊢;rw [(iI he hh).1];exact h
 still b h:=by
  have hh:hold G n b=G b:=by grind [hold]
  obtain ⟨h1,h2⟩:=he.still b M;simp_all [iJ]
 shape:=he.shape
def og (he:Ext (hold G n) w G1 w1):Sub G1 w1 (eM G G1 n) w1 where
 lK b o h:=by
  by_cases hh:hold G n b=G b
  .simp_all [jm,iJ]
  .obtain ⟨h1,h2,h3⟩:=iI he hh
   grind [jm,hold,Ar]
 shape _ c _ _ h:=⟨c,h,rfl⟩
theorem bS (he:Ext (hold G n) w G1 w1){b:Nat}(h:∀m,G1 b≠ .held m):eM G G1 n b=G1 b:=by
 by_cases hh:hold G n b=G b
 .exact iJ hh
 .obtain ⟨_,_,h3⟩:=iI he hh
  grind [hidden,absurd]
def kV (he:Ext (hold G n) w G1 w1)(q:Place):bE q G1 w1 (eM G G1 n) w1 :=
 λb m hb=>⟨by grind [bS],rfl⟩
def fB (he:Ext (hold G n) w G1 w1){q:Place}(hq:∀id off,q= .cell id off->n<=id):bE q G w (eM G G1 n) w1:=by
 intro b m hb
 grind [hold,iI]
def Cq (he:Ext (hold G n) w G1 w1){id:Nat}(hid:n<=id):∀b,G b= .obj id->eM G G1 n b= .obj id/\w1.heap[b]? =w.heap[b]? :=by
 grind [hold,iI]
def Fo (he:Ext (hold G n) w G1 w1)(hwf:WF G w)(h1:WF G1 w1):WF (eM G G1 n) w1:=by
 intro b hb;have hg:G b= .free:=hwf b (s5 he.size hb);have hh:hold G n b=G b:=by simp [hold,hg]
 rw [iJ hh];exact h1 b hb
end
structure Di (l:J2)(H:j9)(w:World)(G:Gh)(I:S8)(N:Nat->Prop)(args:List c7)(K8:Array Value):Prop where
 args:K1 G I N w args K8.toList
 hr:HR G I N w H
 wf:WF G w
 bT:∀id,N id->id<O H
 W1:Rr l H
 base:l.base<=O H
 strict:l.strict<=l.base
 mc:∀b id:Nat,G b= .obj id->id<O H
 bm9:O H=0->∀b n pl,G b≠ .grow n pl
structure om (l:J2)(H:j9)(w:World)(G:Gh)(I:S8)(N:Nat->Prop)(v:c7)(H1:j9)(x:Value)(w' :World)(G' :Gh)(I' :S8)(N' :Nat->Prop):Prop where
 val:VR G' I' N' w' .ret v x
 hr:HR G' I' N' w' H1
 wf:WF G' w'
 ext:Ext G w G' w'
 dQ:mh l G w G' w'
 inj:∀id,id<O H->N id->I' id=I id
 mono:∀id,N id->N' id
 old:∀id,id<O H->N' id->N id
 bT:∀id,N' id->id<O H1
 hle:∀(id:Nat) (o' :x4),id<l.base->H1[id]? =J o' ->o'.J4<=id+1\/∃o:x4,H[id]? =J o/\o'.J4<=o.J4
 W1:Rr l H1
def oM (P:Program)(cf:tR)(prom:FuncId->Bool):Prop :=
 ∀f args H l v H1,cf f args H l=J (v,H1)->∀w G I N K8,Di l H w G I N args K8->(prom f=F->l.base=O H) ->
  Calls P f K8 w λe w' =>∃x G' I' N',e= .returned x/\om l H w G I N v H1 x w' G' I' N'
def V3 (P:Program)(f:FuncId):Bool :=
 match P.funcs[f]? with
 | some fn => fn.name != "runtime.NumGoroutine" && fn.body.isSome
 |none=>F
def uQ {P:Program}{w:World}{f:FuncId}(h:V3 P f=W)(args:Array Value):(callFunc f args).run P w= .ok (.enter f args) w:=by
 unfold V3 at h;split at h
 all_goals (simp_all [callFunc]<;>grind)
end Go.A5
namespace Go.A5
variable [E3]
theorem Iy:∀(l:List x4) (i:Nat) (o:x4),l[i]? =J o->o.J4<=F3 l
 |[],_,_,h=>by simp at h
 |v::vs,0,o,h=>by grind [F3]
 |v::vs,i+1,o,h=>by have:=Iy vs i o (by simpa using h);grind [F3]
theorem ug:∀(l:List x4) (k i:Nat) (o:x4),ah l k=W->l[i]? =J o->o.J4<=k+i+1
 |[],_,_,_,_,h=>by simp at h
 |v::vs,k,0,o,hd,h=>by
  simp_all [ah,c9,decide_eq_true_eq]
 |v::vs,k,i+1,o,hd,h=>by
  simp [ah,c9] at hd;have:=ug vs (k+1) i o hd.2 (by simpa using h);omega
def rY {H:j9}{n s i:Nat}{o:x4}(hi:i<n)(hs:s<=i)(h:H[i]? =J o):((H.take n).drop s)[i - s]? =J o:=by
 simp_all
def wT {l:J2}{H:j9}{n:Nat}(hd:Rr l H)(hc:F3 ((H.take n).drop l.strict)<=n){id:Nat}{o:x4}(hid:id<n)(h:H[id]? =J o):o.J4<=n:=by
 by_cases hs:id<l.strict
 .have:=(hd id o h).1 hs;omega
 .have:=Iy _ _ _ (rY (s:=l.strict) hid V h);omega
def KC (H:j9)(s n:Nat):B5 H s n<=n:=by
 grind [B5]
def HO {l:J2}{H:j9}{n:Nat}(hd:Rr l H){id:Nat}{o:x4}(hid:id<B5 H l.strict n)(h:H[id]? =J o):o.J4<=id+1:=by
 unfold B5 at hid;split at hid
 .exact (hd id o h).1 V
 .split at hid
  next hdf=>
   by_cases hs:id<l.strict
   .exact (hd id o h).1 hs
   .have:=ug _ _ _ _ hdf (rY (s:=l.strict) hid V h);omega
  .exact (hd id o h).1 hid
def VR.Ir {G:Gh}{I:S8}{N:Nat->Prop}{w:World}{pl zP :Place}{a:c7}{x:Value}(ha:∀z n c,a≠ .own z n c)(h:VR G I N w pl a x):VR G I N w zP a x:=by
 cases a with
 |own z n c=>simp_all
 |any=>simp [VR]
 |_=>simp_all [VR]
structure Yc (pl:Place)(l:J2)(H:j9)(w:World)(G:Gh)(I:S8)(N:Nat->Prop)(v:c7)(H1:j9)(x:Value)(w' :World)(G' :Gh)(I' :S8)(N' :Nat->Prop):Prop where
 val:VR G' I' N' w' pl v x
 hr:HR G' I' N' w' H1
 wf:WF G' w'
 ext:Ext G w G' w'
 dQ:mh l G w G' w'
def om.at {l:J2}{H:j9}{w:World}{G:Gh}{I:S8}{N:Nat->Prop}{v:c7}{H1:j9}{x:Value}{w' :World}{G' :Gh}{I' :S8}{N' :Nat->Prop}
  (h:om l H w G I N v H1 x w' G' I' N') {pl:Place} (hp:pl≠ .none):∃G2,Yc pl l H w G I N v H1 x w' G2 I' N' :=by
 by_cases ho:∃z n c,v= .own z n c
 .obtain ⟨z,n,c,rfl⟩:=ho
  obtain ⟨G2,hm,hv⟩:=jZ hp h.val;refine ⟨G2,hv,h.hr.JL hm U,hm.wf h.wf,h.ext.trans hm.ext,h.dQ.trans λid _=>⟨λb hb=>⟨hm.obj b id hb,rfl⟩,λoff=>hm.keeps _ U⟩⟩
 .exact ⟨G',h.val.Ir (λz n c e=>ho ⟨z,n,c,e⟩),h.hr,h.wf,h.ext,h.dQ⟩
section
variable {P:Program} {X:Cx} {l:J2} {S:Nat->Prop} {st:I5} {a:Act} {w w1:World} {G G1:Gh} {I I1:S8} {N N1:Nat->Prop}
structure Mw (X:Cx)(l:J2)(S:Nat->Prop)(entry:Nat)(st:I5)(a:Act)(w:World)(G:Gh)(I:S8)(N:Nat->Prop)
  (st' :I5) (k:Nat) (x' :Value) (w' :World) (G' :Gh) (I' :S8) (N' :Nat->Prop):Prop where
 mid:cu X l S entry st a w G I N st' k x' w' G' I' N'
 bT:∀id,N' id->id<O st'.H
 old:∀id,id<O st.H->N' id->N id
def sM (h:RI X l S st a w G I N)(eD:∀id,N id->id<O st.H){k:Nat}(hk:¬ S k)(aX:k<O st.L)(entry:Nat){n m:Nat}(hn:n<=O st.H)(hm:m<=n)
  {l' :J2} (hl' :l'.base=n) (hmay:∀id,id<n->l.may id=F->l'.may id=F) (Jo :∀id,m<=id->id<n->l'.may id=F)
  {v:c7} {H1:j9} {x:Value} (hlen:O H1=n) (hc:om l' (st.H.take n) w (hold G n) I (λi=>N i/\i<n) v H1 x w1 G1 I1 N1) {l6:List Touch} (Ng:∀id,l6.any (Touch.F7 id)=F->m<=id) :
  ∃G' I',Mw X l S entry st a w G I N (put { st with H:=H1.take m++st.H.drop m,l6 } k v) k x w1 G' I' N:=by
 have htl:O (st.H.take n)=n:=D
 have hN1:∀id,N1 id->N id/\id<n:=λid hid=>by
  have:=hc.bT id hid;exact hc.old id V hid
 have hI1:∀id,N id->id<n->I1 id=I id:=λid hid hlt=>hc.inj id V ⟨hid,hlt⟩
 obtain ⟨G2,hp⟩:=hc.at (pl:= .loc k) U;have hx:=Cp hp.ext;have YZ:∀id,m<=id->∀b,G b= .obj id->eM G G2 n b= .obj id/\w1.heap[b]? =w.heap[b]? :=by
  intro id hid b hb
  by_cases hlt:id<n
  .obtain ⟨g1,g2⟩:=(hp.dQ id (Jo id hid hlt)).1 b (pT hlt hb)
   exact ⟨by rw [bS hp.ext M];exact g1,g2⟩
  .exact Cq hp.ext V b hb
 have US:∀id,m<=id->∀off,bE (.cell id off) G w (eM G G2 n) w1:=by
  intro id hid off
  by_cases hlt:id<n
  .intro b q hb
   obtain ⟨g1,_⟩:=mI (G:=G) (w:=w) (off:=off) hlt b q hb;obtain ⟨g3,g4⟩:=(hp.dQ id (Jo id hid hlt)).2 off b q g1;exact ⟨by rw [bS hp.ext M];exact g3,g4⟩
  .exact fB hp.ext M
 have dJ:∀id o',(H1.take m++st.H.drop m)[id]? =J o' ->(id<m/\H1[id]? =J o')\/(m<=id/\st.H[id]? =J o'):=by
  grind
 have hle:∀id o',(H1.take m++st.H.drop m)[id]? =J o' ->o'.J4<=id+1\/∃o:x4,st.H[id]? =J o/\o'.J4<=o.J4:=by
  intro id o' ho'
  rcases dJ id o' ho' with ⟨hlt,ho⟩|⟨_,ho⟩
  .rcases hc.hle id o' V ho with hb|⟨o,h1,h2⟩
   all_goals grind
  simp_all
 have bC4:O (H1.take m++st.H.drop m)=O st.H:=D
 have hII:∀id,N id->I1 id=I id\/n<=id:=λid hid=>by
  grind
 refine ⟨eM G G2 n,λid=>if id<n then I1 id else I id,?_,?_,?_⟩
 .have hIo:∀id,N id->(if id<n then I1 id else I id)=I id:=by
   simp_all
  have hIn:∀id,N1 id->(if id<n then I1 id else I id)=I1 id:=by
   simp_all
  have hNn:∀id,N1 id->N id:=λid hid=>(hN1 id hid).1
  refine ⟨⟨?_,?_,?_,Fo hp.ext h.wf hp.wf,?_⟩,?_,hx,?_,?_,λid _ hN=>hIo id hN,λ_ h=>h,?_,?_⟩
  .intro s t ht
   exact VR.mono hx hIo (λ_ h=>h) _ _ _ (Or.inr (fB hp.ext U)) (h.T s t ht)
  .intro j hj d hd Hl
   have:k≠j:=by grind
   simp only [A5.put];rw [P4 _ _ _ _ _ this];exact VR.mono hx hIo (λ_ h=>h) _ _ _ (Or.inr (fB hp.ext U)) (h.L j hj d hd Hl)
  .intro id o' ho'
   rcases dJ id o' ho' with ⟨hlt,ho⟩|⟨hge,ho⟩
   .refine OR.mono (og hp.ext) hIn hNn id o' (λhb=>?_) (λoff=>kV hp.ext _) (hp.hr id o' ho)
    exact ⟨by rw [bS hp.ext M];exact hb,rfl⟩
   .exact OR.mono hx hIo (λ_ h=>h) id o' (λhb=>YZ id hge _ hb) (US id hge) (h.H id o' ho)
  .intro id o' ho'
   rcases hle id o' ho' with hb|⟨o,h1,h2⟩
   .omega
   .obtain ⟨d1,d2⟩:=h.W1 id o h1
    omega
  .simp only [A5.put]
   rw [O3 _ _ _ _ aX];exact VR.mono (og hp.ext) hIn hNn _ _ _ (Or.inr (kV hp.ext _)) hp.val
  .intro id hid
   by_cases hlt:id<n
   .obtain ⟨p1,p2⟩:=hp.dQ id (hmay id hlt hid)
    refine ⟨λb hb=>?_,λoff b q hb=>?_⟩
    .obtain ⟨g1,g2⟩:=p1 b (pT hlt hb)
     exact ⟨by rw [bS hp.ext M];exact g1,g2⟩
    .obtain ⟨g1,_⟩:=mI (G:=G) (w:=w) (off:=off) hlt b q hb
     obtain ⟨g3,g4⟩:=p2 off b q g1;exact ⟨by rw [bS hp.ext M];exact g3,g4⟩
   grind
  all_goals grind [A5.put]
 all_goals simp_all [A5.put]
def MI (h:RI X l S st a w G I N)(eD:∀id,N id->id<O st.H){k:Nat}(hk:¬ S k)(aX:k<O st.L)(entry:Nat)
  {v:c7} {H1:j9} {x:Value} (hlen:O st.H<=O H1) (hc:om l st.H w (hold G (O st.H)) I N v H1 x w1 G1 I1 N1) {l6:List Touch} (Ng:∀id,l6.any (Touch.F7 id)=F->O st.H<=id) :
  ∃G',Mw X l S entry st a w G I N (put { st with H:=H1,l6 } k v) k x w1 G' I1 N1:=by
 obtain ⟨G2,hp⟩:=hc.at (pl:= .loc k) U;have hx:=Cp hp.ext;have hIo:∀id,N id->I1 id=I id:=λid hid=>hc.inj id (eD id hid) hid
 refine ⟨eM G G2 (O st.H),?_,hc.bT,hc.old⟩;refine ⟨⟨?_,?_,?_,Fo hp.ext h.wf hp.wf,hc.W1⟩,?_,hx,?_,?_,λid _ hN=>hIo id hN,hc.mono,hlen,λid o' hb ho' =>hc.hle id o' hb ho'⟩
 .intro s t ht
  exact VR.mono hx hIo hc.mono _ _ _ (Or.inr (fB hp.ext U)) (h.T s t ht)
 .intro j hj d hd Hl
  have:k≠j:=by grind
  simp only [A5.put];rw [P4 _ _ _ _ _ this];exact VR.mono hx hIo hc.mono _ _ _ (Or.inr (fB hp.ext U)) (h.L j hj d hd Hl)
 .intro id o' ho'
  refine OR.mono (og hp.ext) (λ_ _=>rfl) (λ_ h=>h) id o' (λhb=>?_) (λoff=>kV hp.ext _) (hp.hr id o' ho');exact ⟨by rw [bS hp.ext M];exact hb,rfl⟩
 .simp only [A5.put]
  rw [O3 _ _ _ _ aX];exact VR.mono (og hp.ext) (λ_ _=>rfl) (λ_ h=>h) _ _ _ (Or.inr (kV hp.ext _)) hp.val
 .intro id hid
  by_cases hlt:id<O st.H
  .obtain ⟨p1,p2⟩:=hp.dQ id hid
   refine ⟨λb hb=>?_,λoff b q hb=>?_⟩
   .obtain ⟨g1,g2⟩:=p1 b (pT hlt hb)
    exact ⟨by rw [bS hp.ext M];exact g1,g2⟩
   .obtain ⟨g1,_⟩:=mI (G:=G) (w:=w) (off:=off) hlt b q hb
    obtain ⟨g3,g4⟩:=p2 off b q g1;exact ⟨by rw [bS hp.ext M];exact g3,g4⟩
  .exact ⟨Cq hp.ext V,λoff=>fB hp.ext M⟩
 .intro id hN ht
  have:=eD id hN;have:=Ng id ht;omega
def Bu {l:J2}{a b base strict id:Nat}(h:l.may id=F\/(a<=id/\id<b)):(l.jR a b base strict).may id=F:=by
 grind [J2.jR,J2.may,D5,decide_eq_false_iff_not]
def kJ (l:J2)(a b base strict:Nat):(l.jR a b base strict).base=base/\(l.jR a b base strict).strict=strict:=by
 grind [J2.jR]
def RN {E:Env}(OK:oM P E.cf E.prom)(hE:E.lim=l)(h:RI X l S st a w G I N)(eD:∀id,N id->id<O st.H)(hb:l.base<=O st.H)(hs:l.strict<=l.base)
  {k:Nat} (hk:¬ S k) (aX:k<O st.L) (entry:Nat) {f:FuncId} {args:List c7} {K8:Array Value} (hargs:K1 G I N w args K8.toList) {st' :I5} (he:C9 E k f args st=J st') :
  Calls P f K8 w λe w' =>∃x G' I' N',e= .returned x/\Mw X l S entry st a w G I N st' k x w' G' I' N' :=by
 subst hE;unfold C9 at he;split at he
 next xQ=>
  split at he
  next v H1 gG=>
   split at he
   next hlen=>
    cases he;refine Calls.mono (OK f args st.H E.lim v H1 gG w (hold G (O st.H)) I N K8 ⟨?_,?_,OO h.wf,eD,h.W1,hb,hs,λ_ _=>Jp,λh0 _ _ _=>Ez h0⟩ M) ?_
    .exact K1.mono ux.sub (λ_ _=>rfl) (λ_ h=>h) _ _ hargs
    .intro id o ho
     have hlt:=A3 ho;exact OR.mono ux.sub (λ_ _=>rfl) (λ_ h=>h) id o (λhb=>⟨pT hlt hb,rfl⟩) (λ_=>mI hlt) (h.H id o ho)
    .rintro e w' ⟨x,G1,I1,N1,rfl,hc⟩
     obtain ⟨G',hd⟩:=MI h eD hk aX entry hlen hc (l6:= .below (O H1)::st.l6) (by
      grind [Touch.F7])
     grind
   .cases he
  .cases he
 next xQ=>
  have xQ:E.prom f=F:=M
  simp only at he;generalize Hl:E6 st.H E.lim.strict 8 (A8 args)=n at he;have hna:A8 args<=n:=by
   rw [<- Hl];have:∀(j m:Nat),m<=E6 st.H E.lim.strict j m:=by
    intro j
    induction j with
    |zero=>grind [E6]
    |succ j ih =>
     grind [E6,s5,Nat.le_max_left]
   grind
  split at he
  next aQ=>
   obtain ⟨hn,hbO⟩:=aQ;have htl:O (st.H.take n)=n:=D
   have pre:∀l' :J2,l'.base=n->l'.strict=B5 st.H E.lim.strict n->Di l' (st.H.take n) w (hold G n) I (λi=>N i/\i<n) args K8:=by
    intro l' h1 h2;refine ⟨?_,?_,OO h.wf,λid hid=>V,?_,V,by simp_all [KC],λb id hb=>by rw [htl];exact Jp hb,λh0 _ _ _=>Ez V⟩
    .exact K1.mono ux.sub (λ_ _=>rfl) (λ_ h=>h) _ _ (K1.low n _ _ hna hargs)
    .intro id o ho
     have hlt:id<n:=by grind
     rw [List.getElem?_take_of_lt hlt] at ho;exact OR.mono ux.sub (λ_ _=>rfl) (λ_ h=>h) id o (λhb=>⟨pT hlt hb,rfl⟩) (λ_=>mI hlt) (OR.low hlt o (wT h.W1 hbO hlt ho) (h.H id o ho))
    .intro id o ho
     have hlt:id<n:=by have:=A3 ho;omega
     rw [List.getElem?_take_of_lt hlt] at ho;rw [h1,h2];exact ⟨λhh=>HO h.W1 hh ho,λ_=>wT h.W1 hbO hlt ho⟩
   split at he
   .split at he
    next v H1 gG=>
     split at he
     next hlen=>
      cases he;refine Calls.mono (OK f args _ _ v H1 gG w (hold G n) I _ K8 (pre _ rfl rfl) (λ_=>htl.symm)) ?_;rintro e w' ⟨x,G1,I1,N1,rfl,hc⟩;obtain ⟨G',I',hd⟩:=sM (l' :={ E.lim with base:=n,strict:=B5 st.H E.lim.strict n }) h eD hk aX entry hn (k9 n) rfl (λid _ hid=>hid) (λid h1 h2=>V) hlen hc (l6:= .below n::st.l6) (by
       intro id ht;simp [Touch.F7] at ht;omega)
      rw [<- hlen,List.take_length,hlen] at hd;exact ⟨x,G',I',N,rfl,hd⟩
     .cases he
    .cases he
   .split at he
    next v H1 gG=>
     split at he
     next hlen=>
      cases he;refine Calls.mono (OK f args _ _ v H1 gG w (hold G n) I _ K8 (pre _ rfl rfl) (λ_=>htl.symm)) ?_;rintro e w' ⟨x,G1,I1,N1,rfl,hc⟩;obtain ⟨G',I',hd⟩:=sM (l' :=⟨0,n,n,B5 st.H E.lim.strict n⟩) h eD hk aX entry hn (s9 n) rfl (λid h1 _=>by simp [J2.may];omega) (λid _ h2=>by simp [J2.may];omega) hlen hc (l6:=st.l6) (by intros;omega);refine ⟨x,G',I',N,rfl,?_⟩;simpa using hd
     .cases he
    .cases he
   .split at he
    next v H1 gG=>
     split at he
     next hlen=>
      cases he;refine Calls.mono (OK f args _ _ v H1 gG w (hold G n) I _ K8 (pre _ (kJ _ _ _ _ _).1 (kJ _ _ _ _ _).2) (λ_=>by rw [(kJ _ _ _ _ _).1,htl])) ?_;rintro e w' ⟨x,G1,I1,N1,rfl,hc⟩;obtain ⟨G',I',hd⟩:=sM h eD hk aX entry hn hlen.2 (kJ _ _ _ _ _).1 (λid _ hid=>Bu (Or.inl hid)) (λid h1 h2=>Bu (Or.inr ⟨h1,h2⟩)) hlen.1 hc (l6:= .below (args.headD .any).J4::st.l6) (by
       intro id ht;simp [Touch.F7] at ht;simpa using ht.1)
      exact ⟨x,G',I',N,rfl,hd⟩
     .cases he
    .cases he
  .cases he
end
end Go.A5
namespace Go.A5
variable [E3]
structure Tr (N:Nat->Prop)(k:Nat)(st st' :I5):Prop where
 l6:∀p:Touch->Bool,st.l6.any p=W->st'.l6.any p=W
 L:∀m id off:Nat,m≠k->st'.L[m]? =J (c7.ptr id off)->st.L[m]? =J (c7.ptr id off)
 T:∀s id off:Nat,st'.T[s]? =J (c7.ptr id off)->st.T[s]? =J (c7.ptr id off)
 H:∀(id:Nat) (l' :List c7),N id->st'.l6.any (Touch.F7 id)=F->st'.H[id]? =J (x4.cells l')->∃l:List c7,st.H[id]? =J (x4.cells l)/\O l=O l'
 Y8:O st'.T=O st.T
 jT:O st'.L=O st.L
 XZ:∀m:Nat,m≠k->st.L[m]? =J (c7.tuple [])->st'.L[m]? =J (c7.tuple [])
section
variable {N:Nat->Prop} {k:Nat} {st st1 st' :I5}
theorem Tr.refl (N:Nat->Prop)(k:Nat)(st:I5):Tr N k st st :=
 ⟨λ_ h=>h,λ_ _ _ _ h=>h,λ_ _ _ h=>h,λ_ l _ _ h=>⟨l,h,rfl⟩,rfl,rfl,λ_ _ h=>h⟩
theorem jX {t t' :List Touch}(h:∀p:Touch->Bool,t.any p=W->t'.any p=W){p:Touch->Bool}(h' :t'.any p=F):t.any p=F:=by
 grind
theorem Tr.trans (a:Tr N k st st1)(b:Tr N k st1 st'):Tr N k st st' where
 l6 p h:=b.l6 p (a.l6 p h)
 L m id off hm h:=a.L m id off hm (b.L m id off hm h)
 T s id off h:=a.T s id off (b.T s id off h)
 H id l' hN ht h:=by
  obtain ⟨l1,h1,e1⟩:=b.H id l' hN ht h;obtain ⟨l,h2,e2⟩:=a.H id l1 hN (jX b.l6 ht) h1;simp_all
 Y8:=b.Y8.trans a.Y8
 jT:=b.jT.trans a.jT
 XZ m hm h:=b.XZ m hm (a.XZ m hm h)
theorem Tr.put (v:c7):Tr N k st (put st k v) where
 l6 _ h:=h
 L m id off hm h:=by
  grind [A5.put,x3]
 T _ _ _ h:=h
 H _ l _ _ h:=⟨l,h,rfl⟩
 Y8:=rfl
 jT:=by simp [A5.put]
 XZ m hm h:=by
  grind [A5.put,x3]
def wS {l:List c7}{j m id off:Nat}{x:Data}(h:(l.set j (.d x))[m]? =J (.ptr id off)):l[m]? =J (.ptr id off):=by
 grind
def yw {l:List c7}{j m:Nat}{z n:Nat}{c:List Data}{v:c7}(hj:l[j]? =J (.own z n c))(h:l[m]? =J (c7.tuple [])):(l.set j v)[m]? =J (c7.tuple []):=by
 grind
theorem Tr.F6 (y:y4):Tr N k st (F6 st y).2:=by
 cases y with
 |loc j =>
  simp [A5.F6];split
  next hj=>
   exact ⟨λ_ h=>h,λm id off _ h=>wS h,λ_ _ _ h=>h,λ_ l _ _ h=>⟨l,h,rfl⟩,rfl,U,λ_ _ h=>yw hj h⟩
  all_goals simp_all [Tr.refl]
 |slot s=>exact Tr.refl _ _ _
 |const v=>exact Tr.refl _ _ _
def Tr.newObj {A6:Option Nat}(hi:∀i,A6=J i->i<O st.H)(hn:¬ N (newId st A6))(o:x4):Tr N k st (E1 st A6 o) where
 l6 p h:=by cases A6<;>exact h
 L m id off _ h:=by cases A6<;>exact h
 T s id off h:=by cases A6<;>exact h
 H id l' hN _ h:=by
  grind [iF,absurd]
 Y8:=by cases A6<;>rfl
 jT:=by cases A6<;>rfl
 XZ m _ h:=by cases A6<;>exact h
def Tr.heap {H' :j9}{l6:List Touch}(h1:∀p:Touch->Bool,st.l6.any p=W->l6.any p=W)(h2:∀id,N id->l6.any (Touch.F7 id)=F->H'[id]? =st.H[id]?):Tr N k st { st with H:=H',l6 } where
 l6:=h1
 L _ _ _ _ h:=h
 T _ _ _ h:=h
 H id l' hN ht h:=by
  simp_all
 Y8:=rfl
 jT:=rfl
 XZ _ _ h:=h
theorem Tr.aZ {l:J2}{sz len:Nat}{cells:List Data}{op:s8}(h:aZ l st sz op=J (len,cells,st')):Tr N k st st' :=by
 unfold A5.aZ at h;split at h
 .split at h
  .cases h
  .split at h
   .split at h
    .cases h
     exact ⟨λp hp=>M,λ_ _ _ _ h=>h,λs id off h=>wS h,λ_ l _ _ h=>⟨l,h,rfl⟩,U,rfl,λ_ _ h=>h⟩
    .cases h
   .cases h
 .split at h
  .split at h
   .cases h
   .split at h
    .split at h
     .split at h
      .cases h
       refine ⟨λp hp=>M,λ_ _ _ _ h=>h,λ_ _ _ h=>h,λid' l' _ _ h=>?_,rfl,rfl,λ_ _ h=>h⟩
       grind [E9,A3,x3]
      .cases h
     .cases h
    .cases h
  .cases h
 .cases h
theorem Tr.T1 {l:J2}{j8:List o3}{sz len:Nat}{cells:List Data}{y:y4}(h:T1 l j8 st sz y=J (len,cells,st')):Tr N k st st' :=by
 unfold A5.T1 at h;split at h
 .simp_all [Tr.refl]
 .cases h
 .cases h
 .split at h
  next hj=>
   split at h
   .cases h
    exact ⟨λ_ h=>h,λm id off _ h=>wS h,λ_ _ _ h=>h,λ_ l _ _ h=>⟨l,h,rfl⟩,rfl,U,λ_ _ h=>yw hj h⟩
   .cases h
  all_goals grind [Tr.aZ]
theorem UU {v:c7}{id i o:Nat}(h:v.kill id= .ptr i o):v= .ptr i o:=by
 cases v<;>simp [c7.kill] at h<;>first|omega|grind|exact h
def EH {l:List c7}{id m i o:Nat}(h:(O6 id l)[m]? =J (.ptr i o)):l[m]? =J (.ptr i o):=by
 grind [gR,Option.some.injEq,UU]
theorem Tr.X8 {E:Env}{sz bytes id lo len:Nat}{y:c7}(h:X8 E k sz bytes st id lo len y=J st'):Tr N k st st' :=by
 unfold A5.X8 at h;split at h
 .split at h
  next l0 m cs hl0 _=>
   split at h
   .cases h
    refine Tr.trans ?_ (Tr.put _);refine ⟨λp hp=>M,λm' i o _ h=>EH h,λs i o h=>EH h,λid' l' _ ht h=>?_,by simp [S2],by simp [S2],λm' _ h=>by grind [gR,c7.kill,O6]⟩;have hne:id' ≠id:=by grind [Touch.F7]
    have h' :(qQ st.H E.lim.base id (.cells (O6 id l0++cs)))[id']? =J (.cells l'):=h;unfold qQ at h';rw [x3 (λe=>hne e.symm)] at h'
    by_cases hb:id' <E.lim.base
    .grind
    .by_cases hlt:id' <O st.H
     .rw [x7 D,List.getElem?_map,List.getElem?_drop] at h'
      rw [show E.lim.base+(id' - O (List.take E.lim.base st.H))=id' from by simp;omega] at h';cases ho:st.H[id']? with
      |none=>simp_all
      |some o =>
       rw [ho] at h';cases o<;>simp [x4.kill] at h'
       grind [S2]
     grind
   .cases h
  .cases h
 .cases h
theorem Tr.C9 {E:Env}{f:FuncId}{args:List c7}(eD:∀id,N id->id<O st.H)(h:C9 E k f args st=J st'):Tr N k st st' :=by
 unfold A5.C9 at h;split at h
 .split at h
  .split at h
   .cases h
    refine Tr.trans ?_ (Tr.put _);refine Tr.heap (λp hp=>M) λid hN ht=>?_
    grind [Touch.F7]
   .cases h
  .cases h
 .simp only at h
  split at h
  .split at h
   .split at h
    .split at h
     .cases h
      refine Tr.trans ?_ (Tr.put _);refine Tr.heap (λp hp=>M) λid hN ht=>?_
      simp_all [Touch.F7,x7,List.getElem?_drop]
     .cases h
    .cases h
   .grind [Tr.put]
   .split at h
    .split at h
     .cases h
      refine Tr.trans ?_ (Tr.put _);refine Tr.heap (λp hp=>M) λid hN ht=>?_
      simp_all [Touch.F7,x7,List.getElem?_drop]
     .cases h
    .cases h
  .cases h
theorem vi {H H' :j9}{id off:Nat}{vs:List c7}(h:wr H id off vs=J H'){id' :Nat}(hne:id' ≠id):H'[id']? =H[id']? :=by
 grind [wr,x3]
theorem Tr.S6 {E:Env}{n:Nat}{a:c7}{x:y4}(h:S6 E k n st a x=J st'):Tr N k st st' :=by
 unfold A5.S6 at h;split at h
 .split at h
  .split at h
   .split at h
    .cases h
     refine Tr.trans (Tr.trans (Tr.F6 x) ?_) (Tr.put _);refine Tr.heap (λp hp=>M) λid' hN ht=>?_
     grind [vi,Touch.F7]
    .cases h
   .cases h
  .cases h
 .cases h
theorem Tr.aa {E:Env}{sz:Nat}{zero:List c7}{a:c7}(h:aa E k sz zero st a=J st'):Tr N k st st' :=by
 unfold A5.aa at h;split at h
 .split at h
  .split at h
   .cases h
    refine Tr.trans ?_ (Tr.put _);refine Tr.heap (λp hp=>M) λid' hN ht=>?_
    grind [vi,Touch.F7]
   .cases h
  .cases h
 all_goals grind [Tr.put]
theorem Tr.V8 {E:Env}{kk:KK}{m key v:c7}(h:V8 E k kk st m key v=J st'):Tr N k st st' :=by
 unfold A5.V8 at h;split at h
 .split at h
  .split at h
   .split at h
    .split at h
     .cases h
      refine Tr.trans ?_ (Tr.put _);refine Tr.heap (λp hp=>M) λid' hN ht=>?_
      simp_all [x3,Touch.F7]
     .cases h
    .cases h
   .cases h
  .cases h
 .cases h
theorem Tr.L8 {E:Env}{j8:List o3}{A6:Option Nat}{sz bytes:Nat}{ob:Bool}{x:y4}{y:c7}(hi:∀i,A6=J i->i<O st.H)(hn:¬ N (newId st A6))
  (h:L8 E j8 A6 k sz bytes ob st x y=J st'):Tr N k st st' :=by
 unfold A5.L8 at h;split at h
 .split at h
  .split at h
   .split at h
    .grind [Tr.put]
    .cases h;exact (Tr.newObj hi hn _).trans (Tr.put _)
   .cases h
  .split at h
   .split at h
    next ht=>
     split at h
     .cases h;exact (Tr.T1 ht).trans (Tr.put _)
     .cases h
    .cases h
   .cases h
 .cases h
theorem Tr.U9 {E:Env}{A6:Option Nat}{sz bytes id lo len:Nat}{y:c7}(hi:∀i,A6=J i->i<O st.H)(h:U9 E A6 k sz bytes st id lo len y=J st')(hN:¬ N (newId st A6)):Tr N k st st' :=by
 unfold A5.U9 at h;split at h
 .split at h
  .split at h
   .cases h
    have h1:Tr N k st { st with H:=st.H.set id .dead,l6:= .obj id::st.l6 }:=by
     refine ⟨λp hp=>M,λm' i o _ h=>h,λs i o h=>h,λid' l' hn ht h=>?_,rfl,rfl,λm' _ h=>h⟩
     grind
    have e:newId { st with H:=st.H.set id .dead,l6:= .obj id::st.l6 } A6=newId st A6:=by simp_all [newId]
    exact (h1.trans (Tr.newObj (λi h=>M) M _)).trans (Tr.put _)
   .cases h
  .cases h
 .cases h
theorem Tr.D3 {E:Env}{j8:List o3}{A6:Option Nat}{op:s8}(eD:∀id,N id->id<O st.H)(hi:∀i,A6=J i->i<O st.H)(hn:op.y7=W->¬ N (newId st A6))
  (h:D3 E j8 A6 k st op=J st'):Tr N k st st' :=by
 cases op<;>simp only [A5.D3] at h<;>try (cases h;done)
 case alloc zero=>cases h;exact (Tr.newObj hi (hn rfl) _).trans (Tr.put _)
 case box x =>
  split at h
  .cases h;exact (Tr.newObj hi (hn rfl) _).trans (Tr.put _)
  .cases h
 case makeMap=>cases h;exact (Tr.newObj hi (hn rfl) _).trans (Tr.put _)
 case sP x=>cases h;exact Tr.put _
 case own sz x =>
  split at h
  next ht=>
   cases h;exact (Tr.T1 ht).trans (Tr.put _)
  .cases h
 case iY sz zero x y =>
  split at h
  .cases h;exact (Tr.newObj hi (hn rfl) _).trans (Tr.put _)
  .cases h
 case J8 sz len zero parts ob =>
  cases ob
  .cases h
  .simp only at h
   split at h
   .split at h
    .cases h;exact (Tr.newObj hi (hn rfl) _).trans (Tr.put _)
    .cases h
   .cases h
 case store n a x=>exact Tr.S6 h
 case K3 sz bytes x y =>
  obtain ⟨s,hs,rfl⟩:=oQ h;have hN:¬ N (newId st K):=λh=>Nat.lt_irrefl _ (eD _ h)
  refine Tr.trans (st1:=s) ?_ (Tr.heap (H' :=s.H) (λp hp=>by simp only [List.any_cons,hp,Bool.or_true]) λ_ _ _=>rfl);split at hs
  .split at hs
   .exact Tr.U9 (λ_ e=>by cases e) hs hN
   .cases hs
  .exact Tr.L8 (λ_ e=>by cases e) hN hs
 case append sz bytes ob x y =>
  split at h
  .split at h
   .exact Tr.X8 h
   .cases h
  .cases ob with
   |true=>exact Tr.L8 hi (hn rfl) h
   |false =>
    unfold A5.L8 at h;simp only [j5,if_false] at h;split at h
    .split at h
     .split at h
      next ht=>
       split at h
       .cases h;exact (Tr.T1 ht).trans (Tr.put _)
       .cases h
      .cases h
     .cases h
    .cases h
 case clear sz zero x=>exact Tr.aa h
 case call f xs=>exact Tr.C9 eD h
 case X9 x xs =>
  split at h
  .exact Tr.C9 eD h
  .cases h
 case dF=>exact Tr.V8 h
 case defer x =>
  split at h
  .split at h
   .cases h;exact Tr.put _
   .cases h
  .cases h
theorem Tr.B8 {E:Env}{j8:List o3}{A6:Option Nat}{op:s8}{rs:List Nat}(eD:∀id,N id->id<O st.H)(hi:∀i,A6=J i->i<O st.H)(hn:op.y7=W->¬ N (newId st A6))
  (h:B8 E j8 A6 k op st=J (st',rs)):Tr N k st st' :=by
 unfold A5.B8 at h;split at h
 .grind [Tr.D3]
 .split at h
  .cases h
   exact (Tr.F6 _).trans (Tr.put _)
  grind [Tr.put]
end
end Go.A5
namespace Go.A5
variable [E3]
section
variable {P:Program} {X:Cx} {l:J2} {S:Nat->Prop} {st:I5} {a:Act} {w w' :World} {G G' :Gh} {I I' :S8} {N:Nat->Prop} {d8:Nat->Bool}
def Ext.aN9 {b id id' :Nat}(h:G b= .obj id):Ext G w (gF G b (.obj id')) w where
 os:=rfl
 tape:=rfl
 output:=rfl
 drawn _:=k9 _
 size:=k9 _
 lK x o hi:=by
  grind [jm,J3]
 still x hx:=by
  grind [J3]
 shape _ c _ _ hc:=⟨c,hc,rfl⟩
def cu.renew (h:RI X l S st a w G I N){k:Nat}(hk:¬ S k)(aX:k<O st.L)(entry:Nat){A6:Option Nat}{id:Nat}{o0:x4}(h0:st.H[id]? =J o0)(hid:zB l st N A6)(hmay:l.may id=W)
  (hx:Ext G w G' w') (hkp:∀q,bE q G w G' w') (ho:∀id',id' ≠id->∀b,G b= .obj id' ->G' b= .obj id' /\w'.heap[b]? =w.heap[b]?) (hwf:WF G' w') (hI:∀i,N i->I' i=I i)
  {cs:List c7} (Sd:OR G' I' (λi=>N i\/i=newId st A6) w' (newId st A6) (.cells cs)) {v:c7} {x:Value} (hv:VR G' I' (λi=>N i\/i=newId st A6) w' (.loc k) v x) (l6:List Touch) (Ng:l6.any (Touch.F7 id)=W) :
  cu X l S entry st a w G I N (put (E1 { st with H:=st.H.set id .dead,l6 } A6 (.cells cs)) k v) k x w' G' I' (λi=>N i\/i=newId st A6):=by
 have hnw:newId { st with H:=st.H.set id .dead,l6 } A6=newId st A6:=by simp_all [newId]
 have hTT:(E1 { st with H:=st.H.set id .dead,l6 } A6 (.cells cs)).T=st.T:=by cases A6<;>rfl
 have hLL:(E1 { st with H:=st.H.set id .dead,l6 } A6 (.cells cs)).L=st.L:=by cases A6<;>rfl
 have hCC:(E1 { st with H:=st.H.set id .dead,l6 } A6 (.cells cs)).l6=l6:=by cases A6<;>rfl
 have hlen:O st.H<=O (E1 { st with H:=st.H.set id .dead,l6 } A6 (.cells cs)).H:=by cases A6<;>simp [E1]
 have zI:∀(id' :Nat) o',(E1 { st with H:=st.H.set id .dead,l6 } A6 (.cells cs)).H[id']? =J o' ->(id' =newId st A6/\o' = .cells cs)\/(id' =id/\o' = .dead)\/(id' ≠id/\st.H[id']? =J o'):=by
  intro id' o' h'
  rcases iF (st:={ st with H:=st.H.set id .dead,l6 }) (A6:=A6) (λi hi=>by simpa using hid.inside i hi) _ id' o' h' with ⟨h1,h2⟩|⟨_,h2⟩
  all_goals grind
 have vr:∀{pl:Place} {b:c7} {u:Value},VR G I N w pl b u->VR G' I' (λi=>N i\/i=newId st A6) w' pl b u :=
  λhb=>VR.mono hx.sub hI (λ_ h=>Or.inl h) _ _ _ (Or.inr (hkp _)) hb
 refine ⟨⟨λs t ht=>by simp only [A5.put,hTT];exact vr (h.T s t ht),?_,?_,hwf,?_⟩,?_,hx,?_,?_,λi _ hN=>hI i hN,λ_ h=>Or.inl h,?_,?_⟩
 .intro j hj d hd hn
  have:k≠j:=by grind
  simp only [A5.put,hLL];rw [P4 _ _ _ _ _ this];exact vr (h.L j hj d hd hn)
 .intro id' o' ho'
  rcases zI id' o' ho' with ⟨rfl,rfl⟩|⟨rfl,rfl⟩|⟨hne,hold⟩
  .exact Sd
  .simp [OR]
  .exact OR.mono hx.sub hI (λ_ h=>Or.inl h) id' o' (λhb=>ho id' hne _ hb) (λ_=>hkp _) (h.H id' o' hold)
 .intro id' o' ho'
  rcases zI id' o' ho' with ⟨rfl,rfl⟩|⟨rfl,rfl⟩|⟨hne,hold⟩
  .have h1:=hid.strict
   have h2:=hid.base;omega
  .simp [x4.J4]
  .exact h.W1 id' o' hold
 .simp_all [A5.put,O3]
 .intro id' Jo
  grind
 .grind [A5.put]
 .simp_all [A5.put]
 .intro id' o' hb ho'
  rcases zI id' o' ho' with ⟨rfl,rfl⟩|⟨rfl,rfl⟩|⟨hne,hold⟩
  .have h2:=hid.base
   omega
  all_goals simp_all [x4.J4,k9]
def Du (h:RI X l S st a w G I N)(hD:∀j,d8 j=W->S j){k:Nat}(hk:¬ S k)(aX:k<O st.L)(entry:Nat){A6:Option Nat}(hid:zB l st N A6){o:Oper}{sz bytes:Nat}{ob:Bool}{x y:y4}
  (hc:eS P (X.ck d8) o (.append sz bytes ob x y)=W) {E:Env} (hE:E.lim=l) {id lo len:Nat} (hx:G7 st.T st.L x= .s6 id sz lo len) {st' :I5} (he:U9 E A6 k sz bytes st id lo len (G7 st.T st.L y)=J st') :
  ∃v w' G' I',(execOp a.eval o).run P w= .ok (.value v) w' /\cu X l S entry st a w G I N st' k v w' G' I' (λi=>N i\/i=newId st A6):=by
 obtain ⟨x0,y0,t,t2,e,i,z,hop,hcx,hcy,ht2,hsz,hu,hi,hsi,Uz,hz,hzs,hbp⟩:=ej hc;have hnew:¬ N (newId st A6):=hid.new;unfold U9 at he;rw [hE] at he;split at he
 next hmay=>
  split at he
  next l0 m cs hl0 hcs=>
   split at he
   next Jj=>
    obtain ⟨rfl,hlen,hroom,aC5,hone,_⟩:=Jj;cases he;obtain ⟨vn,hl,hf,Tt,hcl⟩:=qY (P:=P) h.H (h.R1 hD _ _ hcy) hsz hcs;have hval:=h.R1 hD _ _ hcx;rw [hx] at hval;simp only [VR] at hval;obtain ⟨Uy,cap,hx0,hcap,c,e',f,hb,hbs⟩:=hval;have uw:(execOp a.eval o).run P w=((Builtin.append_ #[t,t2] o.type #[a.eval x0,a.eval y0]).run P w).andThen λv w' => .ok (.value v) w' :=by
     simp_all [guard,execOp,resolve,invoke,builtin]
    have xT:O vn=m * sz:=by grind [K1.length]
    subst hsi Uz;have hO:=h.H id _ hl0;simp only [OR] at hO;obtain ⟨_,c0,e0,f0,h1,Jn,hnf,bl6,h5⟩:=hO;rw [hb] at h1;cases h1;have Jq:=yd hone Tt;have bB7:id≠newId st A6:=by grind
    by_cases hfit:len+m<=cap
    ·
     have hrun:=dU (P:=P) (w:=w) (ty:=o.type) hu hi ht2 (base:=J (ad (I id).1 ((I id).2+0))) (sLen:=len) (sCap:=cap) hl (hf w rfl) hfit;have hbig:(len+m) * i.size<=cap * i.size:=I8 _ hfit;rw [Nat.add_mul] at hbig;have an9:(I id).2+len * i.size+O vn<=c.size:=V
     have hst:=run_storeCells_at (P:=P) (I id).1 ((I id).2+0+len * i.size) e' f vn 0 c w hb hnf V Jq;have xO :(I id).2+0+len * i.size+O vn<=O c.toList:=D
     have oJ :(L6 c.toList ((I id).2+0+len * i.size) vn).toArray.size=c.size:=by simp_all [List.size_toArray,kT,Array.length_toList]
     have hw:=xe (G:=G) hb Jn oJ;have hxx:=hw.ext.trans (Ext.aN9 (w:=w.setRow (I id).1 (L6 c.toList ((I id).2+0+len * i.size) vn).toArray) (id' :=newId st A6) hw.mc);have hkk:∀q,bE q G w (gF G (I id).1 (.obj (newId st A6))) (w.setRow (I id).1 (L6 c.toList ((I id).2+0+len * i.size) vn).toArray):=by
      intro q b n hbq;have hne:b≠(I id).1:=by grind
      exact ⟨by simp_all [J3],hw.other b hne⟩
     have hII:∀i',N i' ->qt I (newId st A6) ((I id).1,(I id).2) i' =I i' :=λi' hN=>cS (by grind)
     refine ⟨.slice (J (ad (I id).1 ((I id).2+0))) (len+m) cap,w.setRow (I id).1 (L6 c.toList ((I id).2+0+len * i.size) vn).toArray,gF G (I id).1 (.obj (newId st A6)),qt I (newId st A6) ((I id).1,(I id).2),?_,
      cu.renew h hk aX entry hl0 hid hmay hxx hkk (λid' hne b hbq=>?_) (λb hbq=>?_) hII ?_ ?_ (.obj id::st.l6) (by simp [Touch.F7])⟩
     .simp_all [bp,Nat.add_zero]
     .have hnb:b≠(I id).1:=by grind
      exact ⟨by simp_all [J3],hw.other b hnb⟩
     .have hwb:w.heap.size<=b:=M
      have hne:b≠(I id).1:=by
       grind
      rw [J3 hne];exact h.wf b hwb
     .simp only [OR,Y2]
      have mono:∀{pl:Place} {b:c7} {u:Value},VR G I N w pl b u->VR (gF G (I id).1 (.obj (newId st A6))) (qt I (newId st A6) ((I id).1,(I id).2)) (λi=>N i\/i=newId st A6) (w.setRow (I id).1 (L6 c.toList ((I id).2+0+len * i.size) vn).toArray) pl b u :=
       λhq=>VR.mono hxx.sub hII (λ_ h=>Or.inl h) _ _ _ (Or.inr (hkk _)) hq
      refine ⟨Or.inr trivial,_,e',f,setRow_heap w _ c _ e' f hb,U,M,?_,λj b hj=>?_⟩
      .grind
      .rw [show (L6 c.toList ((I id).2+0+len * i.size) vn).toArray[(I id).2+j]? =(L6 c.toList ((I id).2+0+len * i.size) vn)[(I id).2+j]? from by simp,kR _ _ _ xO]
       have hjl:=A3 hj;rw [l5,A9,hcl] at hjl
       by_cases OM:j<O l0
       .rw [y8 M,List.getElem?_map,n9 OM] at hj
        rw [if_pos V];simp only [C6,Option.some.injEq] at hj;subst hj;obtain ⟨v,g1,g2⟩:=h5 j _ (n9 OM);exact ⟨v,M,mono g2.K9⟩
       .rw [x7 M,A9] at hj
        rw [if_neg V,if_pos V];obtain ⟨u,r1,r2⟩:=K1.get _ _ Tt (j - O l0) b hj;exact ⟨u,by grind,mono r2.place⟩
     .simp only [VR,Y2]
      exact ⟨Or.inr trivial,cap,rfl,hfit,_,e',f,setRow_heap w _ c _ e' f hb,V⟩
    ·
     have hlt:cap<len+m:=V
     have UC:∃vo:List Value,O vo=len * i.size/\(∀w2:World,w2.heap=w.heap->(Builtin.firstCells i.size len (.slice (J (ad (I id).1 ((I id).2+0))) len cap)).run P w2= .ok vo.toArray w2) /\
       (∀(j:Nat) b,l0[j]? =J b->∃v,vo[j]? =J v/\VR G I N w (.cell id j) b v):=by
      refine ⟨(List.range (len * i.size)).map (λj=>(c[(I id).2+j]?).getD default),U,λw2 Sj=>?_,λj b hj=>?_⟩
      .have:=run_loadCells_list (P:=P) w2 (ad (I id).1 ((I id).2+0)) ((List.range (len * i.size)).map (λj=>(c[(I id).2+j]?).getD default)) (λj v hj=>by
        have hjn:j<len * i.size:=by
         grind
        simp [hjn] at hj
        grind [bp,jC,U5])
       simp_all [Builtin.firstCells]
      grind
     obtain ⟨vo,ao4,ao5,ao6⟩:=UC;obtain ⟨dM,Bk,hrun⟩:=gq (P:=P) (w:=w) (ty:=o.type) hu hi hz ht2 (base:=J (ad (I id).1 ((I id).2+0))) (sLen:=len) (sCap:=cap) hl (hf w.drew rfl) (ao5 w.drew rfl) hlt (Am hroom hbp) (qU hroom hlt);have hnb:jK w (w.drew.alloc (.cells (vo.toArray++vn.toArray++Builtin.zeroCells z.cells (dM - (len+m))) e)) (.cells (vo.toArray++vn.toArray++Builtin.zeroCells z.cells (dM - (len+m))) e):=by
      have:=jK.alloc w.drew (.cells (vo.toArray++vn.toArray++Builtin.zeroCells z.cells (dM - (len+m))) e);exact ⟨this.os,this.tape,this.output,s5 (Nat.le_succ _) this.drawn,this.size,this.old,this.new⟩
     have hsize:(vo.toArray++vn.toArray++Builtin.zeroCells z.cells (dM - (len+m))).size=dM * i.size:=by
      simp only [Array.size_append,List.size_toArray,vj,hzs,ao4,xT];have:dM * i.size=(len+m) * i.size+(dM - (len+m)) * i.size:=by rw [<- Nat.add_mul];simp_all
      grind
     have hII:∀i',N i' ->qt I (newId st A6) (w.heap.size,0) i' =I i' :=λi' hN=>cS (by grind)
     refine ⟨.slice (J (ad w.heap.size 0)) (len+m) dM,_,gF G w.heap.size (.obj (newId st A6)),qt I (newId st A6) (w.heap.size,0),?_,
      cu.renew h hk aX entry hl0 hid hmay (hnb.ext h.wf _) (hnb.keeps h.wf _) (λid' _=>hnb.zM h.wf _ id') (hnb.wf h.wf _) hII ?_ ?_ (.obj id::st.l6) (by simp [Touch.F7])⟩
     .simp_all
     .simp only [OR]
      have mono:∀{pl:Place} {b:c7} {u:Value},VR G I N w pl b u->VR (gF G w.heap.size (.obj (newId st A6))) (qt I (newId st A6) (w.heap.size,0)) (λi=>N i\/i=newId st A6) _ pl b u :=
       λhq=>VR.mono (hnb.ext h.wf _).sub hII (λ_ h=>Or.inl h) _ _ _ (Or.inr (hnb.keeps h.wf _ _)) hq
      refine ⟨Or.inr trivial,_,e,(0,0),by rw [Y2];exact hnb.new,U,nr _,?_,λj b hj=>?_⟩
      .grind [Y2,l5,A9,I8,Nat.add_mul]
      .have hjl:=A3 hj
       rw [l5,A9,hcl] at hjl;simp only [Y2,Nat.zero_add];rw [show (vo.toArray++vn.toArray++Builtin.zeroCells z.cells (dM - (len+m)))[j]? =(vo++vn++(Builtin.zeroCells z.cells (dM - (len+m))).toList)[j]? from by grind,
        y8 M]
       by_cases OM:j<O l0
       .rw [y8 M,List.getElem?_map,n9 OM] at hj
        rw [y8 V];simp only [C6,Option.some.injEq] at hj;subst hj;obtain ⟨v,g1,g2⟩:=ao6 j _ (n9 OM);exact ⟨v,g1,mono g2.K9⟩
       .rw [x7 M,A9] at hj
        rw [x7 V];obtain ⟨u,r1,r2⟩:=K1.get _ _ Tt (j - O l0) b hj;exact ⟨u,M,(mono r2).place⟩
     .simp only [VR]
      refine ⟨Or.inr trivial,dM,U,Bk,_,e,(0,0),by rw [Y2];exact hnb.new,?_⟩;simp_all
   .cases he
  .cases he
 .cases he
end
end Go.A5
namespace Go.A5
variable [E3]
structure vV (A6:Option Nat)(X:Cx)(l:J2)(S:Nat->Prop)(entry:Nat)(st:I5)(a:Act)(w:World)(G:Gh)(I:S8)(N:Nat->Prop)
  (st' :I5) (k:Nat) (x' :Value) (w' :World) (G' :Gh) (I' :S8) (N' :Nat->Prop):Prop where
 mid:cu X l S entry st a w G I N st' k x' w' G' I' N'
 bT:∀id,N' id->id<O st'.H
 old:∀id,id<O st.H->N' id->N id\/A6=J id
def cG (P:Program)(o:Oper)(a:Act)(w:World)(R:Act->World->Prop):Prop :=
 ∀(a8:Act->World->Prop) (Q:Exit->Act->World->Prop),(∀a' w',R a' w' ->a8 a' w')->o.wp P a w a8 Q
section
variable {P:Program} {o:Oper} {a:Act} {w w' :World} {R:Act->World->Prop}
theorem cG.value {x:Value}(h:(execOp a.eval o).run P w= .ok (.value x) w')(hR:R (a.put o.dst x) w'):cG P o a w R:=by
 intro a8 Q hK;simp_all [Oper.wp,Oper.upon]
theorem cG.skip (h:(execOp a.eval o).run P w= .ok .skip w')(hR:R (a.put o.dst undef) w'):cG P o a w R:=by
 intro a8 Q hK;simp_all [Oper.wp,Oper.upon]
theorem cG.defer {d:Deferred}(h:(execOp a.eval o).run P w= .ok (.defer d) w')(hR:R ({ a with defers:=d::a.defers }.put o.dst undef) w'):cG P o a w R:=by
 intro a8 Q hK;simp_all [Oper.wp,Oper.upon]
theorem cG.enter {f:FuncId}{args:Array Value}(h:(execOp a.eval o).run P w= .ok (.enter f args) w)(hR:Calls P f args w λe w' =>∃x,e= .returned x/\R (a.put o.dst x) w'):cG P o a w R:=by
 intro a8 Q hK
 grind [Oper.wp,Oper.upon,Calls.mono]
end
def Aa (P:Program)(ck:Operand->y4->Bool)(o:Oper)(op:s8):Bool :=
 match o.op,op with
 | .call ⟨.value (.func f),args,_⟩,.call g ys=>f==g&&TP ck args.toList ys&&V3 P f
 | .call ⟨.value x,args,_⟩,.X9 y ys=>ck x y&&TP ck args.toList ys
 |_,_=>F
def IK (ck:Operand->y4->Bool)(o:Oper)(op:s8):Bool :=
 match o.op,op with
 | .defer ⟨.value x,args,_⟩,.defer y=>ck x y&&args.isEmpty
 |_,_=>F
def wm (ck:Operand->y4->Bool)(o:Oper)(y:y4):Bool :=
 match o.op with
 | .move x=>ck x y
 | .assign x=>ck x y
 |_=>F
def aJ (P:Program)(ck:Operand->y4->Bool)(o:Oper)(op:s8):Bool :=
 match op with
 | .S0 y=>wm ck o y
 | .alloc _=>cK P ck o op
 | .box _=>cK P ck o op
 | .makeMap=>cK P ck o op
 | .sP x=>wm ck o (.const (.d x))
 | .own _ x=>wm ck o x
 | .iY .. =>cK P ck o op
 | .J8 .. =>cK P ck o op
 | .store .. =>AK P ck o op
 | .append _ _ _ _ _=>eS P ck o op
 | .K3 sz bytes x y=>eS P ck o (.append sz bytes W x y)
 | .dF .. =>MK P ck o op
 | .call .. =>Aa P ck o op
 | .X9 .. =>Aa P ck o op
 | .defer _=>IK ck o op
 | .clear .. =>AI P ck o op
 | .bad=>W
 |op=>E8 P ck o op
section
variable {P:Program} {X:Cx} {l:J2} {S:Nat->Prop} {st st' :I5} {a:Act} {w w' :World} {G G' :Gh} {I I' :S8} {N N' :Nat->Prop} {d8:Nat->Bool} {j8:List o3}
def vV.kQ {A6:Option Nat}{entry k:Nat}{x:Value}(eD:∀id,N id->id<O st.H)(h:cu X l S entry st a w G I N st' k x w' G' I' N):vV A6 X l S entry st a w G I N st' k x w' G' I' N :=
 ⟨h,λid hid=>Nat.lt_of_lt_of_le (eD id hid) h.len,λ_ _ h=>Or.inl h⟩
def vV.Sx {entry k:Nat}{x:Value}{A6:Option Nat}(eD:∀id,N id->id<O st.H){o:x4}{v:c7}(hi:∀i,A6=J i->i<O st.H)
  (h:cu X l S entry st a w G I N (put (E1 st A6 o) k v) k x w' G' I' N') (hN:∀i,N' i↔N i\/i=newId st A6) :
  vV A6 X l S entry st a w G I N (put (E1 st A6 o) k v) k x w' G' I' N' :=by
 refine ⟨h,λid hid=>?_,λid hlt hid=>?_⟩
 all_goals (simp_all [put,E1,newId]<;>grind)
def sK {l1 l2:List c7}{v1 v2:List Value}:∀(_:K1 G I N w l1 v1) (_:K1 G I N w l2 v2),K1 G I N w (l1++l2) (v1++v2):=by
 induction l1 generalizing v1 with
 |nil=>simp_all [K1]
 |cons b bs ih =>
  grind [K1]
structure ir (X:Cx)(st:I5)(a:Act)(w:World)(I:S8)(op:s8)(x:Value):Prop where
 S0:∀s t,op= .S0 (.slot s)->X.names[s]? =J t->x=a.tmps.getD t undef
 load:∀y id off,op= .load K y->bU st y=J (id,off)->w.cell? (ad (I id).1 ((I id).2+off))=J x
def ir.other {X:Cx}{st:I5}{a:Act}{w:World}{I:S8}{op:s8}{x:Value}(h1:∀y,op≠ .S0 y)(h2:∀n y,op≠ .load n y):ir X st a w I op x :=
 ⟨λ_ _ h=>absurd h (h1 _),λ_ _ _ h=>absurd h (h2 _ _)⟩
def ZI {st:I5}{y:y4}{id off:Nat}(h:bU st y=J (id,off)):G7 st.T st.L y= .ptr id off:=by
 unfold bU at h
 grind [G7,List.getD,c7.K9]
def Su {ck:Operand->y4->Bool}{η:Operand->Value}{ρ:y4->c7}{H:j9}(hρ:cI ck G I N w η ρ)(hH:HR G I N w H){o:Oper}{y:y4}(hc:E8 P ck o (.load K y)=W){v:c7}{rs:List Nat}
  (h:k8 ρ H (.load K y)=J (v,rs)) {id off:Nat} (hp:ρ y= .ptr id off) {x:Value} (hx:(execOp η o).run P w= .ok (.value x) w):w.cell? (ad (I id).1 ((I id).2+off))=J x:=by
 obtain ⟨dst,dP,ty,pos,after,guard⟩:=o;cases dP<;>simp [E8] at hc;rename_i t x';have h1:=hρ _ _ hc.1;have ha:dB P t=J F:=by simp_all [tv]
 simp [k8,hp] at h;rw [hp] at h1;simp [VR] at h1;split at h
 next u hu=>
  obtain ⟨_,xs,g1,_,g3,g4⟩:=hH.rd hu V;obtain ⟨z,rfl⟩:∃z,xs=[z]:=by
   match xs,g1 with
   |[z],_=>simp_all
  have hz:=g3 0 z rfl;simp_all [execOp,Instr.loadAt,Instr.sureAddr,loadVar,cq]
 .cases h
def Ao (P:Program)(idle:FuncId->Bool)(A6:Option Nat)(X:Cx)(l:J2)(S:Nat->Prop)(entry:Nat)(st:I5)(a:Act)(w:World)(G:Gh)(I:S8)(N:Nat->Prop)(st' :I5)(k:Nat)(o:Oper)(op:s8)(a' :Act)(w' :World):Prop :=
 ∃x ds G' I' N',ir X st a w I op x/\a' =({ a with defers:=ds }:Act).put o.dst x/\(ds=a.defers\/∃d,ds=d::a.defers/\Io P idle d)/\vV A6 X l S entry st a w G I N st' k x w' G' I' N'
def KB {E:Env}(OK:oM P E.cf E.prom)(gG:∀f args H lm r,E.cf f args H lm=J r->V3 P f=W)(hE:E.lim=l)(h:RI X l S st a w G I N)(hpv:PV X j8 S st a w I)(hT:O st.T=O X.names)
  (eD:∀id,N id->id<O st.H) (hb:l.base<=O st.H) (hs:l.strict<=l.base) (hD:∀j,d8 j=W->S j) {k:Nat} (hk:¬ S k) (aX:k<O st.L) {o:Oper} {op:s8} (hc:aJ P (X.ck d8) o op=W)
  {A6:Option Nat} (hid:op.y7=W->zB l st N A6) {rs:List Nat} (he:B8 E j8 A6 k op st=J (st',rs)) :
  cG P o a w (Ao P E.idle A6 X l S E.entry st a w G I N st' k o op):=by
 have hρ:=h.R1 hD;have fin:∀{x:Value} {w' :World} {G' :Gh} {I' :S8} {N' :Nat->Prop},ir X st a w I op x->vV A6 X l S E.entry st a w G I N st' k x w' G' I' N' ->Ao P E.idle A6 X l S E.entry st a w G I N st' k o op (a.put o.dst x) w' :=
  λ{x w' G' I' N'} hF hS=>⟨x,a.defers,G',I',N',hF,rfl,Or.inl rfl,hS⟩
 have VG:∀{v:c7} {rs:List Nat},(∀y,op≠ .S0 y)->E8 P (X.ck d8) o op=W->k8 (G7 st.T st.L) st.H op=J (v,rs)->st' =put st k v->cG P o a w (Ao P E.idle A6 X l S E.entry st a w G I N st' k o op):=by
  intro v rs hm h1 h2 h3;subst h3;obtain ⟨x,g1,g2⟩:=NB (P:=P) (λv=>by rfl) hρ h.H h1 h2;refine cG.value g1 (fin ⟨λs t e=>absurd e (hm _),λy id off e hp=>?_⟩ (vV.kQ eD (cu.same h hk aX E.entry g2.place)));subst e;exact Su hρ h.H h1 h2 (ZI hp) g1
 have ID:(∀y,op≠ .S0 y)->(∀n y,op≠ .load n y)->∀(f:FuncId) (args:List c7) (K8:Array Value),K1 G I N w args K8.toList->C9 E k f args st=J st' ->(execOp a.eval o).run P w=(callFunc f K8).run P w->cG P o a w (Ao P E.idle A6 X l S E.entry st a w G I N st' k o op):=by
  intro hm hl f args K8 h1 h2 h3;have hcan:V3 P f=W:=by
   unfold C9 at h2;split at h2
   .split at h2
    next Jj=>
     exact gG f _ _ _ _ Jj
    .cases h2
   .simp only at h2
    split at h2
    .split at h2
     .split at h2
      next Jj=>
       exact gG f _ _ _ _ Jj
      .cases h2
     .split at h2
      next Jj=>
       exact gG f _ _ _ _ Jj
      .cases h2
     .split at h2
      next Jj=>
       exact gG f _ _ _ _ Jj
      .cases h2
    .cases h2
  refine cG.enter (f:=f) (args:=K8) (by rw [h3];exact uQ hcan K8) ?_;refine Calls.mono (RN OK hE h eD hb hs hk aX E.entry h1 h2) ?_;rintro e w' ⟨x,G',I',N',rfl,hC⟩;exact ⟨x,rfl,fin (ir.other hm hl) ⟨hC.mid,hC.bT,λid hlt hid=>Or.inl (hC.old id hlt hid)⟩⟩
 unfold B8 at he;cases op
 case S0 y =>
  simp only [s8.B7,j5,if_false] at he;cases he;simp only [aJ] at hc;have key:∀x,X.ck d8 x y=W->(execOp a.eval o).run P w= .ok (.value (a.eval x)) w->cG P o a w (Ao P E.idle A6 X l S E.entry st a w G I N (put (F6 st y).2 k (F6 st y).1) k o (.S0 y)):=by
   intro x hx hrun;obtain ⟨G1,hX⟩:=h.F6 hD hx (pl:= .loc k) U;have hM:=cu.same hX.ri hk (by rw [Cu];exact aX) E.entry hX.val;exact cG.value hrun (fin ⟨λs t e hn=>by cases e;simp only [Cx.ck] at hx;split at hx<;>simp_all [Act.eval],λ_ _ _ e=>by cases e⟩ (vV.kQ eD (cu.pre hX.ext hX.keeps hX.obj (xg st y) hM)))
  obtain ⟨dst,dP,ty,pos,after,guard⟩:=o;cases dP<;>simp only [wm] at hc<;>try (cases hc;done)
  .exact key _ hc (by simp [execOp])
  .exact key _ hc (by simp [execOp])
 case alloc zero =>
  simp only [s8.B7,if_true,D3] at he;cases he;have h1:=hid rfl;obtain ⟨x,w',G',I',N',g1,g2,g3⟩:=Sy h hk aX E.entry h1 (by simpa [aJ] using hc);exact cG.value g1 (fin (ir.other U U) (vV.Sx eD h1.inside g2 g3))
 case box y =>
  simp only [s8.B7,if_true,D3] at he;split at he
  next hcs=>
   split at hcs
   next cs oJ=>
    cases hcs;cases he;have h1:=hid rfl;obtain ⟨x,w',G',I',N',g1,g2,g3⟩:=Zi h hρ hk aX E.entry h1 (by simpa [aJ] using hc) oJ;exact cG.value g1 (fin (ir.other U U) (vV.Sx eD h1.inside g2 g3))
   .cases hcs
  .cases he
 case sP d =>
  simp only [s8.B7,if_true,D3] at he;cases he;simp only [aJ] at hc;have key:∀x,X.ck d8 x (.const (.d d))=W->(execOp a.eval o).run P w= .ok (.value (a.eval x)) w->cG P o a w (Ao P E.idle A6 X l S E.entry st a w G I N (put st k (.d d)) k o (.sP d)):=by
   intro x hx hrun;have g2:VR G I N w .none (.d d) (a.eval x):=hρ x _ hx;exact cG.value hrun (fin (ir.other U U) (vV.kQ eD (cu.same h hk aX E.entry g2.place)))
  obtain ⟨dst,dP,ty,pos,after,guard⟩:=o;cases dP<;>simp only [wm] at hc<;>try (cases hc;done)
  .exact key _ hc (by simp [execOp])
  .exact key _ hc (by simp [execOp])
 case own sz y =>
  simp only [s8.B7,if_true,D3] at he;split at he
  next hcs=>
   split at hcs
   next len cells st1 ht=>
    cases hcs;cases he;simp only [aJ] at hc;have key:∀x,X.ck d8 x y=W->(execOp a.eval o).run P w= .ok (.value (a.eval x)) w ->
      cG P o a w (Ao P E.idle A6 X l S E.entry st a w G I N (put st1 k (.own sz len cells)) k o (.own sz y)):=by
     intro x hx hrun;obtain ⟨G1,Jh⟩:=rX h hpv hT hD hk hx (hE ▸ ht);exact cG.value hrun (fin (ir.other U U) (vV.kQ eD (cu.Zo Jh (cu.same Jh.ri hk (by rw [Jh.L];exact aX) E.entry Jh.val))))
    obtain ⟨dst,dP,ty,pos,after,guard⟩:=o;cases dP<;>simp only [wm] at hc<;>try (cases hc;done)
    .exact key _ hc (by simp [execOp])
    .exact key _ hc (by simp [execOp])
   .cases hcs
  .cases he
 case makeMap =>
  simp only [s8.B7,if_true,D3] at he;cases he;have h1:=hid rfl;obtain ⟨x,w',G',I',N',g1,g2,g3⟩:=Zj (P:=P) h hk aX E.entry h1 (by simpa [aJ] using hc);exact cG.value g1 (fin (ir.other U U) (vV.Sx eD h1.inside g2 g3))
 case iY sz zero x y =>
  simp only [s8.B7,if_true,D3] at he;split at he
  next hcs=>
   split at hcs
   next n hn=>
    cases hcs;cases he;have h1:=hid rfl;obtain ⟨x,w',G',I',N',g1,g2,g3⟩:=Sz h hρ hk aX E.entry h1 (by simpa [aJ] using hc) hn;exact cG.value g1 (fin (ir.other U U) (vV.Sx eD h1.inside g2 g3))
   .cases hcs
  .cases he
 case J8 sz len zero parts ob =>
  cases ob with
  |false =>
   simp only [s8.B7,j5,if_false] at he;split at he
   next v rs' hp=>
    cases he;obtain ⟨x,w',G',g1,g2⟩:=SA h hρ hk aX E.entry (by simpa [aJ] using hc) hp;exact cG.value g1 (fin (ir.other U U) (vV.kQ eD g2))
   .cases he
  |true =>
   simp only [s8.B7,if_true,D3] at he;split at he
   next hcs=>
    split at hcs
    next cs oJ=>
     split at hcs
     next hl=>
      cases hcs;cases he;have h1:=hid rfl;obtain ⟨x,w',G',I',N',g1,g2,g3⟩:=Hv h hρ hk aX E.entry h1 (by simpa [aJ] using hc) oJ hl.2;exact cG.value g1 (fin (ir.other U U) (vV.Sx eD h1.inside g2 g3))
     .cases hcs
    .cases hcs
   .cases he
 case store n x y =>
  simp only [s8.B7,if_true,D3] at he;split at he
  next hst=>
   cases he;obtain ⟨w',G',g1,g2⟩:=RP h hD hk aX E.entry (by simpa [aJ] using hc) hE hst;exact cG.skip g1 (fin (ir.other U U) (vV.kQ eD g2))
  .cases he
 case K3 sz bytes x y =>
  simp only [aJ] at hc;have h1:zB l st N K:=⟨λh=>Nat.lt_irrefl _ (eD _ h),λ_ e=>(by cases e),hb,s5 hs hb⟩;simp only [s8.B7,if_true] at he;split at he
  next hst=>
   cases he;simp only [D3] at hst;obtain ⟨s,hs2,rfl⟩:=oQ hst;split at hs2
   next id z lo len hx=>
    split at hs2
    next hz=>
     subst hz;obtain ⟨v,w',G',I',g1,g2⟩:=Du h hD hk aX E.entry h1 hc hE hx hs2;have hlen:O st.H<O s.H:=by
      unfold U9 at hs2;split at hs2
      .split at hs2
       .split at hs2
        .cases hs2
         simp [put,E1]
        .cases hs2
       .cases hs2
      .cases hs2
     refine cG.value g1 (fin (ir.other U U) ⟨g2.l6 _,λid hid=>?_,λid hlt hid=>?_⟩)
     .rcases hid with hid|rfl
      .exact Nat.lt_of_lt_of_le (eD id hid) g2.len
      .exact hlen
     .rcases hid with hid|rfl
      .exact Or.inl hid
      .exact absurd hlt (Nat.lt_irrefl _)
    .cases hs2
   .rcases rN h hpv hT hD hk aX E.entry h1 hc hE hs2 with ⟨v,w',G',g1,g2⟩|⟨v,w',G',I',N',ob,av,g1,rfl,g2,g3⟩
    .exact cG.value g1 (fin (ir.other U U) (vV.kQ eD (g2.l6 _)))
    .refine cG.value g1 (fin (ir.other U U) ⟨g2.l6 _,λid hid=>?_,λid hlt hid=>?_⟩)
     .rcases (g3 id).1 hid with hid|rfl
      .exact Nat.lt_of_lt_of_le (eD id hid) g2.len
      .simp [put,E1,newId]
     .rcases (g3 id).1 hid with hid|rfl
      .exact Or.inl hid
      .exact absurd hlt (Nat.lt_irrefl _)
  .cases he
 case append sz bytes ob x y =>
  simp only [aJ] at hc;simp only [s8.B7,if_true,D3] at he;split at he
  next hst=>
   cases he;split at hst
   next id z lo len hx=>
    split at hst
    next hz=>
     subst hz;obtain ⟨v,w',G',I',g1,g2⟩:=Dv h hD hk aX hc hE hx hst;exact cG.value g1 (fin (ir.other U U) (vV.kQ eD g2))
    .cases hst
   .cases ob with
    |false =>
     obtain ⟨v,w',G',g1,g2⟩:=MS h hpv hT hD hk aX E.entry hc hE hst;exact cG.value g1 (fin (ir.other U U) (vV.kQ eD g2))
    |true =>
     have h1:=hid rfl
     rcases rN h hpv hT hD hk aX E.entry h1 hc hE hst with ⟨v,w',G',g1,g2⟩|⟨v,w',G',I',N',ob,av,g1,rfl,g2,g3⟩
     .exact cG.value g1 (fin (ir.other U U) (vV.kQ eD g2))
     .exact cG.value g1 (fin (ir.other U U) (vV.Sx eD h1.inside g2 g3))
  .cases he
 case dF kk m ky v =>
  simp only [s8.B7,if_true,D3] at he;split at he
  next hst=>
   cases he;obtain ⟨w',g1,g2⟩:=MT h hD hk aX E.entry (by simpa [aJ] using hc) hE hst;exact cG.skip g1 (fin (ir.other U U) (vV.kQ eD g2))
  .cases he
 case call f ys =>
  simp only [s8.B7,if_true,D3] at he;split at he
  next hst=>
   cases he;simp only [aJ,Aa] at hc;split at hc
   next f' args _ g ys' hop heq=>
    cases heq;simp only [c9,beq_iff_eq] at hc;obtain ⟨⟨rfl,hcs⟩,hcan⟩:=hc;refine ID U U f' (ys.map (G7 st.T st.L)) (args.map a.eval) (by simpa using jD hρ _ _ hcs) hst ?_;simp [execOp,hop,resolve,Act.eval,Deferred.ofValue,invoke]
   .rename_i heq;cases heq
   .cases hc
  .cases he
 case X9 y ys =>
  simp only [s8.B7,if_true,D3] at he;split at he
  next hst=>
   cases he;simp only [aJ,Aa] at hc;split at hc
   .rename_i heq;cases heq
   next x args _ y' ys' hop heq=>
    cases heq;simp only [c9] at hc;have hv:=hρ _ _ hc.1;split at hst
    next f first caps hy=>
     rw [hy] at hv;simp only [VR] at hv;obtain ⟨vf,vc,e1,e2,e3⟩:=hv;refine ID U U f (first++ys.map (G7 st.T st.L)++caps) (vf++args.map a.eval++vc) ?_ hst ?_
     .simp only [Array.toList_append,Array.toList_map]
      exact sK (sK e2 (jD hρ _ _ hc.2)) e3
     .simp [execOp,hop,resolve,e1,Deferred.ofValue,invoke]
    .cases hst
   .cases hc
  .cases he
 case defer y =>
  simp only [s8.B7,if_true,D3] at he;split at he
  next hst=>
   cases he;simp only [aJ,IK] at hc;split at hc
   next x args _ y' hop heq=>
    cases heq;simp only [c9] at hc;have hv:=hρ _ _ hc.1;split at hst
    next f first caps hy=>
     split at hst
     next Ey=>
      cases hst;rw [hy] at hv;simp only [VR] at hv;obtain ⟨vf,vc,e1,e2,e3⟩:=hv;have hrun:(execOp a.eval o).run P w= .ok (.defer { target:= .fn (.func f) vc,args:=vf++args.map a.eval }) w:=by
       simp [execOp,hop,resolve,e1,Deferred.ofValue]
      refine cG.defer hrun ⟨undef,_,G,I,N,ir.other U U,rfl,Or.inr ⟨_,rfl,f,vc,rfl,Ey⟩,vV.kQ eD (cu.same h hk aX E.entry (by simp [VR]))⟩
     .cases hst
    .cases hst
   .cases hc
  .cases he
 case clear sz zero y =>
  simp only [s8.B7,if_true,D3] at he;split at he
  next hst=>
   cases he;obtain ⟨w',g1,g2⟩:=RO h hD hk aX E.entry (by simpa [aJ] using hc) hE hst;exact cG.value g1 (fin (ir.other U U) (vV.kQ eD g2))
  .cases he
 case bad=>simp [s8.B7,k8] at he
 all_goals
  simp only [s8.B7,j5,if_false] at he;split at he
  next hp=>
   cases he;exact VG U (by simpa only [aJ] using hc) hp rfl
  .cases he
end
end Go.A5
namespace Go.A5
variable [E3]
def pg (names:List Tmp):Option Tmp->Option Nat->Bool
 |none,K=>W
 |some d,K=> !names.contains d
 |some d,J s=>names[s]? ==J d
 |none,J _=>F
def pq (X:Cx)(d8:Nat->Bool):Option (Nat×Bool)->Option (Nat×Bool)->Bool
 |none,K=>W
 |some (g,b),J (g',b')=>g==g' &&b==b' &&d8 g&&(match (X.ops[g]?).bind (·.dst) with
  |some d=> !X.names.contains d
  |none=>F)
 |_,_=>F
def sN (X:Cx)(d8:Nat->Bool)(o:Oper)(i:o3):Bool :=
 aJ X.P (X.ck d8) o i.op&&pg X.names o.dst i.dst&&pq X d8 o.guard i.guard
structure Stat (X:Cx)(nt:Nat):Prop where
 dup:∀(i j:Nat) d,(X.ops[i]?).bind (·.dst)=J d->(X.ops[j]?).bind (·.dst)=J d->X.names.contains d=F->i=j
 lt:∀(i:Nat) d,(X.ops[i]?).bind (·.dst)=J d->d<nt
 nod:∀(s s' :Nat) t,X.names[s]? =J t->X.names[s']? =J t->s=s'
def xw (X:Cx)(S:Nat->Prop):y4->Prop
 | .loc m=>S m/\∃t,(X.ops[m]?).bind (·.dst)=J t/\X.names.contains t=F
 | .slot s=>∃t,X.names[s]? =J t
 | .const _=>True
structure Rg (X:Cx)(j8:List o3)(E:Env)(nt:Nat)(S:Nat->Prop)(st:I5)(a:Act)(w:World)(G:Gh)(I:S8)(N:Nat->Prop):Prop where
 ri:RI X E.lim S st a w G I N
 pv:PV X j8 S st a w I
 cl:∀(j:Nat) ai y,S j->j8[j]? =J ai->ai.op=s8.load K y->xw X S y
 Y8:O st.T=O X.names
 jT:O st.L=O j8
 bT:∀id,N id->id<O st.H
 He:E.entry<=O st.H
 size:a.tmps.size=nt
 idle:∀d,d∈a.defers->Io X.P E.idle d
structure bg (E:Env)(H0:j9)(w0:World)(G0:Gh)(I0:S8)(N0:Nat->Prop)(H:j9)(w:World)(G:Gh)(I:S8)(N:Nat->Prop):Prop where
 ext:Ext G0 w0 G w
 dQ:mh E.lim G0 w0 G w
 inj:∀id,id<E.entry->N0 id->I id=I0 id
 mono:∀id,id<E.entry->N0 id->N id
 old:∀id,id<E.entry->N id->N0 id
 hle:∀(id:Nat) (o' :x4),id<E.lim.base->H[id]? =J o' ->o'.J4<=id+1\/∃o:x4,H0[id]? =J o/\o'.J4<=o.J4
theorem bg.refl (E:Env)(H:j9)(w:World)(G:Gh)(I:S8)(N:Nat->Prop):bg E H w G I N H w G I N :=
 ⟨Ext.refl _ _,mh.refl _ _ _,λ_ _ _=>rfl,λ_ _ h=>h,λ_ _ h=>h,λ_ o _ h=>Or.inr ⟨o,h,k9 _⟩⟩
theorem bg.trans {E:Env}{H0 H1 H2:j9}{w0 w1 w2:World}{G0 G1 G2:Gh}{I0 I1 I2:S8}{N0 N1 N2:Nat->Prop}
  (h:bg E H0 w0 G0 I0 N0 H1 w1 G1 I1 N1) (k:bg E H1 w1 G1 I1 N1 H2 w2 G2 I2 N2):bg E H0 w0 G0 I0 N0 H2 w2 G2 I2 N2 where
 ext:=h.ext.trans k.ext
 dQ:=h.dQ.trans k.dQ
 inj id hid hN:=(k.inj id hid (h.mono id hid hN)).trans (h.inj id hid hN)
 mono id hid hN:=k.mono id hid (h.mono id hid hN)
 old id hid hN:=h.old id hid (k.old id hid hN)
 hle id o' hb ho:=by
  rcases k.hle id o' hb ho with h1|⟨o1,h1,h2⟩
  .omega
  .rcases h.hle id o1 hb h1 with h3|⟨o,h3,h4⟩
   all_goals grind
section
variable {X:Cx} {j8:List o3} {E:Env} {nt:Nat} {S:Nat->Prop} {st st1 st2:I5} {a:Act} {w w' :World} {G G' :Gh} {I I' :S8} {N N' :Nat->Prop} {d8:Nat->Bool}
def Rg.bu4 (h:Rg X j8 E nt S st a w G I N){y:y4}(hy:xw X S y){id off:Nat}(hp:bU st y=J (id,off)):N id:=by
 unfold bU at hp;split at hp
 next m=>
  split at hp
  .obtain ⟨h1,t,h2,h3⟩:=hy
   have:=h.ri.L m h1 t h2 h3;simp_all [bN,VR]
  .cases hp
 next s=>
  split at hp
  .cases hp
  .split at hp
   .obtain ⟨t,ht⟩:=hy
    have:=h.ri.T s t ht;simp_all [bN,VR]
   .cases hp
 .cases hp
theorem U3 {A6:Option Nat}{k:Nat}{dst:Option Nat}(h:s7 A6 st1 k dst=J st2) :
  (dst=K/\st2=st1)\/∃s l6,dst=J s/\s<O st1.T/\st2={ (F6 st1 (.loc k)).2 with T:=st1.T.set s (F6 st1 (.loc k)).1,l6 }/\(l6= .slot s::st1.l6\/(l6=st1.l6/\st1.l6.any (Touch.U8 s)=W)):=by
 unfold s7 at h;split at h
 .simp_all [E2]<;>grind
 .cases dst with
  |none=>cases h;simp_all
  |some s =>
   grind [V4,F6]
theorem Cl {A6:Option Nat}{k:Nat}{dst:Option Nat}(h:s7 A6 st1 k dst=J st2)(p:Touch->Bool)(hp:st1.l6.any p=W):st2.l6.any p=W:=by
 rcases U3 h with ⟨_,rfl⟩|⟨s,l6,_,_,rfl,rfl|⟨rfl,_⟩⟩
 all_goals simp_all
theorem Cj {A6:Option Nat}{k s:Nat}{dst:Option Nat}(h:s7 A6 st1 k dst=J st2)(hd:dst=J s):st2.l6.any (Touch.U8 s)=W:=by
 grind [U3,Touch.U8]
def qq {A6:Option Nat}{k:Nat}{dst:Option Nat}(h:s7 A6 st1 k dst=J st2):st2.H=st1.H:=by
 grind [U3,xg]
def KN {A6:Option Nat}{k:Nat}{dst:Option Nat}(h:s7 A6 st1 k dst=J st2):O st2.L=O st1.L:=by
 grind [U3,Cu]
def KO {A6:Option Nat}{k:Nat}{dst:Option Nat}(h:s7 A6 st1 k dst=J st2):O st2.T=O st1.T:=by
 grind [U3]
theorem oh (st:I5)(k m:Nat)(h:m≠k):(F6 st (.loc k)).2.L[m]? =st.L[m]? :=by
 simp only [F6];split
 .simp only
  rw [x3 (λe=>h e.symm)]
 .rfl
 .rfl
theorem KM {A6:Option Nat}{k:Nat}{dst:Option Nat}(h:s7 A6 st1 k dst=J st2){m:Nat}(hm:m≠k):st2.L[m]? =st1.L[m]? :=by
 grind [U3,oh]
def NQ {A6:Option Nat}{k:Nat}{dst:Option Nat}(h:s7 A6 st1 k dst=J st2){y:y4}(hy:∀m,y= .loc m->m≠k){id off:Nat}(hp:bU st2 y=J (id,off)):bU st1 y=J (id,off):=by
 cases y with
 |const v=>exact hp
 |loc m =>
  grind [bU,KM]
 |slot s' =>
  simp only [bU] at hp ⊢;split at hp
  .cases hp
  .have hn' :st2.l6.any (Touch.U8 s')=F:=M
   rw [if_neg (by grind [jX,Cl])]
   grind [Cj,U3,x3]
def Tr.ptr {k:Nat}(h:Tr N k st st1){y:y4}(hy:∀m,y= .loc m->m≠k){id off:Nat}(hp:bU st1 y=J (id,off)):bU st y=J (id,off):=by
 cases y with
 |const v=>exact hp
 |loc m =>
  simp [bU] at hp ⊢;split at hp
  next hl=>
   cases hp;rw [h.L m _ _ (hy m rfl) hl]
  .cases hp
 |slot s =>
  simp only [bU] at hp ⊢;split at hp
  .cases hp
  .rw [if_neg (by rw [jX h.l6 M];simp)]
   split at hp
   next hl=>
    cases hp;rw [h.T s _ _ hl]
   .cases hp
def cn {d:Tmp}{x:Value}(h:d<a.tmps.size):(a.put (J d) x).tmps.getD d undef=x:=by
 simp [Act.put,h]
def ak {dst:Option Tmp}{t:Tmp}{x:Value}(h:dst≠J t):(a.put dst x).tmps.getD t undef=a.tmps.getD t undef:=by
 simp_all [Act.put]<;>grind
def size_put {dst:Option Tmp}{x:Value}:(a.put dst x).tmps.size=a.tmps.size:=by
 cases dst<;>simp [Act.put]
def nF {dst:Option Tmp}{x:Value}:(a.put dst x).defers=a.defers:=by
 cases dst<;>simp [Act.put]
theorem RI.defers {l:J2}{ds:List Deferred}(h:RI X l S st a w G I N):RI X l S st { a with defers:=ds } w G I N :=
 ⟨h.T,h.L,h.H,h.wf,h.W1⟩
def RI.after {l:J2}(hst:Stat X nt)(hsz:a.tmps.size=nt)(hT:O st1.T=O X.names){k:Nat}(hk:¬ S k)(aX:k<O st1.L){o:Oper}(ho:X.ops[k]? =J o){dst:Option Nat}(hd:pg X.names o.dst dst=W)
  (h:RI X l S st1 a w G I N) {x:Value} (hv:VR G I N w (.loc k) (st1.L.getD k .any) x) {A6:Option Nat} (hts:s7 A6 st1 k dst=J st2) :
  ∃G',Ext G w G' w/\(∀id off,bE (.cell id off) G w G' w)/\(∀b id,G b= .obj id->G' b= .obj id)/\RI X l (λj=>S j\/j=k) st2 (a.put o.dst x) w G' I N:=by
 have xP:(X.ops[k]?).bind (·.dst)=o.dst:=by rw [ho];rfl
 rcases U3 hts with ⟨rfl,rfl⟩|⟨s,aY,rfl,hs,rfl,_⟩
 .have Hl:∀d,o.dst=J d->X.names.contains d=F:=by
   intro d hd';rw [hd'] at hd;simpa [pg] using hd
  refine ⟨G,Ext.refl _ _,λ_ _ _ _ h=>⟨h,rfl⟩,λ_ _ h=>h,?_,?_,h.H,h.wf,h.W1⟩
  .intro s t ht
   rw [ak ?_]
   .exact h.T s t ht
   .intro e
    have h1:=Hl t e;have h2:t∈X.names:=List.mem_of_getElem? ht;simp [h2] at h1
  .intro j hj d Dg hjn
   rcases hj with hj|rfl
   .rw [ak ?_]
    .exact h.L j hj d Dg hjn
    .intro e
     have:=hst.dup j k d Dg (by rw [xP];exact e) hjn;subst this;exact hk hj
   .rw [xP] at Dg
    rw [Dg,cn (by rw [hsz];exact hst.lt j d (by rw [xP];exact Dg))];exact hv
 .·cases hod:o.dst with
   |none=>rw [hod] at hd;simp [pg] at hd
   |some d =>
    rw [hod] at hd;have eD:X.names[s]? =J d:=by simpa [pg] using hd
    have hdn:X.names.contains d=W:=by
     have:d∈X.names:=List.mem_of_getElem? eD;simp [this]
    have bi6:d<a.tmps.size:=by rw [hsz];exact hst.lt k d (by rw [xP];exact hod)
    have main:∀(v:c7) (st3:I5) (G' :Gh),kE (.loc k) G w G' ->VR G' I N w (.slot s) v x->st3.H=st1.H->(∀m,m≠k->st3.L[m]? =st1.L[m]?)->st3.T=st1.T.set s v ->
      RI X l (λj=>S j\/j=k) st3 (a.put (J d) x) w G' I N:=by
     intro v st3 G' hm YS hH hL hT3;refine ⟨?_,?_,?_,hm.wf h.wf,?_⟩
     .intro s' t ht
      rw [hT3]
      by_cases he:s' =s
      .subst he
       rw [eD] at ht;cases ht;rw [O3 _ _ _ _ hs,cn bi6];exact YS
      .rw [P4 _ _ _ _ _ (λe=>he e.symm),ak (λe=>he (hst.nod s' s t ht (by rw [eD,<- Option.some_inj.1 e])))]
       exact VR.mono hm.ext (λ_ _=>rfl) (λ_ h=>h) _ _ _ (Or.inr (hm.keeps _ U)) (h.T s' t ht)
     .intro j hj d' Dg hjn
      have hjk:S j:=by
       rcases hj with hj|rfl
       .exact hj
       .rw [xP,hod] at Dg;cases Dg;rw [hdn] at hjn;cases hjn
      have hne:j≠k:=by rintro rfl;exact hk hjk
      have e1:st3.L.getD j .any=st1.L.getD j .any:=by simp only [List.getD,hL j hne]
      rw [e1,ak (λe=>by cases e;rw [hdn] at hjn;cases hjn)];exact VR.mono hm.ext (λ_ _=>rfl) (λ_ h=>h) _ _ _ (Or.inr (hm.keeps _ (by simp;exact hne))) (h.L j hjk d' Dg hjn)
     .rw [hH];exact h.H.JL hm U
     .rw [hH];exact h.W1
    by_cases hown:∃z n c,st1.L[k]? =J (.own z n c)
    .obtain ⟨z,n,c,ad0⟩:=hown
     rw [bN ad0] at hv;obtain ⟨G',hm,YS⟩:=jZ (zP := .slot s) U hv;refine ⟨G',hm.ext,λid off=>hm.keeps _ U,hm.obj,?_⟩;have e1:(A5.F6 st1 (.loc k)).1= .own z n c:=by simp only [A5.F6,ad0]
     exact main (.own z n c) _ G' hm YS (xg _ _) (λm hm=>oh st1 k m hm) (by simp only [e1])
    .by_cases hnil:st1.L[k]? =J .N7
     .have e1:A5.F6 st1 (.loc k)=(.N7,st1):=by simp only [A5.F6,hnil]
      refine ⟨G,Ext.refl _ _,λ_ _ _ _ h=>⟨h,rfl⟩,λ_ _ h=>h,?_⟩;refine main .N7 _ G (kE.refl _ _ _) ?_ (xg _ _) (λm hm=>oh st1 k m hm) (by simp only [e1]);rw [bN hnil] at hv;simpa only [VR] using hv
     .have e1:A5.F6 st1 (.loc k)=(G7 st1.T st1.L (.loc k),st1):=by
       simp only [A5.F6];split
       .rename_i z n c hj;exact absurd ⟨z,n,c,hj⟩ hown
       .rename_i hj;exact absurd hj hnil
       .rfl
      refine ⟨G,Ext.refl _ _,λ_ _ _ _ h=>⟨h,rfl⟩,λ_ _ h=>h,?_⟩;refine main (G7 st1.T st1.L (.loc k)) _ G (kE.refl _ _ _) ?_ (xg _ _) (λm hm=>oh st1 k m hm) (by simp only [e1]);simp only [G7];exact hv.K9
def PV.after (hst:Stat X nt)(hR:Rg X j8 E nt S st a w G I N){k:Nat}(hk:¬ S k){o:Oper}(ho:X.ops[k]? =J o){i:o3}(hi:j8[k]? =J i)(hd:pg X.names o.dst i.dst=W)
  (hcl:∀y,i.op= .load K y->xw X S y) (htr:Tr N k st st1) {A6:Option Nat} (hts:s7 A6 st1 k i.dst=J st2) {x:Value} {ds:List Deferred}
  (hko:∀id,N id->st1.l6.any (Touch.F7 id)=F->I' id=I id/\∀b,G b= .obj id->w'.heap[b]? =w.heap[b]?)
  (hf:st2.L[k]? =J (.tuple [])\/ir X st a w I i.op x):PV X j8 (λj=>S j\/j=k) st2 ({ a with defers:=ds }.put o.dst x) w' I' :=by
 have xP:(X.ops[k]?).bind (·.dst)=o.dst:=by rw [ho];rfl
 have XZ:∀j,j≠k->st2.L[j]? ≠J (.tuple [])->st.L[j]? ≠J (.tuple []):=by
  intro j hj h1 h2;rw [KM hts hj] at h1;exact h1 (htr.XZ j hj h2)
 have aq0:∀p,st2.l6.any p=F->st.l6.any p=F/\st1.l6.any p=F:=by
  intro p hp;have h1:=jX (Cl hts) hp;exact ⟨jX htr.l6 h1,h1⟩
 have VX:∀(s:Nat) t,X.names[s]? =J t->st2.l6.any (Touch.U8 s)=F->o.dst≠J t:=by
  intro s t ht hh e;rw [e] at hd;cases hdi:i.dst with
  |none =>
   grind [List.mem_of_getElem?,pg]
  |some s' =>
   rw [hdi] at hd hts;have h1:X.names[s']? =J t:=by simp_all [pg]
   have:=hst.nod s s' t ht h1
   grind [Cj]
 have OB:∀(j:Nat) d,S j->(X.ops[j]?).bind (·.dst)=J d->X.names.contains d=F->o.dst≠J d:=by
  intro j d hj Dg hjn e;have:=hst.dup j k d Dg (by grind) hjn
  grind
 have II:∀y id off l0,xw X S y->bU st2 y=J (id,off)->st2.H[id]? =J (.cells l0)->off<O l0->st2.l6.any (Touch.aO id off)=F ->
   bU st y=J (id,off)/\st.l6.any (Touch.aO id off)=F/\(∃l,st.H[id]? =J (.cells l)/\off<O l)/\w'.cell? (ad (I' id).1 ((I' id).2+off))=w.cell? (ad (I id).1 ((I id).2+off)):=by
  intro y id off l0 hy hp hH hoff hh;have hym:∀m,y= .loc m->m≠k:=by
   rintro m rfl rfl;exact hk hy.1
  have hp1:=NQ hts hym hp;have hp0:=htr.ptr hym hp1;have hN:=hR.bu4 hy hp0;have YM:st1.l6.any (Touch.F7 id)=F:=by
   cases he:st1.l6.any (Touch.F7 id) with
   |false=>rfl
   |true =>
    rw [List.any_eq_true] at he;obtain ⟨t,ht,hth⟩:=he;have:st1.l6.any (Touch.aO id off)=W:=by
     rw [List.any_eq_true];refine ⟨t,ht,?_⟩;cases t<;>simp only [Touch.F7,Touch.aO] at hth ⊢<;>first|exact hth|cases hth
    grind
  rw [qq hts] at hH;obtain ⟨l,hl,hle⟩:=htr.H id l0 hN YM hH;have hO:=hR.ri.H id _ hl
  grind [OR,World.cell?]
 refine ⟨?_,?_⟩
 .intro j ai s t d hj hsk hai hop ht Dg hjn hh
  rw [ak (VX s t ht hh)]
  rcases hj with hj|rfl
  .rw [ak (OB j d hj Dg hjn)]
   exact hR.pv.slot j ai s t d hj (XZ j (by grind) hsk) hai hop ht Dg hjn (aq0 _ hh).1
  .rw [hi] at hai;cases hai
   rw [xP] at Dg;rw [Dg,cn (by simp only;rw [hR.size];exact hst.lt j d (by grind))]
   rcases hf with hf|hf
   .grind
   .exact hf.S0 s t hop ht
 .intro j ai y id off d l0 hj hsk hai hop hp hH hoff hh Dg hjn
  rcases hj with hj|rfl
  .have hy:=hR.cl j ai y hj hai hop
   obtain ⟨h1,h2,⟨l,h3,h4⟩,h5⟩:=II y id off l0 hy hp hH hoff hh;rw [ak (OB j d hj Dg hjn),h5];exact hR.pv.cell j ai y id off d l hj (XZ j (by grind) hsk) hai hop h1 h3 h4 h2 Dg hjn
  .rw [hi] at hai;cases hai
   have hy:=hcl y hop;obtain ⟨h1,h2,⟨l,h3,h4⟩,h5⟩:=II y id off l0 hy hp hH hoff hh;rw [xP] at Dg;rw [Dg,cn (by simp only;rw [hR.size];exact hst.lt j d (by grind)),h5]
   rcases hf with hf|hf
   .grind
   .exact hf.load y id off hop h1
end
end Go.A5
namespace Go.A5
variable [E3]
section
variable {X:Cx} {j8:List o3} {E:Env} {nt:Nat} {S:Nat->Prop} {st st1 st2:I5} {a:Act} {w w' :World} {G G' :Gh} {I I' :S8} {N N' :Nat->Prop} {d8:Nat->Bool}
theorem vg (hR:Rg X j8 E nt S st a w G I N)(hD:∀j,d8 j=W->S j){o:Oper}{g:Option (Nat×Bool)}(hc:pq X d8 o.guard g=W){b:Bool}(hw:y9 st.L g=J b):Region.wanted o (yielded X.ops a.tmps)=b:=by
 unfold Region.wanted;cases hg:o.guard with
 |none =>
  grind [y9,pq]
 |some p =>
  obtain ⟨g0,want⟩:=p;rw [hg] at hc;cases g with
  |none=>simp [pq] at hc
  |some q =>
   obtain ⟨g1,bI2⟩:=q;simp only [pq,c9,beq_iff_eq] at hc;obtain ⟨⟨⟨rfl,rfl⟩,hDg⟩,Bj⟩:=hc;cases hd:(X.ops[g0]?).bind (·.dst) with
   |none=>simp_all
   |some d =>
    rw [hd] at Bj;simp only [o5] at Bj;have hv:=hR.ri.L g0 (hD g0 hDg) d hd Bj;have hy:yielded X.ops a.tmps g0=(match a.tmps[d]? with|some (.bool b)=>J b|_=>K):=by
     grind [yielded]
    simp [y9] at hw;split at hw
    .cases hw
     simp_all [VR,DR,bool,undef]<;>grind
    all_goals (simp_all [VR,bool]<;>grind)
structure az2 (X:Cx)(j8:List o3)(E:Env)(nt:Nat)(S:Nat->Prop)(st:I5)(w:World)(G:Gh)(I:S8)(N:Nat->Prop)(k:Nat)(A6:Option Nat)(st2:I5)(a' :Act)(w' :World)(G' :Gh)(I' :S8)(N' :Nat->Prop):Prop where
 rg:Rg X j8 E nt (λj=>S j\/j=k) st2 a' w' G' I' N'
 since:bg E st.H w G I N st2.H w' G' I' N'
 len:O st.H<=O st2.H
 old:∀id,id<O st.H->N' id->N id\/A6=J id
theorem JV (hD:∀j,d8 j=W->S j){x:Operand}{y:y4}(hc:X.ck d8 x y=W):xw X S y:=by
 unfold Cx.ck at hc;split at hc
 .exact ⟨_,by simpa using hc⟩
 .simp only [c9,beq_iff_eq,o5] at hc
  exact ⟨hD _ hc.1.1,_,hc.1.2,hc.2⟩
 .trivial
 .trivial
 .trivial
 .cases hc
theorem JG (hD:∀j,d8 j=W->S j){o:Oper}{n:Option Nat}{y:y4}(hc:aJ X.P (X.ck d8) o (.load n y)=W):xw X S y:=by
 simp [aJ] at hc;obtain ⟨dst,dP,ty,pos,after,guard⟩:=o;cases dP<;>simp [E8] at hc
 grind [JV]
theorem Rg.after (hst:Stat X nt)(hR:Rg X j8 E nt S st a w G I N)(hD:∀j,d8 j=W->S j){k:Nat}(hk:¬ S k)(aX:k<O st.L){o:Oper}(ho:X.ops[k]? =J o){i:o3}(hi:j8[k]? =J i)(hc:sN X d8 o i=W)
  {A6:Option Nat} (hne:∀i,A6=J i->E.entry<=i) (htr:Tr N k st st1) (hts:s7 A6 st1 k i.dst=J st2) {x:Value} {ds:List Deferred} (hds:ds=a.defers\/∃d,ds=d::a.defers/\Io X.P E.idle d)
  (hf:st2.L[k]? =J (.tuple [])\/ir X st a w I i.op x) (hS:vV A6 X E.lim S E.entry st a w G I N st1 k x w' G' I' N') :
  ∃G'',az2 X j8 E nt S st w G I N k A6 st2 ({ a with defers:=ds }.put o.dst x) w' G'' I' N' :=by
 simp [sN,c9] at hc;obtain ⟨⟨hc1,uv⟩,hc3⟩:=hc;have hm:=hS.mid;obtain ⟨G2,e1,e2,e3,e4⟩:=RI.after (l:=E.lim) (a:={ a with defers:=ds }) hst hR.size (by rw [htr.Y8];exact hR.Y8) hk (by rw [htr.jT];exact aX) ho uv hm.ri.defers hm.val hts;have hpv:=PV.after (w' :=w') (I' :=I') (x:=x) (ds:=ds) hst hR hk ho hi uv (λy hy=>JG hD (by simp_all<;>omega)) htr hts (λid hN ht=>by
  obtain ⟨h1,h2⟩:=hm.ko id hN ht;simp_all) hf
 refine ⟨G2,⟨e4,hpv,?_,?_,?_,?_,?_,?_,?_⟩,⟨?_,?_,?_,?_,?_,?_⟩,?_,hS.old⟩
 .intro j ai y hj hai hop
  have lift:xw X S y->xw X (λj=>S j\/j=k) y:=by
   intro h;cases y with
   |loc m=>exact ⟨Or.inl h.1,h.2⟩
   |slot s=>exact h
   |const v=>trivial
  rcases hj with hj|rfl
  .exact lift (hR.cl j ai y hj hai hop)
  grind [JG]
 .rw [KO hts,htr.Y8];exact hR.Y8
 .rw [KN hts,htr.jT];exact hR.jT
 .intro id hid;rw [qq hts];exact hS.bT id hid
 .rw [qq hts];exact s5 hR.He hm.len
 .rw [size_put];exact hR.size
 .rw [nF]
  intro d hd
  rcases hds with rfl|⟨d',rfl,hid⟩
  .exact hR.idle d hd
  .simp [List.mem_cons] at hd
   rcases hd with rfl|hd
   .exact hid
   .exact hR.idle d hd
 .exact hm.ext.trans e1
 .exact hm.dQ.trans λid _=>⟨λb hb=>⟨e3 b id hb,rfl⟩,e2 id⟩
 .intro id hid hN;exact hm.inj id hid hN
 .intro id _ hN;exact hm.mono id hN
 .intro id hid hN
  rcases hS.old id (Nat.lt_of_lt_of_le hid hR.He) hN with h1|h1
  all_goals grind
 .intro id o' hb ho';rw [qq hts] at ho';exact hm.hle id o' hb ho'
 .rw [qq hts];exact hm.len
def yA (hst:Stat X nt)(OK:oM X.P E.cf E.prom)(gG:∀f args H lm r,E.cf f args H lm=J r->V3 X.P f=W)(hs:E.lim.strict<=E.lim.base)(hbe:E.lim.base<=E.entry)(hR:Rg X j8 E nt S st a w G I N)
  (hD:∀j,d8 j=W->S j) {k:Nat} (hk:¬ S k) {o:Oper} (ho:X.ops[k]? =J o) {i:o3} (hi:j8[k]? =J i) (hc:sN X d8 o i=W) {A6:Option Nat} (hid:i.op.y7=W->zB E.lim st N A6) (hne:∀i,A6=J i->E.entry<=i/\i<O st.H)
  {rs:List Nat} (he:y3 E j8 A6 k i st=J (st2,rs)) (a8:Act->World->Prop) (Q:Exit->Act->World->Prop)
  (hK:∀a' w' G' I' N',az2 X j8 E nt S st w G I N k A6 st2 a' w' G' I' N' ->a8 a' w'):wpOp X.P X.ops Q k a8 a w:=by
 have aX:k<O st.L:=by rw [hR.jT];grind
 have tN :=hc;simp [sN,c9] at tN;obtain ⟨⟨hc1,uv⟩,hc3⟩:=tN;unfold wpOp;simp [ho];unfold y3 at he;split at he
 next hw=>
  rw [if_pos (vg hR hD hc3 hw)];split at he
  next st1 rs1 hW=>
   split at he
   next bw7 hts=>
    refine Or.inl ?_;have hrun:=KB (P:=X.P) OK gG rfl hR.ri hR.pv hR.Y8 hR.bT (s5 hbe hR.He) hs hD hk aX hc1 (A6:=A6) hid hW;refine hrun a8 Q ?_;rintro a' w' ⟨x,ds,G',I',N',hF,rfl,hds,hS⟩;have htr:Tr N k st st1:=Tr.B8 hR.bT (λi h=>(hne i h).2) (λha=>(hid ha).new) hW;obtain ⟨G'',hdone⟩:=Rg.after hst hR hD hk aX ho hi hc (λi h=>(hne i h).1) htr hts hds (Or.inr hF) hS
    grind
   .cases he
  .cases he
 .rw [if_neg (by grind [vg])]
  split at he
  next bw7 hts=>
   cases he;have htr:Tr N k st (put st k (.tuple [])):=Tr.put _;have hS:vV A6 X E.lim S E.entry st a w G I N (put st k (.tuple [])) k undef w G I N :=
    vV.kQ hR.bT (cu.same hR.ri hk aX E.entry (by exact ⟨#[],rfl,by simp [K1]⟩))
   have hL:st2.L[k]? =J (.tuple []):=by
    grind [U3,put,F6]
   obtain ⟨G'',hdone⟩:=Rg.after hst hR hD hk aX ho hi hc (λi h=>(hne i h).1) htr hts (Or.inl rfl) (Or.inl hL) hS;exact hK _ _ _ _ _ hdone
  .cases he
 .cases he
def nD (X:Cx):List o3->Nat->Bool
 |[],k=>X.ops.size==k
 |i::is,k=>(match X.ops[k]? with
  |some o=>sN X (λj=>decide (j<k)) o i
  |none=>F)&&nD X is (k+1)
structure Fin (X:Cx)(j8:List o3)(E:Env)(nt:Nat)(st0:I5)(w:World)(G:Gh)(I:S8)(N:Nat->Prop)(st2:I5)(a' :Act)(w' :World)(G' :Gh)(I' :S8)(N' :Nat->Prop):Prop where
 rg:Rg X j8 E nt (λj=>j<O j8) st2 a' w' G' I' N'
 since:bg E st0.H w G I N st2.H w' G' I' N'
def Rg.congr {S' :Nat->Prop}(h:Rg X j8 E nt S st a w G I N)(hS:∀j,S j↔S' j):Rg X j8 E nt S' st a w G I N:=by
 have:S=S' :=funext λj=>propext (hS j)
 simp_all
def HM (hst:Stat X nt)(OK:oM X.P E.cf E.prom)(gG:∀f args H lm r,E.cf f args H lm=J r->V3 X.P f=W)(hs:E.lim.strict<=E.lim.base)(hbe:E.lim.base<=E.entry)(Q:Exit->Act->World->Prop) :
  ∀(is:List o3) (k:Nat),j8.drop k=is->k<=O j8->nD X is k=W->∀(st:I5) (a:Act) (w:World) (G:Gh) (I:S8) (N:Nat->Prop) (st2:I5),Rg X j8 E nt (λj=>j<k) st a w G I N->iU E j8 is k st=J st2 ->
   (∀a' w' G' I' N',Fin X j8 E nt st w G I N st2 a' w' G' I' N' ->Q .normal a' w')->wpOps X.P X.ops Q (List.range' k (O is)) a w:=by
 intro is
 induction is with
 |nil =>
  intro k hd hk _ st a w G I N st2 hR hrun hQ;cases hrun;have aX:O j8=k:=by
   simp_all [List.length]<;>omega
  exact hQ _ _ _ _ _ ⟨M,bg.refl _ _ _ _ _ _⟩
 |cons i is ih =>
  intro k hd hk hc st a w G I N st2 hR hrun hQ;have hi:j8[k]? =J i:=by
   have:(j8.drop k)[0]? =J i:=by rw [hd];rfl
   grind
  have hd' :j8.drop (k+1)=is:=by
   have:=congrArg (List.drop 1) hd
   grind [List.drop_drop]
  simp [nD,c9] at hc;obtain ⟨hc1,uv⟩:=hc;simp [iU] at hrun;split at hrun
  next st1 rs hstep=>
   cases ho:X.ops[k]? with
   |none=>simp_all
   |some o =>
    rw [ho] at hc1;simp [o8];refine yA hst OK gG hs hbe hR (d8:=λj=>decide (j<k)) (λj hj=>M) (Nat.lt_irrefl k) ho hi hc1 (A6:=K) (λ_=>?_) (λi h=>by cases h) hstep _ _ ?_
    .exact ⟨(λhN=>by have:=hR.bT _ hN;grind [newId]),(λi h=>by cases h),by exact s5 hbe hR.He,by exact s5 hs (s5 hbe hR.He)⟩
    .intro a' w' G' I' N' hdone
     refine ih (k+1) hd' (A3 hi) uv st1 a' w' G' I' N' st2 (hdone.rg.congr λj=>V) hrun ?_;intro a'' w'' G'' I'' N'' wF;exact hQ _ _ _ _ _ ⟨wF.rg,hdone.since.trans wF.since⟩
  .cases hrun
end
end Go.A5
namespace Go.A5
variable [E3]
def y4.dL:y4->List Nat
 | .loc j=>[j]
 |_=>[]
def y4.slots:y4->List Nat
 | .slot s=>[s]
 |_=>[]
def s8.R1:s8->List y4
 | .S0 x=>[x]
 | .pick c a b=>[c,a,b]
 | .alloc _=>[]
 | .box x=>[x]
 | .build _ parts=>parts.map (·.2.2)
 | .J8 _ _ _ parts _=>parts.map (·.2.2)
 | .iY _ _ x y=>[x,y]
 | .load _ x=>[x]
 | .store _ a x=>[a,x]
 | .dh x=>[x]
 | .bin _ x y=>[x,y]
 | .un _ x=>[x]
 | .BH _ x=>[x]
 | .x5 _ x y=>[x,y]
 | .Dx _ _ x y=>[x,y]
 | .rM _ x=>[x]
 | .pG x=>[x]
 | .ay _ x lo hi=>x::(lo.toList++hi.toList)
 | .off _ x=>[x]
 | .L2 _ x i=>[x,i]
 | .iQ _ _ x i=>[x,i]
 | .J5 x i=>[x,i]
 | .extract x _=>[x]
 | .Yv x _=>[x]
 | .len x=>[x]
 | .Y8 x=>[x]
 | .append _ _ _ x y=>[x,y]
 | .K3 _ _ x y=>[x,y]
 | .gT _ xs=>xs
 | .clear _ _ x=>[x]
 | .an _ first caps=>first++caps
 | .call _ xs=>xs
 | .X9 x xs=>x::xs
 | .makeMap=>[]
 | .sP _=>[]
 | .own _ x=>[x]
 | .lookup _ _ _ m k=>[m,k]
 | .dF _ m k v=>[m,k,v]
 | .defer x=>[x]
 | .bad=>[]
def dX (j8:List o3)(i:o3):List Nat :=
 (i.op.R1.flatMap y4.dL)++(match i.guard with|some (g,_)=>[g]|none=>[]) ++
 (match i.op with
  | .append _ _ _ (.loc j) _=>(match j8[j]? with|some a=>a.op.R1.flatMap y4.dL|none=>[])
  | .K3 _ _ (.loc j) _=>(match j8[j]? with|some a=>a.op.R1.flatMap y4.dL|none=>[])
  | .own _ (.loc j)=>(match j8[j]? with|some a=>a.op.R1.flatMap y4.dL|none=>[])
  |_=>[])
def fC (i:o3):List Nat:=i.op.R1.flatMap y4.slots
def W2 {α β:Type}{f g:α->β}{l:List α}(h:∀x,x∈l->f x=g x):l.map f=l.map g:=List.map_congr_left h
def kP {ρ ρ' :y4->c7}{ps:List (Nat×Nat×y4)}(h:∀x,x∈ps.map (·.2.2)->ρ' x=ρ x):(ps.map λ(o,s,x)=>(o,s,ρ' x))=ps.map λ(o,s,x)=>(o,s,ρ x):=by
 grind [List.map_congr_left]
def xB {ρ ρ' :y4->c7}{d:Nat}{o:Option y4}(h:∀x,x∈o.toList->ρ' x=ρ x):Y5 ρ' d o=Y5 ρ d o:=by
 simp_all [Y5]<;>grind
def nU {ρ ρ' :y4->c7}{H:j9}{op:s8}(h:∀x,x∈op.R1->ρ' x=ρ x):k8 ρ' H op=k8 ρ H op:=by
 cases op<;>simp only [s8.R1] at h
 case build=>simp only [k8,kP h]
 case J8 sz len zero parts ob=>cases ob<;>simp only [k8,kP h]
 case gT isMax xs=>simp only [k8,W2 h]
 case an f first caps =>
  simp only [k8];rw [W2 (l:=first) λx hx=>h x (by simp [hx]),W2 (l:=caps) λx hx=>h x (by simp [hx])]
 case ay sz x lo hi =>
  have h1:=h x U;have h2:∀d,Y5 ρ' d lo=Y5 ρ d lo:=λd=>xB λy hy=>h y (by simp at hy ⊢;simp [hy])
  have h3:∀d,Y5 ρ' d hi=Y5 ρ d hi:=λd=>xB λy hy=>h y (by simp at hy ⊢;simp [hy])
  simp only [k8,h1,h2,h3]
 case load n x=>cases n<;>simp only [k8,h x U]
 case pick c a b=>simp only [k8,h c U,h a U,h b U]
 case bin b x y=>simp only [k8,h x U,h y U]
 case x5 b x y=>simp only [k8,h x U,h y U]
 case Dx b ks x y=>simp only [k8,h x U,h y U]
 case L2 s x y=>simp only [k8,h x U,h y U]
 case iQ n s x y=>simp only [k8,h x U,h y U]
 case J5 x y=>simp only [k8,h x U,h y U]
 case lookup kk z ok x y=>simp only [k8,h x U,h y U]
 case dh x=>simp only [k8,h x U]
 case un b x=>simp only [k8,h x U]
 case BH b x=>simp only [k8,h x U]
 case rM k x=>simp only [k8,h x U]
 case pG x=>simp only [k8,h x U]
 case off k x=>simp only [k8,h x U]
 case extract x i=>simp only [k8,h x U]
 case Yv x i=>simp only [k8,h x U]
 case len x=>simp only [k8,h x U]
 case Y8 x=>simp only [k8,h x U]
 all_goals rfl
def S3:Option x4->Option x4->Prop
 |some (.cells l),J (.cells l')=>l.map c7.K9=l'.map c7.K9
 |a,b=>a=b
theorem S3.refl (o:Option x4):S3 o o:=by
 simp_all [S3]<;>grind
def S3.symm {a b:Option x4}(h:S3 a b):S3 b a:=by
 simp_all [S3,absurd]<;>grind
theorem S3.trans {a b c:Option x4}(h:S3 a b)(k:S3 b c):S3 a c:=by
 simp_all [S3]<;>grind
def af8 {H H' :j9}{id off n:Nat}(h:S3 H'[id]? H[id]?){vs:List c7}(hr:rd H id off n=J vs):∃vs',rd H' id off n=J vs' /\vs'.map c7.K9=vs.map c7.K9:=by
 unfold rd at hr ⊢;split at hr
 next l hl=>
  split at hr
  .cases hr
   rw [hl] at h;cases h' :H'[id]? with
   |none=>simp_all [S3]
   |some o =>
    rw [h'] at h;cases o with
    |cells l' =>
     have h:l'.map c7.K9=l.map c7.K9:=by grind [S3]
     have hll:O l'=O l:=by simpa using congrArg List.length h
     simp_all
    |dead=>simp [S3] at h
    |map es=>simp [S3] at h
  .cases hr
 .cases hr
def Kc {ρ:y4->c7}{H H' :j9}{op:s8}{v:c7}{rs:List Nat}(h:k8 ρ H op=J (v,rs))(hr:∀id,id∈rs->S3 H'[id]? H[id]?):k8 ρ H' op=J (v,rs):=by
 cases op
 case load n x =>
  cases n with
  |none =>
   simp only [k8] at h ⊢;split at h
   next id off hp=>
    split at h
    next u hu=>
     cases h;obtain ⟨vs',h1,h2⟩:=af8 (hr id U) hu;obtain ⟨u',rfl⟩:∃u',vs' =[u']:=by
      have:=congrArg List.length h2;simp at this;exact List.length_eq_one_iff.1 this
     simp at h2;simp only [h1,h2]
    .cases h
   .exact h
   .cases h
  |some n =>
   simp only [k8] at h ⊢;split at h
   next id off hp=>
    split at h
    next us hu=>
     cases h;obtain ⟨vs',h1,h2⟩:=af8 (hr id U) hu;simp only [h1,h2]
    .cases h
   .exact h
   .cases h
 case lookup kk zero ok m k =>
  simp only [k8] at h ⊢;split at h
  next id key hp hq=>
   split at h
   next es XQ=>
    split at h
    next hf hft=>
     cases h;have:=hr id U;rw [XQ] at this;have h' :H'[id]? =J (.map es):=by
      cases h' :H'[id]? with
      |none=>rw [h'] at this;simp [S3] at this
      |some o=>rw [h'] at this;cases o<;>simp_all [S3]
     simp only [h',hf,hft]
    .cases h
   .cases h
  .exact h
  .cases h
 case J8 sz len zero parts ob=>cases ob<;>exact h
 all_goals exact h
structure Still (k:Nat)(dst A6:Option Nat)(d:List Touch)(st st' :I5):Prop where
 L:∀m,m≠k->(st'.L.getD m .any).K9=(st.L.getD m .any).K9
 Gb:∀m,m≠k->∀b,st'.L[m]? =J (c7.d (.bool b))↔st.L[m]? =J (c7.d (.bool b))
 Gt:∀m,m≠k->(st'.L[m]? =J (c7.tuple [])↔st.L[m]? =J (c7.tuple []))
 T:∀s,dst≠J s->(st'.T.getD s .any).K9=(st.T.getD s .any).K9
 l6:st'.l6=d++st.l6
 H:∀id:Nat,d.any (Touch.F7 id)=F->A6≠J id->S3 st'.H[id]? st.H[id]?
 No:O st.H<=O st'.H
 jT:O st'.L=O st.L
 Y8:O st'.T=O st.T
section
variable {k:Nat} {dst A6:Option Nat} {d d1 d2:List Touch} {st st1 st' :I5}
theorem Still.refl (k:Nat)(dst A6:Option Nat)(st:I5):Still k dst A6 [] st st :=
 ⟨λ_ _=>rfl,λ_ _ _=>Iff.rfl,λ_ _=>Iff.rfl,λ_ _=>rfl,rfl,λ_ _ _=>S3.refl _,k9 _,rfl,rfl⟩
theorem Still.trans (h:Still k dst A6 d1 st st1)(g:Still k dst A6 d2 st1 st'):Still k dst A6 (d2++d1) st st' where
 L m hm:=(g.L m hm).trans (h.L m hm)
 Gb m hm b:=(g.Gb m hm b).trans (h.Gb m hm b)
 Gt m hm:=(g.Gt m hm).trans (h.Gt m hm)
 T s hs:=(g.T s hs).trans (h.T s hs)
 l6:=by rw [g.l6,h.l6,K2]
 H id hd hn:=by
  simp only [List.any_append,D5] at hd;exact (g.H id hd.1 hn).trans (h.H id hd.2 hn)
 No:=s5 h.No g.No
 jT:=g.jT.trans h.jT
 Y8:=g.Y8.trans h.Y8
theorem Still.put (v:c7):Still k dst A6 [] st (put st k v) where
 L m hm:=by grind [A5.put,P4]
 Gb m hm b:=by grind [A5.put,x3]
 Gt m hm:=by grind [A5.put,x3]
 T _ _:=rfl
 l6:=rfl
 H _ _ _:=S3.refl _
 No:=k9 _
 jT:=by simp [A5.put]
 Y8:=rfl
def Still.B9 {j z n:Nat}{c:List Data}(hj:st.L[j]? =J (.own z n c)):Still k dst A6 [] st { st with L:=st.L.set j (.d (.slice n c)) } where
 L m _:=by
  by_cases e:j=m
  .subst e
   rw [O3 _ _ _ _ (A3 hj),bN hj];rfl
  simp_all
 Gb m _ b:=by
  grind
 Gt m _:=by
  grind
 T _ _:=rfl
 l6:=rfl
 H _ _ _:=S3.refl _
 No:=k9 _
 jT:=U
 Y8:=rfl
theorem Still.F6 (y:y4):Still k dst A6 [] st (F6 st y).2:=by
 cases y with
 |loc j =>
  simp only [A5.F6];split
  next hj=>
   exact Still.B9 hj
  .exact Still.refl _ _ _ _
  .exact Still.refl _ _ _ _
 |slot s=>exact Still.refl _ _ _ _
 |const v=>exact Still.refl _ _ _ _
def Still.heap {H' :j9}(h2:∀id:Nat,d.any (Touch.F7 id)=F->A6≠J id->S3 H'[id]? st.H[id]?)(hl:O st.H<=O H'):Still k dst A6 d st { st with H:=H',l6:=d++st.l6 } :=
 ⟨λ_ _=>rfl,λ_ _ _=>Iff.rfl,λ_ _=>Iff.rfl,λ_ _=>rfl,rfl,h2,hl,rfl,rfl⟩
def Still.newObj {i:Nat}(o:x4):Still k dst (J i) [] st (E1 st (J i) o) :=
 ⟨λ_ _=>rfl,λ_ _ _=>Iff.rfl,λ_ _=>Iff.rfl,λ_ _=>rfl,rfl,λid _ hn=>by
  simp_all [E1,x3,S3.refl],(by simp [E1]),rfl,rfl⟩
theorem Still.aZ {l:J2}{sz len:Nat}{cells:List Data}{op:s8}(h:aZ l st sz op=J (len,cells,st')):∃d,Still k dst A6 d st st' :=by
 unfold A5.aZ at h;split at h
 next s=>
  split at h
  .cases h
  .split at h
   next hs=>
    split at h
    .cases h
     refine ⟨[.slot s],λ_ _=>rfl,λ_ _ _=>Iff.rfl,λ_ _=>Iff.rfl,λs' _=>?_,rfl,λ_ _ _=>S3.refl _,k9 _,rfl,U⟩
     by_cases e:s=s'
     .subst e
      rw [O3 _ _ _ _ (A3 hs),bN hs];rfl
     simp_all
    .cases h
   .cases h
 .split at h
  next id off YN=>
   split at h
   .cases h
   .split at h
    next cs hcs=>
     split at h
     next Ie=>
      split at h
      .cases h
       refine ⟨[.cell id off],Still.heap (λid' _ _=>?_) U⟩
       by_cases he:id=id'
       .subst he
        rw [E9 (A3 hcs),hcs];apply List.ext_getElem?;intro n;simp only [List.getElem?_map]
        by_cases e:off=n
        .subst e
         rw [E9 (A3 Ie),Ie];rfl
        simp_all
       simp_all [x3,S3.refl]
      .cases h
     .cases h
    .cases h
  .cases h
 .cases h
theorem Still.T1 {l:J2}{j8:List o3}{sz len:Nat}{cells:List Data}{y:y4}(h:T1 l j8 st sz y=J (len,cells,st')):∃d,Still k dst A6 d st st' :=by
 unfold A5.T1 at h;split at h
 .split at h
  .cases h;exact ⟨[],Still.refl _ _ _ _⟩
  .cases h
 .cases h
 .cases h
 .split at h
  next hj=>
   split at h
   .cases h
    exact ⟨[],Still.B9 hj⟩
   .cases h
  .split at h
   .exact Still.aZ h
   .cases h
  .cases h
theorem Still.C9 {E:Env}{f:FuncId}{args:List c7}(h:C9 E k f args st=J st'):∃d,Still k dst K d st st' :=by
 unfold A5.C9 at h;split at h
 .split at h
  next v H1 _=>
   split at h
   next hlen=>
    cases h;refine ⟨[]++[.below (O H1)],Still.trans (Still.heap (λid hd _=>?_) hlen) (Still.put _)⟩
    grind [Touch.F7,List.getElem?_eq_none,S3.refl]
   .cases h
  .cases h
 .simp only at h
  generalize E6 st.H E.lim.strict 8 (A8 args)=n at h;generalize (args.headD .any).J4=m at h;split at h
  .split at h
   .split at h
    .split at h
     .cases h
      refine ⟨[]++[.below n],Still.trans (Still.heap (λid hd _=>?_) D) (Still.put _)⟩;simp_all [Touch.F7,x7,List.getElem?_drop,S3.refl]
     .cases h
    .cases h
   .split at h
    .split at h
     .cases h
      exact ⟨_,Still.put _⟩
     .cases h
    .cases h
   .split at h
    .split at h
     .cases h
      refine ⟨[]++[.below m],Still.trans (Still.heap (λid hd _=>?_) D) (Still.put _)⟩;simp_all [Touch.F7,x7,List.getElem?_drop,List.take,S3.refl]
     .cases h
    .cases h
  .cases h
def Ww {H H' :j9}{id off:Nat}{vs:List c7}(h:wr H id off vs=J H'):O H'=O H:=by
 grind [wr]
theorem Still.S6 {E:Env}{n:Nat}{a:c7}{x:y4}(h:S6 E k n st a x=J st'):∃d,Still k dst K d st st' :=by
 unfold A5.S6 at h;split at h
 next id off=>
  split at h
  .split at h
   .split at h
    next H' hw=>
     cases h;refine ⟨[]++([.obj id]++[]),Still.trans (Still.trans (Still.F6 x) (Still.heap (λid' hd _=>?_) (by rw [Ww hw];omega))) (Still.put _)⟩
     grind [vi,S3.refl,Touch.F7]
    .cases h
   .cases h
  .cases h
 .cases h
theorem Still.aa {E:Env}{sz:Nat}{zero:List c7}{a:c7}(h:aa E k sz zero st a=J st'):∃d,Still k dst K d st st' :=by
 unfold A5.aa at h;split at h
 next id z lo len=>
  split at h
  .split at h
   next H' hw=>
    cases h;refine ⟨[]++[.obj id],Still.trans (Still.heap (λid' hd _=>?_) (by rw [Ww hw];omega)) (Still.put _)⟩
    grind [vi,S3.refl,Touch.F7]
   .cases h
  .cases h
 .cases h
  exact ⟨_,Still.put _⟩
 .cases h
theorem Still.V8 {E:Env}{kk:KK}{m key v:c7}(h:V8 E k kk st m key v=J st'):∃d,Still k dst K d st st' :=by
 unfold A5.V8 at h;split at h
 next id kd _=>
  split at h
  .split at h
   .split at h
    .split at h
     .cases h
      refine ⟨[]++[.obj id],Still.trans (Still.heap (λid' hd _=>?_) U) (Still.put _)⟩;rw [x3]
      .exact S3.refl _
      .rintro rfl
       simp [Touch.F7] at hd
     .cases h
    .cases h
   .cases h
  .cases h
 .cases h
theorem Still.D3 {E:Env}{j8:List o3}{op:s8}(hk:G9 st op=F)(hn:A6.isSome=op.y7)(h:D3 E j8 A6 k st op=J st'):∃d,Still k dst A6 d st st' :=by
 cases op<;>simp only [A5.D3] at h<;>try (cases h;done)
 all_goals (simp only [s8.y7] at hn)
 case alloc zero =>
  obtain ⟨i,rfl⟩:=Option.isSome_iff_exists.1 hn;cases h;exact ⟨_,(Still.newObj _).trans (Still.put _)⟩
 case box x =>
  obtain ⟨i,rfl⟩:=Option.isSome_iff_exists.1 hn;split at h
  .cases h;exact ⟨_,(Still.newObj _).trans (Still.put _)⟩
  .cases h
 case sP x =>
  cases h;exact ⟨_,Still.put _⟩
 case own sz x =>
  split at h
  next ht=>
   obtain ⟨d,hd⟩:=Still.T1 (k:=k) (dst:=dst) (A6:=A6) ht;cases h;exact ⟨_,hd.trans (Still.put _)⟩
  .cases h
 case makeMap =>
  obtain ⟨i,rfl⟩:=Option.isSome_iff_exists.1 hn;cases h;exact ⟨_,(Still.newObj _).trans (Still.put _)⟩
 case iY sz zero x y =>
  obtain ⟨i,rfl⟩:=Option.isSome_iff_exists.1 hn;split at h
  .cases h;exact ⟨_,(Still.newObj _).trans (Still.put _)⟩
  .cases h
 case J8 sz len zero parts ob =>
  cases ob
  .cases h
  .obtain ⟨i,rfl⟩:=Option.isSome_iff_exists.1 hn
   simp only at h;split at h
   .split at h
    .cases h;exact ⟨_,(Still.newObj _).trans (Still.put _)⟩
    .cases h
   .cases h
 case store n a x =>
  have:A6=K:=by simpa using hn
  subst this;exact Still.S6 h
 case K3 sz bytes x y =>
  have:A6=K:=by simpa using hn
  subst this;obtain ⟨s,hs,rfl⟩:=oQ h;have hnew:∀(H' :j9) (o:x4) (aY :List Touch) (d:List Touch) (v:c7),aY =d++st.l6->O H'=O st.H->(∀id:Nat,d.any (Touch.F7 id)=F->S3 H'[id]? st.H[id]?) ->
    ∃d',Still k dst K d' st { (A5.put (E1 { st with H:=H',l6:=aY } K o) k v) with l6:= .obj (O st.H)::aY }:=by
   intro H' o aY d v ht hl hH;subst ht;refine ⟨[]++(.obj (O st.H)::d),Still.trans (Still.heap (H' :=H' ++[o]) (λid hd _=>?_) (by simp [hl])) (Still.put v)⟩;simp only [List.any_cons,D5] at hd;have hne:id≠O st.H:=by rintro rfl;simp [Touch.F7] at hd
   rcases A7 id (O st.H) with h1|h1
   .rw [y8 V]
    exact hH id hd.2
   .rw [List.getElem?_eq_none D,List.getElem?_eq_none h1]
    exact S3.refl _
  split at hs
  .split at hs
   next id _ _ _ _ _=>
    unfold A5.U9 at hs;split at hs
    .split at hs
     .split at hs
      .cases hs
       exact hnew _ _ _ [.obj id] _ rfl U λid' hd=>by
        rw [x3]
        .exact S3.refl _
        .rintro rfl
         simp [Touch.F7] at hd
      .cases hs
     .cases hs
    .cases hs
   .cases hs
  .unfold A5.L8 at hs
   simp only [if_true] at hs;split at hs
   .split at hs
    .split at hs
     .cases hs
      exact ⟨[]++[.obj (O st.H)],Still.trans (Still.heap (H' :=st.H) (λ_ _ _=>S3.refl _) (k9 _)) (Still.put _)⟩
     .cases hs
      exact hnew st.H _ st.l6 [] _ rfl rfl λ_ _=>S3.refl _
    .cases hs
   .cases hs
 case append sz bytes ob x y =>
  split at h
  next hx=>
   simp [G9,hx] at hk
  .cases ob with
   |true =>
    obtain ⟨i,rfl⟩:=Option.isSome_iff_exists.1 hn;unfold A5.L8 at h;simp only [if_true] at h;split at h
    .split at h
     .split at h
      .cases h;exact ⟨_,Still.put _⟩
      .cases h;exact ⟨_,(Still.newObj _).trans (Still.put _)⟩
     .cases h
    .cases h
   |false =>
    have:A6=K:=by simpa using hn
    subst this;unfold A5.L8 at h;simp only [j5,if_false] at h;split at h
    .split at h
     .split at h
      next ht=>
       split at h
       .cases h
        obtain ⟨d,hd⟩:=Still.T1 (k:=k) (dst:=dst) (A6:=K) ht;exact ⟨_,hd.trans (Still.put _)⟩
       .cases h
      .cases h
     .cases h
    .cases h
 case clear sz zero x =>
  have:A6=K:=by simpa using hn
  subst this;exact Still.aa h
 case call f xs =>
  have:A6=K:=by simpa using hn
  subst this;exact Still.C9 h
 case X9 x xs =>
  have:A6=K:=by simpa using hn
  subst this;split at h
  .exact Still.C9 h
  .cases h
 case dF =>
  have:A6=K:=by simpa using hn
  subst this;exact Still.V8 h
 case defer x =>
  split at h
  .split at h
   .cases h;exact ⟨_,Still.put _⟩
   .cases h
  .cases h
theorem Still.E2 {bo3 :Option Nat}(h:s7 bo3 st k dst=J st'):∃d,Still k dst A6 d st st' :=by
 rcases U3 h with ⟨_,rfl⟩|⟨s,l6,rfl,_,rfl,Ng⟩
 .exact ⟨_,Still.refl _ _ _ _⟩
 .have hx:=Still.F6 (k:=k) (dst:=J s) (A6:=A6) (st:=st) (.loc k)
  have key:∀d,l6=d++st.l6->Still k (J s) A6 d st { (A5.F6 st (.loc k)).2 with T:=st.T.set s (A5.F6 st (.loc k)).1,l6 }:=by
   intro d hd;refine ⟨hx.L,hx.Gb,hx.Gt,λs' hs=>?_,hd,λid _ hn=>hx.H id rfl hn,hx.No,hx.jT,U⟩;simp_all
  rcases Ng with rfl|⟨rfl,_⟩
  .exact ⟨[.slot s],key _ rfl⟩
  .exact ⟨[],key _ rfl⟩
theorem Still.y3 {E:Env}{j8:List o3}{i:o3}{rs:List Nat}(hk:G9 st i.op=F)(hn:A6.isSome=i.op.y7)(h:y3 E j8 A6 k i st=J (st',rs)):∃d,Still k i.dst A6 d st st' :=by
 unfold A5.y3 at h;split at h
 .split at h
  next st1 rs1 hW=>
   split at h
   next st2 hts=>
    cases h;have h1:∃d,Still k i.dst A6 d st st1:=by
     unfold A5.B8 at hW;split at hW
     .split at hW
      next he=>
       cases hW;exact Still.D3 hk hn he
      .cases hW
     .split at hW
      .cases hW
       exact ⟨_,(Still.F6 _).trans (Still.put _)⟩
      .split at hW
       .cases hW
        exact ⟨_,Still.put _⟩
       .cases hW
    obtain ⟨d1,h1⟩:=h1;obtain ⟨d2,h2⟩:=Still.E2 (A6:=A6) hts;exact ⟨_,h1.trans h2⟩
   .cases h
  .cases h
 .split at h
  next hts=>
   cases h;obtain ⟨d2,h2⟩:=Still.E2 (A6:=A6) hts;exact ⟨_,(Still.put _).trans h2⟩
  .cases h
 .cases h
theorem Still.G7 (h:Still k dst A6 d st st'){x:y4}(hl:k∉x.dL)(ht:∀s,s∈x.slots->dst≠J s):G7 st'.T st'.L x=G7 st.T st.L x:=by
 cases x with
 |loc j =>
  exact h.L j (λe=>hl (by simp [y4.dL,e]))
 |slot s =>
  exact h.T s (ht s (by simp [y4.slots]))
 |const v=>rfl
def Still.wanted (h:Still k dst A6 d st st'){g:Option (Nat×Bool)}(hg:∀j b,g=J (j,b)->j≠k):y9 st'.L g=y9 st.L g:=by
 cases g with
 |none=>rfl
 |some p =>
  obtain ⟨j,want⟩:=p;have hj:=hg j want rfl;have h1:=h.Gb j hj;have h2:=h.Gt j hj
  grind [y9,absurd]
theorem Still.Jm {E:Env}{i:o3}{rs:List Nat}(h:Still k dst A6 d st st'):(Y9 E i A6 st st' rs).Jm=bw A6++d:=by
 simp only [Y9,h.l6];simp
def Still.reads {E:Env}{i:o3}{rs:List Nat}(h:Still k dst A6 d st st'){ids:List Nat}(hh:G6 (Y9 E i A6 st st' rs).Jm ids=F){id:Nat}(hid:id∈ids):S3 st'.H[id]? st.H[id]? :=by
 rw [h.Jm] at hh;unfold G6 at hh;have hno:∀t,t∈(bw A6++d:List Touch)->t.F7 id=F:=by
  grind
 refine h.H id ?_ ?_
 all_goals grind [List.any_eq_false,bw,Touch.F7]
end
end Go.A5
namespace Go.A5
variable [E3]
section
variable {E:Env} {j8:List o3} {A6:Option Nat} {k q:Nat} {v:c7} {st st1 st2 st' :I5}
theorem qT {x:y4}(h:q∉x.dL):G7 (put st q v).T (put st q v).L x=G7 st.T st.L x:=by
 simp_all [G7,put,y4.dL]<;>grind
theorem put_comm (h:q≠k)(u:c7):put (put st q v) k u=put (put st k u) q v:=by
 simp_all [put,List.set_comm]
theorem nY {l:List c7}{q j:Nat}(h:q≠j)(v:c7):(l.set q v)[j]? =l[j]? :=x3 h
def Cv {x:y4}(h:q∉x.dL):F6 (put st q v) x=((F6 st x).1,put (F6 st x).2 q v):=by
 cases x with
 |loc j =>
  grind [y4.dL,F6,put,nY,G7,List.getD,List.set_comm]
 |slot s=>rfl
 |const c=>rfl
theorem fm (o:x4):E1 (put st q v) A6 o=put (E1 st A6 o) q v:=by cases A6<;>rfl
theorem jH:newId (put st q v) A6=newId st A6:=rfl
def Fb {x:y4}(h:q∉x.dL):bU (put st q v) x=bU st x:=by
 simp_all [y4.dL,bU,put]<;>grind
def KH {l:J2}{sz:Nat}{op:s8}(h:q∉op.R1.flatMap y4.dL):aZ l (put st q v) sz op=(aZ l st sz op).map λp=>(p.1,p.2.1,put p.2.2 q v):=by
 unfold aZ;split
 .have e1:(put st q v).l6=st.l6:=rfl
  have e2:(put st q v).T=st.T:=rfl;simp [e1,e2];split
  .rfl
  .split
   .split
    all_goals rfl
   .rfl
 next x=>
  have hx:q∉x.dL:=λe=>h (by simp [s8.R1,e])
  rw [Fb hx];have e1:(put st q v).l6=st.l6:=rfl;have e2:(put st q v).H=st.H:=rfl;split
  .simp [e1,e2]
   split
   .rfl
   .split
    .split
     .split
      all_goals rfl
     .rfl
    .rfl
  .rfl
 .rfl
def yB {l:J2}{sz:Nat}{x:y4}(h:q∉x.dL)(h2:∀j a,x= .loc j->j8[j]? =J a->q∉a.op.R1.flatMap y4.dL) :
  T1 l j8 (put st q v) sz x=(T1 l j8 st sz x).map λp=>(p.1,p.2.1,put p.2.2 q v):=by
 cases x with
 |const c =>
  unfold T1;cases c<;>first|rfl|skip
  simp_all
 |slot s=>rfl
 |loc j =>
  have hj:q≠j:=λe=>h (by simp [y4.dL,e])
  have e:(put st q v).L[j]? =st.L[j]? :=by simp_all [put,nY]
  simp [T1];rw [e];cases hl:st.L[j]? with
  |none=>rfl
  |some b =>
   cases b with
   |own z len cells =>
    grind [put,List.set_comm]
   |d x =>
    cases x with
    |slice n c =>
     cases ha:j8[j]? with
     |none=>rfl
     |some a=>simp_all [KH]
    |_=>rfl
   |_=>rfl
def xD (h:q≠k){f:FuncId}{args:List c7}:C9 E k f args (put st q v)=(C9 E k f args st).map λs=>put s q v:=by
 have e1:(put st q v).H=st.H:=rfl;have e2:(put st q v).l6=st.l6:=rfl;have key:∀(H:j9) (t:List Touch) (u:c7),put { put st q v with H:=H,l6:=t } k u=put (put { st with H:=H,l6:=t } k u) q v:=by
  simp_all [put,List.set_comm]
 unfold C9;simp [e1];split
 .split
  all_goals simp_all
 .split
  .split
   .split
    all_goals simp_all
   .split
    all_goals simp_all
   .split
    all_goals simp_all
  .rfl
def HV (h:q≠k){n:Nat}{a:c7}{x:y4}(hx:q∉x.dL):S6 E k n (put st q v) a x=(S6 E k n st a x).map λs=>put s q v:=by
 unfold S6;simp [Cv hx];cases a with
 |ptr id off =>
  simp only;split
  .split
   .have e:(put (F6 st x).2 q v).H=(F6 st x).2.H:=rfl
    split
    all_goals simp_all [put,C6,List.set_comm]
   .rfl
  .rfl
 |_=>rfl
def GQ (h:q≠k){sz:Nat}{zero:List c7}{a:c7}:aa E k sz zero (put st q v) a=(aa E k sz zero st a).map λs=>put s q v:=by
 have e:(put st q v).H=st.H:=rfl;unfold aa;split
 .split
  .split
   all_goals grind [put,List.set_comm]
  .rfl
 all_goals grind [put_comm]
def DF (h:q≠k){kk:KK}{m key x:c7}:V8 E k kk (put st q v) m key x=(V8 E k kk st m key x).map λs=>put s q v:=by
 have e:(put st q v).H=st.H:=rfl;unfold V8;split
 .rw [e]
  split
  .split
   .split
    .split
     .simp only [put,C6]
      congr 2
      exact List.set_comm _ _ h
     .rfl
    .rfl
   .rfl
  .rfl
 .rfl
theorem Ns {l:J2}{op:s8}(h:q∉op.R1.flatMap y4.dL):iS l (put st q v) op=iS l st op:=by
 unfold iS;split
 .rfl
 next x=>
  have hx:q∉x.dL:=λe=>h (by simp [s8.R1,e])
  rw [Fb hx];rfl
 .rfl
def Sl {l:J2}{x:y4}(h:q∉x.dL)(h2:∀j a,x= .loc j->j8[j]? =J a->q∉a.op.R1.flatMap y4.dL):isNil l j8 (put st q v) x=isNil l j8 st x:=by
 cases x with
 |const c=>cases c<;>rfl
 |slot s=>rfl
 |loc j =>
  grind [y4.dL,put,nY,isNil,Ns]
def rK (h:q≠k){sz bytes:Nat}{ob:Bool}{x:y4}{y:c7}(hx:q∉x.dL)(h2:∀j a,x= .loc j->j8[j]? =J a->q∉a.op.R1.flatMap y4.dL) :
  L8 E j8 A6 k sz bytes ob (put st q v) x y=(L8 E j8 A6 k sz bytes ob st x y).map λs=>put s q v:=by
 have e:(put st q v).H=st.H:=rfl;unfold L8;rw [e,Sl hx h2,yB hx h2];split
 .split
  .grind [put_comm,fm,jH]
  .split
   all_goals grind [T1,put_comm]
 .rfl
theorem P7 {i:o3}{x:y4}(hx:x∈i.op.R1)(h:q∉dX j8 i):q∉x.dL:=by
 simp_all [dX,K2,List.mem_append_left,List.mem_flatMap]
def ew {i:o3}{g:Nat}{b:Bool}(hg:i.guard=J (g,b))(h:q∉dX j8 i):g≠q:=by
 grind [dX]
def DG {i:o3}{sz bytes:Nat}{ob:Bool}{x y:y4}(hop:i.op= .append sz bytes ob x y)(h:q∉dX j8 i):∀j a,x= .loc j->j8[j]? =J a->q∉a.op.R1.flatMap y4.dL:=by
 grind [dX,List.mem_append_right]
def BA {i:o3}{sz bytes:Nat}{x y:y4}(hop:i.op= .K3 sz bytes x y)(h:q∉dX j8 i):∀j a,x= .loc j->j8[j]? =J a->q∉a.op.R1.flatMap y4.dL:=by
 rintro j a rfl ha hq;apply h;unfold dX;rw [hop];simp only [ha];exact List.mem_append_right _ hq
def BB {i:o3}{sz:Nat}{x:y4}(hop:i.op= .own sz x)(h:q∉dX j8 i):∀j a,x= .loc j->j8[j]? =J a->q∉a.op.R1.flatMap y4.dL:=by
 rintro j a rfl ha hq;apply h;unfold dX;rw [hop];simp only [ha];exact List.mem_append_right _ hq
def Dn (h:q≠k){sz bytes id lo len:Nat}{y:c7}:U9 E A6 k sz bytes (put st q v) id lo len y=(U9 E A6 k sz bytes st id lo len y).map λs=>put s q v:=by
 unfold U9;split
 .have e1:(put st q v).H=st.H:=rfl
  have e2:newId (put st q v) A6=newId st A6:=by cases A6<;>rfl
  rw [e1,e2];split
  .split
   .simp only [C6,Option.some.injEq]
    rw [<- put_comm h];cases A6<;>rfl
   .rfl
  .rfl
 .rfl
def Im (st:I5)(op:s8)(v:c7):Prop:=∀sz GM ob x y id z lo n,op= .append sz GM ob x y->G7 st.T st.L x= .s6 id z lo n->v.kill id=v
def Im.of {op:s8}(h:G9 st op=F):Im st op v:=λ_ _ _ _ _ _ _ _ _ e hx=>by subst e;simp [G9,hx] at h
theorem EI (id:Nat):∀(l:List c7) (j:Nat) (x:c7),O6 id (l.set j x)=(O6 id l).set j (x.kill id)
 |[],_,_=>rfl
 |a::l,0,x=>rfl
 |a::l,j+1,x=>by simp only [o6,O6,EI id l j x]
def Dp (h:q≠k){sz bytes id lo len:Nat}{y:c7}(hv:v.kill id=v):X8 E k sz bytes (put st q v) id lo len y=(X8 E k sz bytes st id lo len y).map λs=>put s q v:=by
 unfold X8;split
 .have e1:(put st q v).H=st.H:=rfl
  rw [e1];split
  .split
   .simp only [C6,Option.some.injEq]
    rw [<- put_comm h];simp only [put,EI,hv]
   .rfl
  .rfl
 .rfl
def RM {i:o3}(h:q≠k)(hu:q∉dX j8 i)(hk:Im st i.op v):D3 E j8 A6 k (put st q v) i.op=(D3 E j8 A6 k st i.op).map λs=>put s q v:=by
 have hρ:∀x,x∈i.op.R1->G7 (put st q v).T (put st q v).L x=G7 st.T st.L x:=λx hx=>qT (P7 hx hu)
 cases hop:i.op<;>simp only [hop,s8.R1] at hρ<;>simp only [D3]<;>try rfl
 case alloc zero=>simp only [fm,jH,put_comm h,C6]
 case box x =>
  rw [hρ x U];split
  .simp only [fm,jH,put_comm h,C6]
  .rfl
 case makeMap=>simp only [fm,jH,put_comm h,C6]
 case sP x=>simp only [put_comm h,C6]
 case iY sz zero x y =>
  rw [hρ x U,hρ y U];split
  .simp only [fm,jH,put_comm h,C6]
  .rfl
 case J8 sz len zero parts ob =>
  cases ob
  .rfl
  .have e:(parts.map λx=>(x.1,x.2.1,G7 (put st q v).T (put st q v).L x.2.2))=(parts.map λx=>(x.1,x.2.1,G7 st.T st.L x.2.2)):=kP hρ
   simp only [e];cases Z7 zero (parts.map λx=>(x.1,x.2.1,G7 st.T st.L x.2.2)) with
   |none=>rfl
   |some cs =>
    simp only;split
    .simp only [fm,jH,put_comm h,C6]
    .rfl
 case store n a x =>
  rw [hρ a U];exact HV h (P7 (by simp [hop,s8.R1]) hu)
 case append sz bytes ob x y =>
  rw [hρ x U,hρ y U];split
  next hx=>
   split
   .exact Dp h (hk _ _ _ _ _ _ _ _ _ hop hx)
   .rfl
  .exact rK h (P7 (by simp [hop,s8.R1]) hu) (DG hop hu)
 case K3 sz bytes x y =>
  rw [hρ x U,hρ y U];have key:∀r r2:Option I5,r2=r.map (λs=>put s q v)->gL (put st q v) r2=(gL st r).map λs=>put s q v:=by
   rintro r _ rfl;cases r<;>rfl
  refine key _ _ ?_;split
  .split
   .exact Dn h
   .rfl
  .exact rK h (P7 (by simp [hop,s8.R1]) hu) (BA hop hu)
 case own sz x =>
  rw [yB (P7 (by simp [hop,s8.R1]) hu) (BB hop hu)];cases T1 E.lim j8 st sz x with
  |none=>rfl
  |some p =>
   obtain ⟨len,cells,s1⟩:=p;simp only [C6,put_comm h]
 case clear sz zero x =>
  rw [hρ x U];exact GQ h
 case call f xs =>
  rw [W2 hρ];exact xD h
 case X9 x xs =>
  rw [hρ x U,W2 (l:=xs) λy hy=>hρ y (by simp [hy])];split
  .exact xD h
  .rfl
 case dF kk m key x =>
  rw [hρ m U,hρ key U,hρ x U];exact DF h
 case defer x =>
  rw [hρ x U];split
  .split
   .simp only [put_comm h,C6]
   .rfl
  .rfl
def Ck (h:q≠k){dst:Option Nat}:s7 A6 (put st q v) k dst=(s7 A6 st k dst).map λs=>put s q v:=by
 have hx:q∉(y4.loc k).dL:=by grind [y4.dL]
 have e1:(put st q v).T=st.T:=rfl;have e2:(put st q v).l6=st.l6:=rfl;cases A6<;>cases dst<;>simp [s7,E2,V4,Cv hx,e1]<;>first|rfl|(split<;>rfl)
def wanted_put {g:Option (Nat×Bool)}(h:∀j b,g=J (j,b)->j≠q):y9 (put st q v).L g=y9 st.L g:=by
 cases g with
 |none=>rfl
 |some p =>
  grind [y9,put,nY]
def jI {i:o3}(h:q≠k)(hu:q∉dX j8 i)(hk:Im st i.op v):y3 E j8 A6 k i (put st q v)=(y3 E j8 A6 k i st).map λp=>(put p.1 q v,p.2):=by
 have hρ:∀x,x∈i.op.R1->G7 (put st q v).T (put st q v).L x=G7 st.T st.L x:=λx hx=>qT (P7 hx hu)
 have hW:B8 E j8 A6 k i.op (put st q v)=(B8 E j8 A6 k i.op st).map λp=>(put p.1 q v,p.2):=by
  unfold B8;split
  .rw [RM h hu hk]
   cases D3 E j8 A6 k st i.op<;>rfl
  .cases hop:i.op with
   |S0 x =>
    simp only [Cv (P7 (x:=x) (by simp [hop,s8.R1]) hu),put_comm h,C6]
   |_ =>
    simp only;rw [<- hop,nU hρ];have e:(put st q v).H=st.H:=rfl;rw [e];cases hp:k8 (G7 st.T st.L) st.H i.op with
    |none=>rfl
    |some p=>simp only [put_comm h,C6]
 unfold y3;rw [wanted_put (λj b hg=>ew hg hu),hW];split
 .cases hp:B8 E j8 A6 k i.op st with
  |none=>rfl
  |some p =>
   obtain ⟨s1,rs⟩:=p;simp only [C6];rw [Ck h];cases s7 A6 s1 k i.dst<;>rfl
 .rw [put_comm h,Ck h]
  cases s7 A6 (put st k (.tuple [])) k i.dst<;>rfl
 .rfl
def S5 (st:I5)(i:Nat)(o:x4):I5:={ st with H:=st.H.set i o }
theorem qp {H:j9}{n i:Nat}{o:x4}(h:n<=i):(H.set i o).take n=H.take n:=List.take_set_of_le h
theorem EK (H:j9)(s:Nat):∀(j m:Nat),m<=E6 H s j m
 |0,m=>by simp [E6]
 |j+1,m=>by
  unfold E6;split
  .omega
  .simp only
   split
   .omega
   .exact s5 (Nat.le_max_left _ _) (EK H s j _)
theorem jN (H:j9)(s i:Nat)(o:x4):∀(j n:Nat),E6 H s j n<=i->E6 (H.set i o) s j n=E6 H s j n
 |0,n,_=>rfl
 |j+1,n,h=>by
  have hn:n<=i:=s5 (EK H s (j+1) n) h;unfold E6 at h ⊢;split
  .rfl
  next eD=>
   rw [if_neg eD] at h;simp [qp hn] at h ⊢;split
   .rfl
   next hm=>
    rw [if_neg hm] at h;exact jN H s i o j _ h
def xH (H:j9)(s i:Nat)(o:x4)(j n:Nat)(h:E6 (H.set i o) s j n<=i):E6 H s j n=E6 (H.set i o) s j n:=by
 rcases A7 i (O H) with hi|hi
 .have:=jN (H.set i o) s i H[i] j n h
  simp_all
 .rw [List.set_eq_of_length_le hi]
def HW {H:j9}{s n i:Nat}{o:x4}(h:n<=i):B5 (H.set i o) s n=B5 H s n:=by
 grind [B5,qp]
def IX {H:j9}{n i:Nat}{o:x4}(h:n<=i):(H.set i o).drop n=(H.drop n).set (i - n) o:=by
 apply List.ext_getElem?
 grind
theorem As {A H:j9}{n i:Nat}{o:x4}(ha:O A=n)(h:n<=i):A++(H.set i o).drop n=(A++H.drop n).set i o:=by
 simp_all [IX,List.set_append,if_neg]
def tX {f:FuncId}{args:List c7}{i:Nat}{o:x4}(hi:i<O st.H)(hs:(if E.prom f then O st.H else E6 st.H E.lim.strict 8 (A8 args))<=i) :
  C9 E k f args (S5 st i o)=(C9 E k f args st).map λs=>S5 s i o:=by
 have e1:(S5 st i o).H=st.H.set i o:=rfl;have e2:(S5 st i o).l6=st.l6:=rfl;unfold C9;simp [e1]
 by_cases hp:E.prom f=W
 .grind
 .rw [if_neg hp] at hs
  rw [if_neg hp,if_neg hp,jN _ _ _ _ _ _ hs];simp [qp hs,HW hs,List.length_set];split
  .split
   .split
    all_goals simp_all [C6,put,S5,As]
   .split
    .split
     all_goals rfl
    .rfl
   .split
    all_goals grind [put,S5,As,s5]
  .rfl
def yC {dst:Option Nat}{i:Nat}{o:x4}:s7 A6 (S5 st i o) k dst=(s7 A6 st k dst).map λs=>S5 s i o:=by
 have hx:F6 (S5 st i o) (.loc k)=((F6 st (.loc k)).1,S5 (F6 st (.loc k)).2 i o):=by
  grind [F6,S5]
 have e1:(S5 st i o).T=st.T:=rfl;have e2:(S5 st i o).l6=st.l6:=rfl;cases A6<;>cases dst<;>simp [s7,E2,V4,hx,e1]<;>first|rfl|(split<;>rfl)
def rB (i:o3):Bool:=match i.op with
 | .call .. =>W
 | .X9 .. =>W
 |_=>F
def uc (j8:List o3)(i:o3):Bool:=match i.op with
 | .K3 _ _ (.loc j) _=>(match j8[j]? with
  |some a=>(match a.op with
   | .J8 .. =>W
   |_=>F)
  |none=>F)
 |_=>F
def AM {i:o3}(h:uc j8 i=W):∃sz GM j y a,i.op= .K3 sz GM (.loc j) y/\j8[j]? =J a/\∀l st,iS l st a.op=F:=by
 unfold uc at h;split at h
 next sz GM j y hop=>
  split at h
  next a ha=>
   split at h
   next hb=>
    exact ⟨_,_,_,_,a,hop,ha,λl st=>by rw [hb];rfl⟩
   .cases h
  .cases h
 .cases h
def ED {l:J2}{st2:I5}{j:Nat}{a:o3}(ha:j8[j]? =J a)(hn:∀l st,iS l st a.op=F)(hL:st2.L[j]? =st.L[j]?):isNil l j8 st2 (.loc j)=isNil l j8 st (.loc j):=by
 simp only [isNil,hL,ha,hn]
def mM {α β:Type}{c:Prop} [Decidable c] (g:α->β){a:Option α}{b:Option β}(h:b=a.map g):(if c then b else K)=(if c then a else K).map g:=by
 subst h
 by_cases hc:c<;>simp [hc]
def ql {H:j9}{sz m:Nat}{o:x4}{y:c7}(h:y.J4<=m):C7 (H.set m o) sz y=C7 H sz y:=by
 cases y
 case s6 id z lo len =>
  simp only [c7.J4] at h;simp only [C7,rd];rw [x3 V]
 case d x=>cases x<;>rfl
 all_goals rfl
def RK {sz bytes j m:Nat}{y:y4}{o:x4}{a:o3}(ha:j8[j]? =J a)(hn:∀l st,iS l st a.op=F)(hm:m<O st.H)(hs:max (G7 st.T st.L (.loc j)).J4 (G7 st.T st.L y).J4<=m) :
  D3 E j8 A6 k (S5 st m o) (.K3 sz bytes (.loc j) y)=(D3 E j8 A6 k st (.K3 sz bytes (.loc j) y)).map λs=>S5 s m o:=by
 have e:∀x,G7 (S5 st m o).T (S5 st m o).L x=G7 st.T st.L x:=λ_=>rfl
 have e1:(S5 st m o).H=st.H.set m o:=rfl;have e2:newId (S5 st m o) K=newId st K:=by simp [newId,S5]
 simp only [D3,e];have key:∀r r2:Option I5,r2=r.map (λs=>S5 s m o)->gL (S5 st m o) r2=(gL st r).map λs=>S5 s m o:=by
  rintro r _ rfl;cases r with
  |none=>rfl
  |some s=>simp [gL,S5]
 refine key _ _ ?_;split
 next id z lo len hx=>
  rw [hx] at hs;simp only [c7.J4] at hs;refine mM _ ?_;unfold U9;rw [e1,x3 (show m≠id by omega),ql V,e2];refine mM _ ?_;cases h1:st.H[id]? with
  |none=>rfl
  |some ob =>
   cases ob with
   |cells l =>
    cases h2:C7 st.H sz (G7 st.T st.L y) with
    |none=>rfl
    |some p =>
     refine mM _ ?_;simp only [C6,Option.some.injEq,put,E1,S5,newId,List.length_set,Option.getD_none];rw [List.set_append_left _ _ (by simpa using hm),List.set_comm _ _ (show m≠id by omega)]
   |_=>rfl
 .unfold L8
  rw [e1,ql V,ED (st:=st) (st2:=S5 st m o) ha hn rfl];cases h2:C7 st.H sz (G7 st.T st.L y) with
  |none=>rfl
  |some p =>
   obtain ⟨m',cs⟩:=p;simp only [if_true]
   by_cases hc:isNil E.lim j8 st (.loc j)=W/\roomFor m' bytes=W/\0<sz
   case neg=>simp only [hc,if_false,Option.map_none]
   simp only [hc,and_self,if_true]
   by_cases h0:m' =0
   .simp only [h0,if_true];rfl
   .simp only [h0,if_false,C6,Option.some.injEq,put,E1,S5,newId,List.length_set,Option.getD_none]
    rw [List.set_append_left _ _ hm]
def rV {i:o3}{m:Nat}{o:x4}(hW:B8 E j8 A6 k i.op (S5 st m o)=(B8 E j8 A6 k i.op st).map λp=>(S5 p.1 m o,p.2)):y3 E j8 A6 k i (S5 st m o)=(y3 E j8 A6 k i st).map λp=>(S5 p.1 m o,p.2):=by
 unfold y3;have e3:y9 (S5 st m o).L i.guard=y9 st.L i.guard:=rfl;rw [e3,hW];split
 .cases hp:B8 E j8 A6 k i.op st with
  |none=>rfl
  |some p =>
   obtain ⟨s1,rs⟩:=p;simp only [C6];rw [yC];cases s7 A6 s1 k i.dst<;>rfl
 .have e4:put (S5 st m o) k (.tuple [])=S5 (put st k (.tuple [])) m o:=rfl
  rw [e4,yC];cases s7 A6 (put st k (.tuple [])) k i.dst<;>rfl
 .rfl
def Ky {i:o3}{m:Nat}{o:x4}(hc:uc j8 i=W)(hi:m<O st.H)(hs:J1 E st i.op<=m):y3 E j8 A6 k i (S5 st m o)=(y3 E j8 A6 k i st).map λp=>(S5 p.1 m o,p.2):=by
 obtain ⟨sz,GM,j,y,a,hop,ha,hn⟩:=AM hc;refine rV ?_;rw [hop] at hs ⊢;simp only [B8,s8.B7,if_true];rw [RK ha hn hi hs];cases D3 E j8 A6 k st (.K3 sz GM (.loc j) y)<;>rfl
def NM {i:o3}{m:Nat}{o:x4}(hc:rB i=W)(hi:m<O st.H)(hs:J1 E st i.op<=m):y3 E j8 A6 k i (S5 st m o)=(y3 E j8 A6 k i st).map λp=>(S5 p.1 m o,p.2):=by
 have hW:B8 E j8 A6 k i.op (S5 st m o)=(B8 E j8 A6 k i.op st).map λp=>(S5 p.1 m o,p.2):=by
  unfold rB at hc;unfold B8;have e:∀x,G7 (S5 st m o).T (S5 st m o).L x=G7 st.T st.L x:=λ_=>rfl
  split at hc
  next f xs hop=>
   rw [hop] at hs ⊢;simp only [s8.B7,if_true,D3];have:C9 E k f (xs.map (G7 (S5 st m o).T (S5 st m o).L)) (S5 st m o)=(C9 E k f (xs.map (G7 st.T st.L)) st).map λs=>S5 s m o:=tX hi hs
   rw [this];cases C9 E k f (xs.map (G7 st.T st.L)) st<;>rfl
  next x xs hop=>
   rw [hop] at hs ⊢;simp only [s8.B7,if_true,D3];rw [e x];simp only [J1] at hs;cases hx:G7 st.T st.L x with
   |func f first caps =>
    rw [hx] at hs;simp only at hs ⊢;have:C9 E k f (first++xs.map (G7 (S5 st m o).T (S5 st m o).L)++caps) (S5 st m o)=(C9 E k f (first++xs.map (G7 st.T st.L)++caps) st).map λs=>S5 s m o:=tX hi hs
    rw [this];cases C9 E k f (first++xs.map (G7 st.T st.L)++caps) st<;>rfl
   |_=>rfl
  .cases hc
 exact rV hW
def SQ {i:o3}{m:Nat}{o:x4}(hs:J1 E (S5 st m o) i.op<=m):J1 E st i.op=J1 E (S5 st m o) i.op:=by
 have e:∀x,G7 (S5 st m o).T (S5 st m o).L x=G7 st.T st.L x:=λ_=>rfl
 have e1:(S5 st m o).H=st.H.set m o:=rfl;cases hop:i.op<;>rw [hop] at hs<;>simp only [J1] at hs ⊢
 case call f xs =>
  simp only [e1,List.length_set] at hs ⊢
  by_cases hp:E.prom f=W
  .rw [if_pos hp,if_pos hp]
  .rw [if_neg hp] at hs ⊢
   rw [if_neg hp];exact xH _ _ _ _ _ _ hs
 case X9 x xs =>
  simp only [e x,e1,List.length_set] at hs ⊢;split at hs
  next f first caps hx=>
   by_cases hp:E.prom f=W
   .simp only [hp,if_true]
   .rw [if_neg hp] at hs ⊢
    rw [if_neg hp];exact xH _ _ _ _ _ _ hs
  .rfl
 case K3=>rfl
def V1 (s:I5)(dst:Option Nat)(u:c7):I5:=match dst with
 |none=>s
 |some t=>{ s with T:=s.T.set t u }
def BU (s:I5)(dst:Option Nat)(u:c7):(V1 s dst u).L=s.L:=by cases dst<;>rfl
def wR (s:I5)(dst:Option Nat)(u:c7):(V1 s dst u).H=s.H:=by cases dst<;>rfl
def VU (s:I5)(dst:Option Nat)(u:c7):(V1 s dst u).l6=s.l6:=by cases dst<;>rfl
def Fg (s:I5)(dst:Option Nat)(u:c7):O (V1 s dst u).T=O s.T:=by cases dst<;>simp [V1]
theorem qg {s:I5}{dst:Option Nat}{u:c7}{x:y4}(h:∀t,dst=J t->t∉x.slots):G7 (V1 s dst u).T (V1 s dst u).L x=G7 s.T s.L x:=by
 simp_all [G7,V1,y4.slots]<;>grind
def tY {f:FuncId}{args:List c7}{dst:Option Nat}{u:c7}:C9 E k f args (V1 st dst u)=(C9 E k f args st).map λs=>V1 s dst u:=by
 cases dst with
 |none=>grind [V1,C9]
 |some t =>
  unfold C9;have e1:(V1 st (J t) u).H=st.H:=rfl;have e2:(V1 st (J t) u).l6=st.l6:=rfl;simp [e1];split
  .split
   .split<;>rfl
   .rfl
  .split
   .split
    .split
     .split<;>rfl
     .rfl
    .split
     .split<;>rfl
     .rfl
    .split
     .split<;>rfl
     .rfl
   .rfl
def yD {dst dst' :Option Nat}{u:c7}(h:∀s,dst=J s->dst' ≠J s):s7 A6 (V1 st dst' u) k dst=(s7 A6 st k dst).map λs=>V1 s dst' u:=by
 cases dst' with
 |none=>simp_all [V1,s7]
 |some t =>
  have hx:F6 (V1 st (J t) u) (.loc k)=((F6 st (.loc k)).1,V1 (F6 st (.loc k)).2 (J t) u):=by
   simp [F6,V1];cases st.L[k]? with
   |none=>rfl
   |some a=>cases a<;>rfl
  have e2:(V1 st (J t) u).l6=st.l6:=rfl;have e3:O (V1 st (J t) u).T=O st.T:=Fg _ _ _;cases dst with
  |none=>cases A6<;>rfl
  |some s =>
   have hne:t≠s:=λe=>h s rfl (by rw [e])
   have e4:∀x,(V1 st (J t) u).T.set s x=(st.T.set s x).set t u:=λx=>List.set_comm _ _ hne
   cases A6<;>simp [s7,E2,V4,hx,e2,e3,e4]<;>split<;>rfl
def Ds (i:o3):Bool:= !i.op.B7&&(match i.op with
 | .S0 _=>F
 |_=>W)
def Cb {op:s8}(h:op.B7=F)(hm:∀y,op≠ .S0 y):B8 E j8 A6 k op st=(k8 (G7 st.T st.L) st.H op).map λp=>(put st k p.1,p.2):=by
 unfold B8;rw [h];cases op<;>first
  |exact (hm _ rfl).elim
  |(simp only [j5,if_false]
    generalize k8 _ _ _=r;cases r<;>rfl)
def Ou {i:o3}(h:Ds i=W):i.op.B7=F/\∀y,i.op≠ .S0 y:=by
 simp only [Ds,c9,o5] at h;refine ⟨h.1,λy e=>?_⟩;rw [e] at h;cases h.2
def mA {i:o3}(h:Ds i=W)(st:I5):G9 st i.op=F:=by
 have h1:=(Ou h).1;cases hop:i.op<;>rw [hop] at h1<;>first|rfl|(cases h1)
def rW {i:o3}{dst:Option Nat}{u:c7}(hd:∀s,i.dst=J s->dst≠J s)(hW:B8 E j8 A6 k i.op (V1 st dst u)=(B8 E j8 A6 k i.op st).map λp=>(V1 p.1 dst u,p.2)) :
  y3 E j8 A6 k i (V1 st dst u)=(y3 E j8 A6 k i st).map λp=>(V1 p.1 dst u,p.2):=by
 unfold y3;rw [BU,hW];split
 .cases hp:B8 E j8 A6 k i.op st with
  |none=>rfl
  |some p =>
   obtain ⟨s1,rs⟩:=p;simp only [C6];rw [yD hd];cases s7 A6 s1 k i.dst<;>rfl
 .have e4:put (V1 st dst u) k (.tuple [])=V1 (put st k (.tuple [])) dst u:=by cases dst<;>rfl
  rw [e4,yD hd];cases s7 A6 (put st k (.tuple [])) k i.dst<;>rfl
 .rfl
def RL {sz bytes j:Nat}{x y:y4}{dst:Option Nat}{u:c7}{a:o3}(hxj:x= .loc j)(ha:j8[j]? =J a)(hn:∀l st,iS l st a.op=F)(hy:G7 (V1 st dst u).T (V1 st dst u).L y=G7 st.T st.L y) :
  D3 E j8 A6 k (V1 st dst u) (.K3 sz bytes x y)=(D3 E j8 A6 k st (.K3 sz bytes x y)).map λs=>V1 s dst u:=by
 subst hxj;have e:G7 (V1 st dst u).T (V1 st dst u).L (.loc j)=G7 st.T st.L (.loc j):=by simp only [G7,BU]
 simp only [D3,e,hy];have key:∀r r2:Option I5,r2=r.map (λs=>V1 s dst u)->gL (V1 st dst u) r2=(gL st r).map λs=>V1 s dst u:=by
  rintro r _ rfl;cases r with
  |none=>rfl
  |some s=>cases dst<;>rfl
 refine key _ _ ?_;have e2:newId (V1 st dst u) K=newId st K:=by simp only [newId,wR]
 split
 next id z lo len hx=>
  refine mM _ ?_;unfold U9;rw [wR,e2];refine mM _ ?_;cases h1:st.H[id]? with
  |none=>rfl
  |some ob =>
   cases ob with
   |cells l =>
    cases h2:C7 st.H sz (G7 st.T st.L y) with
    |none=>rfl
    |some p =>
     refine mM _ ?_;cases dst<;>rfl
   |_=>rfl
 .unfold L8
  rw [wR,ED (st:=st) (st2:=V1 st dst u) ha hn (by rw [BU])];cases h2:C7 st.H sz (G7 st.T st.L y) with
  |none=>rfl
  |some p =>
   obtain ⟨m',cs⟩:=p;simp only [if_true]
   by_cases hc:isNil E.lim j8 st (.loc j)=W/\roomFor m' bytes=W/\0<sz
   case neg=>simp only [hc,if_false,Option.map_none]
   simp only [hc,and_self,if_true]
   by_cases h0:m' =0
   .simp only [h0,if_true];cases dst<;>rfl
   .simp only [h0,if_false];cases dst<;>rfl
def yz {i:o3}{dst:Option Nat}{u:c7}(hc:uc j8 i=W)(hu:∀t,dst=J t->t∉fC i)(hd:∀s,i.dst=J s->dst≠J s) :
  y3 E j8 A6 k i (V1 st dst u)=(y3 E j8 A6 k i st).map λp=>(V1 p.1 dst u,p.2):=by
 obtain ⟨sz,GM,j,y,a,hop,ha,hn⟩:=AM hc;refine rW hd ?_;have hy:G7 (V1 st dst u).T (V1 st dst u).L y=G7 st.T st.L y:=by
  refine qg λt ht hs=>hu t ht ?_
  unfold fC;exact List.mem_flatMap.2 ⟨y,by rw [hop];simp [s8.R1],hs⟩
 rw [hop];simp only [B8,s8.B7,if_true];rw [RL rfl ha hn hy];cases D3 E j8 A6 k st (.K3 sz GM (.loc j) y)<;>rfl
def tI {i:o3}{dst:Option Nat}{u:c7}(hc:rB i=W\/Ds i=W)(hu:∀t,dst=J t->t∉fC i)(hd:∀s,i.dst=J s->dst≠J s) :
  y3 E j8 A6 k i (V1 st dst u)=(y3 E j8 A6 k i st).map λp=>(V1 p.1 dst u,p.2):=by
 have hρ:∀x,x∈i.op.R1->G7 (V1 st dst u).T (V1 st dst u).L x=G7 st.T st.L x:=by
  intro x hx;refine qg λt ht hs=>hu t ht ?_
  unfold fC;exact List.mem_flatMap.2 ⟨x,hx,hs⟩
 have hW:B8 E j8 A6 k i.op (V1 st dst u)=(B8 E j8 A6 k i.op st).map λp=>(V1 p.1 dst u,p.2):=by
  rcases C4 (Ds i) with hd1|hd1
  .obtain ⟨h1,h2⟩:=Ou hd1
   rw [Cb h1 h2,Cb h1 h2,nU hρ,wR];have e4:∀v,put (V1 st dst u) k v=V1 (put st k v) dst u:=λv=>by cases dst<;>rfl
   cases k8 (G7 st.T st.L) st.H i.op with
   |none=>rfl
   |some p=>simp only [C6,e4]
  replace hc:rB i=W:=hc.resolve_right (by rw [hd1];simp)
  unfold rB at hc;unfold B8;split at hc
  next f xs hop=>
   rw [hop] at hρ ⊢;simp only [s8.B7,if_true,D3];rw [W2 (l:=xs) λy hy=>hρ y (by simp [s8.R1,hy]),tY];cases C9 E k f (xs.map (G7 st.T st.L)) st<;>rfl
  next x xs hop=>
   rw [hop] at hρ ⊢;simp only [s8.B7,if_true,D3];rw [hρ x (by simp [s8.R1]),W2 (l:=xs) λy hy=>hρ y (by simp [s8.R1,hy])];cases hx:G7 st.T st.L x with
   |func f first caps =>
    simp only;rw [tY];cases C9 E k f (first++xs.map (G7 st.T st.L)++caps) st<;>rfl
   |_=>rfl
  .cases hc
 exact rW hd hW
end
end Go.A5
namespace Go.A5
variable [E3]
def AN (i:o3):Bool:= !i.op.B7&&i.dst.isNone&&(match i.op with
 | .S0 (.loc _)=>F
 |_=>W)
def rC (i:o3):Bool:=match i.op with
 | .sP _=>W
 | .alloc _=>W
 | .box _=>W
 | .makeMap=>W
 | .iY .. =>W
 | .J8 _ _ _ _ b=>b
 |_=>F
section
variable {E:Env} {j8:List o3} {A6:Option Nat} {k q:Nat} {st st1 st2 st' :I5}
def gO {i:o3}(h:AN i=W)(st:I5):G9 st i.op=F:=by
 simp_all [AN,s8.B7,G9]<;>grind
def eV {i:o3}(h:AN i=W)(st:I5):J1 E st i.op=0:=by
 simp_all [AN,s8.B7,J1]<;>grind
def cm {i:o3}(h:rC i=W)(st:I5):G9 st i.op=F:=by
 grind [rC,G9]
def eU {i:o3}(h:rC i=W)(st:I5):J1 E st i.op=0:=by
 grind [rC,J1]
def gN {i:o3}(h:rC i=W):i.op.y7=W:=by
 grind [rC,s8.y7]
def RG {i:o3}(h:rB i=W)(st:I5):G9 st i.op=F:=by
 grind [rB,G9]
theorem kU {s:I5}{dst:Option Nat}(h:dst.isNone=W):s7 A6 s k dst=J s:=by
 cases dst with
 |none=>cases A6<;>rfl
 |some _=>simp at h
def GD {i:o3}(hP:AN i=W){rs:List Nat}(h:y3 E j8 A6 k i st=J (st',rs)) :
  ∃v,st' =put st k v/\∀s2:I5,(∀x,x∈i.op.R1->G7 s2.T s2.L x=G7 st.T st.L x)->y9 s2.L i.guard=y9 st.L i.guard->(∀id,id∈rs->S3 s2.H[id]? st.H[id]?) ->
   y3 E j8 A6 k i s2=J (put s2 k v,rs):=by
 simp only [AN,c9,o5] at hP;obtain ⟨⟨h1,h2⟩,h3⟩:=hP;unfold y3 at h;split at h
 next hw=>
  split at h
  next s1 rs1 hW=>
   rw [kU h2] at h;cases h;unfold B8 at hW;rw [h1] at hW;simp [j5,if_false] at hW;have other:∀{v:c7},(∀x,i.op≠ .S0 x)->k8 (G7 st.T st.L) st.H i.op=J (v,rs)->st' =put st k v->∃v,st' =put st k v/\∀s2:I5,(∀x,x∈i.op.R1->G7 s2.T s2.L x=G7 st.T st.L x)->y9 s2.L i.guard=y9 st.L i.guard->(∀id,id∈rs->S3 s2.H[id]? st.H[id]?) ->
     y3 E j8 A6 k i s2=J (put s2 k v,rs):=by
    intro v hm hp e;refine ⟨v,e,λs2 hρ hwd hr=>?_⟩;unfold y3;rw [hwd,hw];have:B8 E j8 A6 k i.op s2=J (put s2 k v,rs):=by
     unfold B8;have hp2:k8 (G7 s2.T s2.L) s2.H i.op=J (v,rs):=Kc (by simp_all [nU]) hr;simp_all
    simp_all [kU]
   split at hW
   next x hop=>
    cases hW;refine ⟨(F6 st x).1,?_,λs2 hρ hwd hr=>?_⟩
    .cases x with
     |loc j=>simp_all
     |slot s=>rfl
     |const c=>rfl
    .unfold y3
     have e1:F6 s2 x=((F6 st x).1,s2):=by
      simp_all [s8.R1,F6]<;>grind
     simp_all [B8,s8.B7,j5,if_false,kU]
   grind
  .cases h
 all_goals grind [kU,y3]
def nX (s:I5)(n:Nat):Option x4->I5
 |some o=>S5 s n o
 |none=>s
inductive NF (k n:Nat) (dst:Option Nat):(I5->I5)->Prop where
 |mk (o:Option x4) (v u:c7):NF k n dst (λs=>V1 (put (nX s n o) k v) dst u)
inductive NF0 (k:Nat) (dst:Option Nat):(I5->I5)->Prop where
 |mk (v u:c7):NF0 k dst (λs=>V1 (put s k v) dst u)
structure Alike (i:o3)(st s2:I5):Prop where
 T:O s2.T=O st.T
 L:O s2.L=O st.L
 l6:∀s,i.dst=J s->s2.l6.any (Touch.U8 s)=W
def KL {s:I5}{v:c7}{dst:Option Nat}(hv:∀z n c,v≠ .own z n c){s' :I5}(h:V4 (put s k v) k dst=J s') :
  ∃u,s' =V1 (put s k v) dst u/\∀s2:I5,O s2.T=O s.T->O s2.L=O s.L->(∀t,dst=J t->s2.l6.any (Touch.U8 t)=W)->V4 (put s2 k v) k dst=J (V1 (put s2 k v) dst u):=by
 cases dst with
 |none=>cases h;exact ⟨.any,rfl,λs2 _ _ _=>rfl⟩
 |some t =>
  have hx:∀s:I5,F6 (put s k v) (.loc k)=((if k<O s.L then v.Tm else .any),put s k v):=by
   simp_all [F6,put,G7,List.getD,c7.K9,c7.Tm,absurd]<;>grind
  simp only [V4,hx] at h;split at h
  next hc=>
   simp [c9,decide_eq_true_eq] at hc;cases h;refine ⟨_,rfl,λs2 h1 h2 h3=>?_⟩;simp only [V4,hx];have:(decide (t<O (put s2 k v).T)&&(put s2 k v).l6.any (Touch.U8 t))=W:=by
    simp_all [c9,decide_eq_true_eq,put]
   rw [if_pos this,h2];rfl
  .cases h
def HN (s:I5)(n:Nat)(o:Option x4):(nX s n o).T=s.T:=by cases o<;>rfl
def BT (s:I5)(n:Nat)(o:Option x4):(nX s n o).L=s.L:=by cases o<;>rfl
def Kt (s:I5)(n:Nat)(o:Option x4):(nX s n o).l6=s.l6:=by cases o<;>rfl
def GB {i:o3}{n:Nat}(hN:rC i=W){rs:List Nat}(h:y3 E j8 (J n) k i st=J (st',rs)) :
  rs=[]/\∃f,NF k n i.dst f/\(i.op.makes=F->NF0 k i.dst f)/\st' =f st/\∀s2:I5,(∀x,x∈i.op.R1->G7 s2.T s2.L x=G7 st.T st.L x)->y9 s2.L i.guard=y9 st.L i.guard->Alike i st s2->y3 E j8 (J n) k i s2=J (f s2,[]):=by
 unfold rC at hN;have h3:=hN;have bR5:i.op.B7=W:=by
  grind [s8.B7]
 have slot:∀(o:Option x4) (v:c7),(i.op.makes=F->o=K)->(∀z n c,v≠ .own z n c)->(∀s2:I5,(∀x,x∈i.op.R1->G7 s2.T s2.L x=G7 st.T st.L x)->y9 s2.L i.guard=y9 st.L i.guard->y3 E j8 (J n) k i s2=(V4 (put (nX s2 n o) k v) k i.dst).map λs=>(s,[])) ->
   rs=[]/\∃f,NF k n i.dst f/\(i.op.makes=F->NF0 k i.dst f)/\st' =f st/\∀s2:I5,(∀x,x∈i.op.R1->G7 s2.T s2.L x=G7 st.T st.L x)->y9 s2.L i.guard=y9 st.L i.guard->Alike i st s2->y3 E j8 (J n) k i s2=J (f s2,[]):=by
  intro o v ho hv hs;rw [hs st (λ_ _=>rfl) rfl] at h;cases ht:V4 (put (nX st n o) k v) k i.dst with
  |none=>simp_all
  |some s' =>
   rw [ht] at h;obtain ⟨rfl,rfl⟩:=h;obtain ⟨u,h4,h5⟩:=KL hv ht;refine ⟨rfl,_,NF.mk o v u,λhm=>by rw [ho hm];exact NF0.mk v u,h4,λs2 hρ hw ha=>?_⟩;rw [hs s2 hρ hw,h5 (nX s2 n o) (by rw [HN,HN];exact ha.T) (by rw [BT,BT];exact ha.L) (λt ht=>by rw [Kt];exact ha.l6 t ht)];rfl
 obtain ⟨wd,hw⟩:∃wd,y9 st.L i.guard=wd:=⟨_,rfl⟩;cases wd with
 |none=>simp_all [y3]
 |some b =>
  cases b with
  |false =>
   refine slot K (.tuple []) (λ_=>rfl) U λs2 hρ hwd=>?_
   unfold y3
   grind [s7,nX,V4,put]
  |true =>
   by_cases hcn:∃x,i.op= .sP x
   .obtain ⟨x,hx⟩:=hcn
    refine slot K (.d x) (λ_=>rfl) U λs2 hρ hwd=>?_
    grind [y3,B8,s8.B7,D3,s7,nX,V4,put]
   have hmk:i.op.makes=W:=by
    cases hop:i.op<;>rw [hop] at h3<;>first|exact h3|simp_all|simp_all|rfl
   have key:∀(o:x4) (v:c7),(∀z n c,v≠ .own z n c)->(∀s2:I5,(∀x,x∈i.op.R1->G7 s2.T s2.L x=G7 st.T st.L x)->D3 E j8 (J n) k s2 i.op=J (put (S5 s2 n o) k v)) ->
     rs=[]/\∃f,NF k n i.dst f/\(i.op.makes=F->NF0 k i.dst f)/\st' =f st/\∀s2:I5,(∀x,x∈i.op.R1->G7 s2.T s2.L x=G7 st.T st.L x)->y9 s2.L i.guard=y9 st.L i.guard->Alike i st s2->y3 E j8 (J n) k i s2=J (f s2,[]):=by
    intro o v hv h5;refine slot (J o) v (λh=>M) hv λs2 hρ hwd=>?_
    unfold y3
    grind [B8,put,S5,s7,nX,V4]
   obtain ⟨op,hop⟩:∃op,i.op=op:=⟨_,rfl⟩;have he:∃s1,D3 E j8 (J n) k st i.op=J s1:=by
    grind [y3,B8]
   obtain ⟨s1,he⟩:=he;have bi0 :∀x,op≠ .sP x:=λx e=>hcn ⟨x,hop.trans e⟩
   cases op<;>(try (exact absurd rfl (bi0 _)))<;>rw [hop] at h3<;>simp at h3<;>(try (cases h3;done))<;>rw [hop] at he<;>simp only [D3] at he
   next zero=>
    refine key (.cells zero) (.ptr n 0) U (λs2 _=>?_);rw [hop];rfl
   next x=>
    split at he
    next l hl=>
     refine key (.cells l) (.ptr n 0) U (λs2 hρ=>?_);rw [hop];simp only [D3];rw [hρ x (by simp [hop,s8.R1]),hl];rfl
    .cases he
   next sz len zero parts ob=>
    subst h3;simp only at he;split at he
    next cs hcs=>
     split at he
     next hl=>
      refine key (.cells cs) (.s6 n sz 0 len) U (λs2 hρ=>?_);rw [hop];simp only [D3];have e:(parts.map λx=>(x.1,x.2.1,G7 s2.T s2.L x.2.2))=(parts.map λx=>(x.1,x.2.1,G7 st.T st.L x.2.2)):=kP (λx hx=>hρ x (by grind [s8.R1]));have oJ :Z7 zero (parts.map λx=>(x.1,x.2.1,G7 st.T st.L x.2.2))=J cs:=hcs;simp only [e,oJ,if_pos hl];rfl
     .cases he
    .cases he
   .refine key (.map []) (.map n) U (λs2 _=>?_)
    rw [hop];rfl
   next sz zero x y=>
    split at he
    next m hm=>
     refine key (.cells (c8 m zero).flatten) (.s6 n sz 0 m) U (λs2 hρ=>?_);rw [hop];simp only [D3];rw [hρ x (by simp [hop,s8.R1]),hρ y (by simp [hop,s8.R1]),hm];rfl
    .cases he
end
end Go.A5
namespace Go.A5
variable [E3]
def Yo (i:o3):Bool:=match i.op with
 | .sP _=>W
 |_=>F
def wq {i:o3}(h:Yo i=W):rC i=W/\i.op.makes=F:=by
 unfold Yo at h;unfold rC;cases hop:i.op<;>rw [hop] at h<;>first|exact ⟨rfl,rfl⟩|(cases h)
def RF {j8:List o3}{i:o3}(h:uc j8 i=W)(st:I5):G9 st i.op=F:=by
 obtain ⟨sz,GM,j,y,a,hop,_⟩:=AM h;rw [hop];rfl
def gM {j8:List o3}{i:o3}(h:rB i=W\/uc j8 i=W)(st:I5):G9 st i.op=F:=h.elim (λh=>RG h st) λh=>RF h st
def Hy (j8:List o3)(j:Nat)(a:o3)(i:Nat)(b:o3):Bool :=
 !(dX j8 b).contains j&& !(dX j8 a).contains i &&
 (match b.dst with|some s=> !(fC a).contains s&&a.dst != J s|none=>W)&&(match a.dst with|some s=> !(fC b).contains s|none=>W) &&
 ((AN a&&(AN b||a.cR.contains i))||(AN b&&b.cR.contains j)||(rC a&&rC b)||(rC a&&(rB b||uc j8 b)&&a.cR.contains i)||((rB a||uc j8 a)&&rC b&&b.cR.contains j)||(Yo a&&Ds b)||(Ds a&&Yo b))
def Of (E:Env)(j8:List o3)(X7:Nat->Option Nat)(lg:Nat->gC)(k:Nat)(st st' :I5):Prop :=
 ∃i,j8[k]? =J i/\ja E j8 (X7 k) k i st=J (st',lg k)
structure Ru (j8:List o3)(X7:Nat->Option Nat):Prop where
 alloc:∀(k:Nat) i,j8[k]? =J i->(X7 k).isSome=i.op.y7
 inj:∀j k n,X7 j=J n->X7 k=J n->j=k
def Oe (j8:List o3)(lg:Nat->gC):Prop :=
 ∀(k:Nat) i e,j8[k]? =J i->e∈i.cR->G6 (lg e).Jm (lg k).reads=F/\(i.op.makes=W->(lg e).SP<=(lg k).id)
section
variable {E:Env} {j8:List o3} {A6:Option Nat} {k q:Nat} {v:c7} {st st1 st2 st' :I5}
def cr {i:o3}{l:gC}:ja E j8 A6 k i st=J (st',l)↔(G9 st i.op&&j8.any λa=>a.cR.contains k&& !calm st i.op a)=F/\∃rs,y3 E j8 A6 k i st=J (st',rs)/\l=Y9 E i A6 st st' rs:=by
 grind [ja]
def dW {i:o3}{l:gC}(h:G9 st i.op=F/\∃rs,y3 E j8 A6 k i st=J (st',rs)/\l=Y9 E i A6 st st' rs):ja E j8 A6 k i st=J (st',l) :=
 cr.2 ⟨by rw [h.1];rfl,h.2⟩
def OZ {j:Nat}{i b:o3}{q:Nat}(h:(G9 st i.op&&j8.any λa=>a.cR.contains j&& !calm st i.op a)=F)(hk:G9 st i.op=W)(hb:j8[q]? =J b)(hu:j∈b.cR):calm st i.op b=W:=by
 grind
def IE {op:s8}{a:o3}(h:calm st op a=W):∃sz GM ob x y s id z lo n j o,op= .append sz GM ob x y/\a.op= .S0 (.slot s)/\a.dst=K/\a.guard=K/\G7 st.T st.L x= .s6 id z lo n/\st.T[s]? =J (.ptr j o)/\j≠id:=by
 unfold calm at h;split at h
 next sz GM ob x y s ho=>
  simp [c9,Option.isNone_iff_eq_none] at h;obtain ⟨⟨h1,h2⟩,h3⟩:=h;split at h3
  next id z lo n j o h4 h5=>
   exact ⟨_,_,_,_,_,_,_,_,_,_,_,_,rfl,ho,h1,h2,h4,h5,λe=>M⟩
  .cases h3
 .cases h
def AF {s2:I5}{op:s8}{a:o3}(h:∀x,x∈op.R1->G7 s2.T s2.L x=G7 st.T st.L x)(hT:s2.T=st.T):calm s2 op a=calm st op a:=by
 unfold calm
 grind [s8.R1]
def IF {sz GM :Nat}{ob:Bool}{x y:y4}{id z lo n j o:Nat}(h:G7 st.T st.L x= .s6 id z lo n)(hj:j≠id):Im st (.append sz GM ob x y) (.ptr j o):=λ_ _ _ x' _ id' _ _ _ e hx=>by
 simp_all [c7.kill]
def uG {a:o3}{s j o:Nat}(h1:a.op= .S0 (.slot s))(h2:a.dst=K)(h3:a.guard=K)(h:st.T[s]? =J (.ptr j o)):y3 E j8 A6 k a st=J (put st k (.ptr j o),[]):=by
 have e:(F6 st (.slot s))=(.ptr j o,st):=by simp [F6,G7,h,c7.K9]
 simp [y3,h3,B8,h1,e,h2];cases A6<;>rfl
def Is {i:o3}{sz GM :Nat}{ob:Bool}{x y:y4}{id z lo n s j o:Nat}{rs:List Nat}(hop:i.op= .append sz GM ob x y)(hx:G7 st.T st.L x= .s6 id z lo n)(h:y3 E j8 A6 k i st=J (st',rs))(hs:i.dst≠J s)(hT:st.T[s]? =J (.ptr j o))(hj:j≠id):st'.T[s]? =J (.ptr j o):=by
 have slot:∀s1 s2:I5,s7 A6 s1 k i.dst=J s2->s1.T[s]? =J (.ptr j o)->s2.T[s]? =J (.ptr j o):=by
  intro s1 s2 h h1;cases hd:i.dst with
  |none=>rw [hd] at h;cases A6<;>cases h<;>exact h1
  |some t =>
   cases A6<;>simp only [s7,E2,V4] at h<;>split at h<;>first|grind|grind
 unfold y3 at h;split at h
 .split at h
  next s1 rs1 h1=>
   split at h
   next s2 h2=>
    cases h;refine slot _ _ h2 ?_;simp [B8,hop,s8.B7,if_true,D3,hx] at h1;split at h1
    next s3 h3=>
     cases h1;split at h3
     .unfold X8 at h3
      split at h3
      .split at h3
       .split at h3
        .cases h3
         have e:∀(l:List c7) (s:Nat),l[s]? =J (.ptr j o)->(O6 id l)[s]? =J (.ptr j o):=by
          intro l
          induction l with
          |nil=>simp_all
          |cons a l ih =>
           grind [O6,c7.kill]
         exact e _ _ hT
        .cases h3
       .cases h3
      .cases h3
     .cases h3
    .cases h1
   .cases h
  .cases h
 .split at h
  next s2 h2=>
   cases h;exact slot _ _ h2 hT
  .cases h
 .cases h
def ij {s2:I5}{op:s8}(h:∀x,x∈op.R1->G7 s2.T s2.L x=G7 st.T st.L x):G9 s2 op=G9 st op:=by
 cases op<;>simp [G9];simp_all [s8.R1]
def gU {s2:I5}{op:s8}(h:∀x,x∈op.R1->G7 s2.T s2.L x=G7 st.T st.L x)(hH:s2.H=st.H):J1 E s2 op=J1 E st op:=by
 cases op<;>simp only [J1,s8.R1] at h ⊢
 case call f xs=>rw [hH,W2 h]
 case X9 x xs=>rw [hH,h x U,W2 (l:=xs) λy hy=>h y (by simp [hy])]
 case K3 sz GM x y=>rw [h x U,h y U]
def W6 {i:o3}(hu:q∉dX j8 i):∀x,x∈i.op.R1->G7 (put st q v).T (put st q v).L x=G7 st.T st.L x :=
 λ_ hx=>qT (P7 hx hu)
theorem NF.G7 {n:Nat}{dst:Option Nat}{f:I5->I5}(hf:NF k n dst f){x:y4}(h:k∉x.dL)(ht:∀t,dst=J t->t∉x.slots)(s:I5):G7 (f s).T (f s).L x=G7 s.T s.L x:=by
 cases hf with
 |mk o v u =>
  simp_all [qg,qT,HN,BT]
def NF.wanted {n:Nat}{dst:Option Nat}{f:I5->I5}(hf:NF k n dst f){g:Option (Nat×Bool)}(h:∀j b,g=J (j,b)->j≠k)(s:I5):y9 (f s).L g=y9 s.L g:=by
 cases hf with
 |mk o v u =>
  simp_all [BU,wanted_put,BT]
theorem NF.l6 {n:Nat}{dst:Option Nat}{f:I5->I5}(hf:NF k n dst f)(s:I5):(f s).l6=s.l6:=by
 cases hf with
 |mk o v u =>
  rw [VU];exact Kt _ _ _
def NF.Y8 {n:Nat}{dst:Option Nat}{f:I5->I5}(hf:NF k n dst f)(s:I5):O (f s).T=O s.T:=by
 cases hf with
 |mk o v u =>
  rw [Fg];show O (nX s n o).T=_
  rw [HN]
def NF.jT {n:Nat}{dst:Option Nat}{f:I5->I5}(hf:NF k n dst f)(s:I5):O (f s).L=O s.L:=by
 cases hf with
 |mk o v u =>
  simp_all [BU,put,BT]
def NF.comm {n m j i:Nat}{d e:Option Nat}{f g:I5->I5}(hf:NF j n d f)(hg:NF i m e g)(hji:j≠i)(hnm:n≠m)(hde:∀s,e=J s->d≠J s)(s:I5):f (g s)=g (f s):=by
 cases hf with
 |mk o v u =>
  cases hg with
  |mk o' v' u' =>
   have rF:∀(l:List x4) (a b:x4),(l.set m b).set n a=(l.set n a).set m b:=λl a b=>List.set_comm _ _ (λe=>hnm e.symm)
   have hL:∀(l:List c7) (a b:c7),(l.set i b).set j a=(l.set j a).set i b:=λl a b=>List.set_comm _ _ (λe=>hji e.symm)
   cases o<;>cases o' <;>cases d<;>cases e<;>simp [V1,nX,S5,put,hL]
   all_goals grind [set,List.set_comm]
def NG {i:o3}{m:Nat}{o:x4}(hs:J1 E st i.op<=m):J1 E (S5 st m o) i.op=J1 E st i.op:=by
 have e:∀x,G7 (S5 st m o).T (S5 st m o).L x=G7 st.T st.L x:=λ_=>rfl
 have e1:(S5 st m o).H=st.H.set m o:=rfl;have e2:∀xs,List.map (G7 (S5 st m o).T (S5 st m o).L) xs=List.map (G7 st.T st.L) xs:=λ_=>rfl
 cases hop:i.op<;>rw [hop] at hs<;>simp only [J1] at hs ⊢
 case call f xs =>
  simp only [e1,e2,List.length_set]
  by_cases hp:E.prom f=W
  .rw [if_pos hp,if_pos hp]
  .rw [if_neg hp] at hs ⊢
   rw [if_neg hp];exact jN _ _ _ _ _ _ hs
 case X9 x xs =>
  simp only [e x,e1,e2,List.length_set];split at hs
  next f first caps hx=>
   by_cases hp:E.prom f=W
   .simp only [hp,if_true]
   .rw [if_neg hp] at hs ⊢
    rw [if_neg hp];exact jN _ _ _ _ _ _ hs
  .rfl
 case K3=>rfl
def NF.SP {n j:Nat}{dst:Option Nat}{f:I5->I5}(hf:NF j n dst f){i:o3}(hu:j∉dX j8 i)(ht:∀t,dst=J t->t∉fC i) :
  ∃o:Option x4,J1 E (f st) i.op=J1 E (nX st n o) i.op:=by
 cases hf with
 |mk o v u =>
  refine ⟨o,?_⟩;refine gU (λx hx=>?_) ?_
  .grind [qg,qT,P7,fC]
  .simp [wR]
   rfl
def az1 {i:o3}{n j:Nat}{dst:Option Nat}{f:I5->I5}(hf:NF j n dst f)(hC:rB i=W\/uc j8 i=W)(hjk:j≠k)(hu:j∉dX j8 i)(ht:∀t,dst=J t->t∉fC i)(hd:∀s,i.dst=J s->dst≠J s)(hn:n<O st.H)(hs:J1 E st i.op<=n) :
  y3 E j8 A6 k i (f st)=(y3 E j8 A6 k i st).map (λp=>(f p.1,p.2))/\J1 E (f st) i.op=J1 E st i.op:=by
 refine ⟨?_,?_⟩
 .cases hf with
  |mk o v u =>
   have h1:=hC.elim (λhC=>tI (E:=E) (j8:=j8) (A6:=A6) (k:=k) (st:=put (nX st n o) j v) (u:=u) (.inl hC) ht hd) λhC=>yz (E:=E) (j8:=j8) (A6:=A6) (k:=k) (st:=put (nX st n o) j v) (u:=u) hC ht hd
   have h2:=jI (E:=E) (A6:=A6) (v:=v) (st:=nX st n o) hjk hu (.of (gM hC _));have h3:y3 E j8 A6 k i (nX st n o)=(y3 E j8 A6 k i st).map (λp=>(nX p.1 n o,p.2)):=by
    cases o with
    |none=>simp only [nX];cases y3 E j8 A6 k i st<;>rfl
    |some o=>exact hC.elim (λhC=>NM hC hn hs) λhC=>Ky hC hn hs
   simp only;rw [h1,h2,h3];cases y3 E j8 A6 k i st<;>rfl
 .obtain ⟨o,ho⟩:=hf.SP (E:=E) (st:=st) hu ht
  rw [ho];cases o with
  |none=>rfl
  |some o=>exact NG hs
def aa8 {i:o3}{j:Nat}{dst:Option Nat}{f:I5->I5}(hf:NF0 j dst f)(hC:(rB i=W\/uc j8 i=W)\/Ds i=W)(hjk:j≠k)(hu:j∉dX j8 i)(ht:∀t,dst=J t->t∉fC i)(hd:∀s,i.dst=J s->dst≠J s) :
  y3 E j8 A6 k i (f st)=(y3 E j8 A6 k i st).map (λp=>(f p.1,p.2))/\J1 E (f st) i.op=J1 E st i.op:=by
 cases hf with
 |mk v u =>
  have h1:y3 E j8 A6 k i (V1 (put st j v) dst u)=(y3 E j8 A6 k i (put st j v)).map λp=>(V1 p.1 dst u,p.2):=by
   rcases hC with (hC|hC)|hC
   .exact tI (.inl hC) ht hd
   .exact yz hC ht hd
   .exact tI (.inr hC) ht hd
  have h2:=jI (E:=E) (A6:=A6) (v:=v) (st:=st) hjk hu (.of (hC.elim (λh=>gM h _) (λh=>mA h _)));refine ⟨?_,?_⟩
  .simp only
   rw [h1,h2];cases y3 E j8 A6 k i st<;>rfl
  .refine gU (λx hx=>?_) (by rw [wR];rfl)
   rw [qg (λt ht' =>λhs=>ht t ht' (by unfold fC;exact List.mem_flatMap.2 ⟨x,hx,hs⟩)),qT (P7 hx hu)]
def Rq {i:o3}{n j:Nat}{dst:Option Nat}{f:I5->I5}(hf:NF j n dst f)(hu:j∉dX j8 i)(ht:∀t,dst=J t->t∉fC i)(hs:J1 E (f st) i.op<=n):J1 E st i.op=J1 E (f st) i.op:=by
 obtain ⟨o,ho⟩:=hf.SP (E:=E) (st:=st) hu ht;rw [ho] at hs ⊢;cases o with
 |none=>rfl
 |some o=>exact SQ hs
def mK {i:o3}{s s2 s' s2' :I5}{rs:List Nat}(h1:s2.l6=s.l6)(h2:s2'.l6=s'.l6)(h3:J1 E s2 i.op=J1 E s i.op):Y9 E i A6 s2 s2' rs=Y9 E i A6 s s' rs:=by
 simp_all [Y9]
def fe {i:o3}{s s2 s' s2' :I5}{rs:List Nat}(h1:s2'.l6.take (O s2'.l6 - O s2.l6)=s'.l6.take (O s'.l6 - O s.l6))(h3:J1 E s2 i.op=J1 E s i.op):Y9 E i A6 s2 s2' rs=Y9 E i A6 s s' rs:=by
 simp_all [Y9]
def Still.HK {i b:o3}{d:List Touch}{zL:Option Nat}{kb:Nat}(h:Still kb b.dst zL d st st')(hl:kb∉dX j8 i)(ht:∀s,b.dst=J s->s∉fC i):∀x,x∈i.op.R1->A5.G7 st'.T st'.L x=A5.G7 st.T st.L x:=by
 intro x hx;refine h.G7 (P7 hx hl) λs hs e=>ht s e ?_
 simp_all [fC,List.mem_flatMap]
def Still.rj {i b:o3}{d:List Touch}{zL:Option Nat}{kb:Nat}(h:Still kb b.dst zL d st st')(hl:kb∉dX j8 i):y9 st'.L i.guard=y9 st.L i.guard :=
 h.wanted λ_ _ hg=>ew hg hl
def jJ (j8:List o3)(st:I5):Prop:=∀(k:Nat) i s,j8[k]? =J i->i.op.y7=W->i.dst=J s->st.l6.any (Touch.U8 s)=W
def Still.marked {kb:Nat}{dst zL:Option Nat}{d:List Touch}(h:Still kb dst zL d st st')(hm:jJ j8 st):jJ j8 st' :=by
 intro k i s hi ha hd;rw [h.l6,List.any_append,hm k i s hi ha hd];simp
def wX {i:o3}{rs:List Nat}(hn:A6.isSome=i.op.y7)(h:y3 E j8 A6 k i st=J (st',rs)):O st.H<=O st'.H/\∃d,st'.l6=d++st.l6:=by
 cases hk:G9 st i.op with
 |false =>
  obtain ⟨d,hd⟩:=Still.y3 hk hn h;exact ⟨hd.No,d,hd.l6⟩
 |true =>
  have slot:∀{s s2:I5} {dst:Option Nat},s7 A6 s k dst=J s2->O s.H=O s2.H/\∃d,s2.l6=d++s.l6:=by
   intro s s2 dst h;have hx:(F6 s (.loc k)).2.H=s.H/\(F6 s (.loc k)).2.l6=s.l6:=by
    simp only [F6];split<;>exact ⟨rfl,rfl⟩
   cases dst with
   |none=>cases A6<;>simp only [s7,E2,V4,Option.some.injEq] at h<;>subst h<;>exact ⟨rfl,[],rfl⟩
   |some t =>
    cases A6<;>simp only [s7,E2,V4] at h
    .split at h
     .cases h;exact ⟨by simp only [hx.1],[_],rfl⟩
     .cases h
    .split at h
     .cases h;exact ⟨by simp only [hx.1],[],by simp only [hx.2];rfl⟩
     .cases h
  have bu5:∀{v:c7} {s2:I5},s7 A6 (put st k v) k i.dst=J s2->O st.H<=O s2.H/\∃d,s2.l6=d++st.l6:=by
   intro v s2 h;obtain ⟨h1,d,h2⟩:=slot h;exact ⟨Nat.le_of_eq h1,d,h2⟩
  simp only [y3] at h;split at h
  .split at h
   next s1 rs1 h1=>
    split at h
    next s2 h2=>
     cases h;obtain ⟨e1,d,e2⟩:=slot h2;have hw:O st.H<=O s1.H/\∃d,s1.l6=d++st.l6:=by
      cases hop:i.op<;>rw [hop] at hk h1<;>simp only [G9,j5] at hk
      next sz bytes ob x y=>
       simp only [B8,s8.B7,if_true] at h1;split at h1
       next s3 h3=>
        cases h1;simp only [D3] at h3;split at hk
        next id z lo len hr=>
         rw [hr] at h3;simp only at h3;split at h3
         .simp only [X8] at h3
          split at h3
          .split at h3
           .split at h3
            .cases h3
             refine ⟨by simp [put];omega,[_],rfl⟩
            .cases h3
           .cases h3
          .cases h3
         .cases h3
        .cases hk
       .cases h1
     obtain ⟨e3,d2,e4⟩:=hw;exact ⟨V,d++d2,by rw [e2,e4,K2]⟩
    .cases h
   .cases h
  .split at h
   next s2 h2=>
    cases h;exact bu5 h2
   .cases h
  .cases h
theorem jJ.ext (hm:jJ j8 st)(h:∃d,st'.l6=d++st.l6):jJ j8 st' :=by
 obtain ⟨d,h⟩:=h;intro k i s hi ha hd;rw [h,List.any_append,hm k i s hi ha hd];simp
def swap {X7:Nat->Option Nat}{lg:Nat->gC}(hn:Ru j8 X7)(YJ:Oe j8 lg){j i:Nat}{a b:o3}(hp:Hy j8 j a i b=W)(ha:j8[j]? =J a)(hb:j8[i]? =J b)(hji:j≠i)
  (hin:∀k n,X7 k=J n->n<O st.H) (xR:jJ j8 st) (h1:Of E j8 X7 lg j st st1) (h2:Of E j8 X7 lg i st1 st2):∃Kw,Of E j8 X7 lg i st Kw /\Of E j8 X7 lg j Kw st2:=by
 obtain ⟨a',ha',h1⟩:=h1;rw [ha] at ha';cases ha';obtain ⟨b',hb',h2⟩:=h2;rw [hb] at hb';cases hb';obtain ⟨ka0,rsa,sa,la⟩:=cr.1 h1;obtain ⟨kb0,rsb,sb,lb⟩:=cr.1 h2;simp only [Hy,c9,o5,List.contains_eq_mem,decide_eq_false_iff_not] at hp;obtain ⟨⟨⟨⟨u1,u2⟩,t1⟩,t2⟩,fN⟩:=hp;have t1' :∀s,b.dst=J s->s∉fC a:=by
  intro s hs;rw [hs] at t1;simp at t1;exact t1.1
 have t3:∀s,b.dst=J s->a.dst≠J s:=by
  intro s hs;rw [hs] at t1;simp at t1;exact t1.2
 have t4:∀s,a.dst=J s->b.dst≠J s:=λs hs h=>t3 s h hs
 have t2' :∀s,a.dst=J s->s∉fC b:=by
  intro s hs;rw [hs] at t2;simpa using t2
 have Vh:=hn.alloc j a ha;have zL:=hn.alloc i b hb;simp only [Bool.or_eq_true,c9,decide_eq_true_eq] at fN;cases kb:G9 st1 b.op with
 |true =>
  have hu:AN a=W/\i∈a.cR:=by
   rcases fN with (((((h|h)|h)|h)|h)|h)|h
   .rcases h.2 with h2|h2
    .rw [gO h2] at kb;cases kb
    .exact ⟨h.1,h2⟩
   .rw [gO h.1] at kb;cases kb
   .rw [cm h.2] at kb;cases kb
   .rw [gM h.1.2] at kb;cases kb
   .rw [cm h.1.2] at kb;cases kb
   .rw [mA h.2] at kb;cases kb
   .rw [cm (wq h.2).1] at kb;cases kb
  obtain ⟨sz,GM,ob,x,y,s,id,z,lo,n,jd,o,hop,XS,hd,hg,hx,hT,hne⟩:=IE (OZ kb0 kb ha hu.2);obtain ⟨v,e0,_⟩:=GD hu.1 sa;have hT0:st.T[s]? =J (.ptr jd o):=by rw [e0] at hT;exact hT
  rw [uG XS hd hg hT0] at sa;obtain ⟨rfl,rfl⟩:put st j (.ptr jd o)=st1/\[]=rsa:=by simpa using sa
  have hx0:G7 st.T st.L x= .s6 id z lo n:=by rw [<- W6 u1 x (by simp [hop,s8.R1])];exact hx
  rw [jI hji u1 (by rw [hop];exact IF hx0 hne)] at sb;cases Bm:y3 E j8 (X7 i) i b st with
  |none=>rw [Bm] at sb;cases sb
  |some p =>
   obtain ⟨s',rs'⟩:=p;rw [Bm] at sb;simp only [C6,Option.some.injEq,Prod.mk.injEq] at sb;obtain ⟨rfl,rfl⟩:=sb;have hTs:=Is hop hx0 Bm (λe=>t1' s e (by simp [fC,XS,s8.R1,y4.slots])) hT0 hne;refine ⟨s',⟨b,hb,cr.2 ⟨?_,rs',Bm,?_⟩⟩,a,ha,cr.2 ⟨by rw [gO hu.1];rfl,[],uG XS hd hg hTs,?_⟩⟩
   .rw [<- kb0,ij (W6 u1)]
    simp only [AF (W6 u1) (show (put st j (.ptr jd o)).T=st.T from rfl)]
   .rw [lb];exact mK rfl rfl (gU (W6 u1) rfl)
   .rw [la];exact (fe (by simp [put]) (by rw [eV hu.1,eV hu.1])).symm
 |false =>
 cases ka:G9 st a.op with
 |true =>
  have hu:AN b=W/\j∈b.cR:=by
   rcases fN with (((((h|h)|h)|h)|h)|h)|h
   .rw [gO h.1] at ka;cases ka
   .exact ⟨h.1,h.2⟩
   .rw [cm h.1] at ka;cases ka
   .rw [cm h.1.1] at ka;cases ka
   .rw [gM h.1.1] at ka;cases ka
   .rw [cm (wq h.1).1] at ka;cases ka
   .rw [mA h.1] at ka;cases ka
  obtain ⟨sz,GM,ob,x,y,s,id,z,lo,n,jd,o,hop,XS,hd,hg,hx,hT,hne⟩:=IE (OZ ka0 ka hb hu.2);have hT1:=Is hop hx sa (λe=>t2' s e (by simp [fC,XS,s8.R1,y4.slots])) hT hne;rw [uG XS hd hg hT1] at sb;obtain ⟨rfl,rfl⟩:put st1 i (.ptr jd o)=st2/\[]=rsb:=by simpa using sb
  refine ⟨put st i (.ptr jd o),⟨b,hb,cr.2 ⟨by rw [gO hu.1];rfl,[],uG XS hd hg hT,?_⟩⟩,a,ha,cr.2 ⟨?_,rsa,?_,?_⟩⟩
  .rw [lb];exact fe (by simp [put]) (by rw [eV hu.1,eV hu.1])
  .rw [<- ka0,ij (W6 u2)]
   simp only [AF (W6 u2) (show (put st i (.ptr jd o)).T=st.T from rfl)]
  .rw [jI (λe=>hji e.symm) u2 (by rw [hop];exact IF hx hne),sa]
   rfl
  .rw [la];exact (mK (s:=st) (s2:=put st i (.ptr jd o)) (s' :=st1) (s2' :=put st1 i (.ptr jd o)) rfl rfl (gU (W6 u2) rfl)).symm
 |false =>
 obtain ⟨da,stA⟩:=Still.y3 ka Vh sa;have ao9:rC a=W->((rB b=W\/uc j8 b=W)\/Ds b=W)->(a.op.makes=W->(rB b=W\/uc j8 b=W)/\i∈a.cR)->∃Kw,Of E j8 X7 lg i st Kw /\Of E j8 X7 lg j Kw st2:=by
  intro Tn hCD UE;have hkb:∀s,G9 s b.op=F:=λs=>hCD.elim (λh=>gM h s) (λh=>mA h s)
  have DB:=gN Tn;rw [DB] at Vh;obtain ⟨n,hn1⟩:=Option.isSome_iff_exists.1 Vh;rw [hn1] at sa;obtain ⟨rfl,f,hf,hf0,rfl,Ta⟩:=GB Tn sa;obtain ⟨hs1,hs2⟩:y3 E j8 (X7 i) i b (f st)=(y3 E j8 (X7 i) i b st).map (λp=>(f p.1,p.2))/\J1 E (f st) b.op=J1 E st b.op:=by
   cases hmk:a.op.makes with
   |true =>
    have YP:J1 E (f st) b.op<=n:=by
     have:=(YJ j a i ha (UE hmk).2).2 hmk;rw [lb,la] at this;simpa [Y9,hn1] using this
    have aE9:=Rq hf u1 t2' YP;exact az1 (E:=E) (j8:=j8) (A6:=X7 i) hf (UE hmk).1 hji u1 t2' t3 (hin j n hn1) (by rw [aE9];exact YP)
   |false=>exact aa8 (hf0 hmk) hCD hji u1 t2' t3
  rw [hs1] at sb;cases Bm:y3 E j8 (X7 i) i b st with
  |none=>rw [Bm] at sb;cases sb
  |some p =>
   obtain ⟨s',rs'⟩:=p;rw [Bm] at sb;simp only [C6,Option.some.injEq,Prod.mk.injEq] at sb;obtain ⟨rfl,rfl⟩:=sb;obtain ⟨db,ZT⟩:=Still.y3 (hkb st) zL Bm;refine ⟨s',⟨b,hb,dW ⟨hkb _,rs',Bm,?_⟩⟩,a,ha,dW ⟨cm Tn _,[],?_,?_⟩⟩
   .rw [lb]
    exact mK (hf.l6 _) (hf.l6 _) hs2
   .rw [hn1]
    exact Ta s' (ZT.HK u2 t1') (ZT.rj u2) ⟨ZT.Y8,ZT.jT,λs hs=>ZT.marked xR j a s ha DB hs⟩
   .rw [la]
    refine fe ?_ ?_
    .simp [hf.l6]
    .rw [eU Tn,eU Tn]
 have ap0:rC b=W->((rB a=W\/uc j8 a=W)\/Ds a=W)->(b.op.makes=W->(rB a=W\/uc j8 a=W)/\j∈b.cR)->∃Kw,Of E j8 X7 lg i st Kw /\Of E j8 X7 lg j Kw st2:=by
  intro To hCD UE;have hka:∀s,G9 s a.op=F:=λs=>hCD.elim (λh=>gM h s) (λh=>mA h s)
  have DB:=gN To;rw [DB] at zL;obtain ⟨m,Mp⟩:=Option.isSome_iff_exists.1 zL;rw [Mp] at sb;obtain ⟨rfl,g,hg,XR,rfl,Tb⟩:=GB To sb;obtain ⟨hs1,hs2⟩:y3 E j8 (X7 j) j a (g st)=(y3 E j8 (X7 j) j a st).map (λp=>(g p.1,p.2))/\J1 E (g st) a.op=J1 E st a.op:=by
   cases hmk:b.op.makes with
   |true =>
    have YP:J1 E st a.op<=m:=by
     have:=(YJ i b j hb (UE hmk).2).2 hmk;rw [lb,la] at this;simpa [Y9,Mp] using this
    exact az1 (E:=E) (j8:=j8) (A6:=X7 j) hg (UE hmk).1 (λe=>hji e.symm) u2 t1' t4 (hin i m Mp) YP
   |false=>exact aa8 (XR hmk) hCD (λe=>hji e.symm) u2 t1' t4
  have sb0:y3 E j8 (J m) i b st=J (g st,[]) :=
   Tb st (λx hx=>(stA.HK u1 t2' x hx).symm) (stA.rj u1).symm ⟨stA.Y8.symm,stA.jT.symm,λs hs=>xR i b s hb DB hs⟩
  refine ⟨g st,⟨b,hb,dW ⟨cm To _,[],by rw [Mp];exact sb0,?_⟩⟩,a,ha,dW ⟨hka _,rsa,?_,?_⟩⟩
  .rw [lb]
   refine fe ?_ ?_
   .simp [hg.l6]
   .rw [eU To,eU To]
  .rw [hs1,sa];rfl
  .rw [la]
   exact (mK (hg.l6 _) (hg.l6 _) hs2).symm
 rcases fN with (((((fN|fN)|fN)|fN)|fN)|fN)|fN
 ·
  obtain ⟨hPa,fN⟩:=fN;obtain ⟨v,rfl,Ta⟩:=GD hPa sa;have kb' :G9 st b.op=F:=by rw [<- ij (W6 u1)];exact kb
  have hs:=jI (E:=E) (A6:=X7 i) (v:=v) hji u1 (.of kb');rw [hs] at sb;cases Bm:y3 E j8 (X7 i) i b st with
  |none=>rw [Bm] at sb;cases sb
  |some p =>
   obtain ⟨s',rs'⟩:=p;rw [Bm] at sb;simp only [C6,Option.some.injEq,Prod.mk.injEq] at sb;obtain ⟨rfl,rfl⟩:=sb;have lb' :lg i=Y9 E b (X7 i) st s' rs' :=by rw [lb];exact mK rfl rfl (gU (W6 u1) rfl)
   obtain ⟨db,ZT⟩:=Still.y3 kb' zL Bm;refine ⟨s',⟨b,hb,dW ⟨kb',rs',Bm,lb'⟩⟩,a,ha,dW ⟨gO hPa _,rsa,?_,?_⟩⟩
   .refine Ta s' (ZT.HK u2 t1') (ZT.rj u2) λid hid=>?_
    rcases fN with hPb|hun
    .obtain ⟨u,rfl,_⟩:=GD hPb Bm
     exact S3.refl _
    .have:=(YJ j a i ha hun).1
     rw [lb',la] at this;exact ZT.reads (E:=E) (i:=b) (rs:=rs') this hid
   .rw [la]
    refine (fe ?_ ?_).symm
    .simp [put]
    .rw [eV hPa,eV hPa]
 ·
  obtain ⟨hPb,hun⟩:=fN;obtain ⟨v,rfl,Tb⟩:=GD hPb sb;have sb0:y3 E j8 (X7 i) i b st=J (put st i v,rsb):=by
   refine Tb st (λx hx=>(stA.HK u1 t2' x hx).symm) (stA.rj u1).symm λid hid=>?_
   have:=(YJ i b j hb hun).1;rw [la,lb] at this;exact (stA.reads (E:=E) (i:=a) (rs:=rsa) this hid).symm
  refine ⟨put st i v,⟨b,hb,dW ⟨gO hPb _,rsb,sb0,?_⟩⟩,a,ha,dW ⟨by rw [ij (W6 u2)];exact ka,rsa,?_,?_⟩⟩
  .rw [lb]
   refine (fe ?_ ?_)
   .simp [put]
   .rw [eV hPb,eV hPb]
  .rw [jI (λe=>hji e.symm) u2 (.of ka),sa]
   rfl
  .rw [la]
   exact (mK (s:=st) (s2:=put st i v) (s' :=st1) (s2' :=put st1 i v) rfl rfl (gU (W6 u2) rfl)).symm
 ·
  obtain ⟨Tn,To⟩:=fN;rw [gN Tn] at Vh;rw [gN To] at zL;obtain ⟨n,hn1⟩:=Option.isSome_iff_exists.1 Vh;obtain ⟨m,Mp⟩:=Option.isSome_iff_exists.1 zL;rw [hn1] at sa;rw [Mp] at sb;obtain ⟨rfl,f,hf,hf0,rfl,Ta⟩:=GB Tn sa;obtain ⟨rfl,g,hg,XR,rfl,Tb⟩:=GB To sb;have hnm:n≠m:=by
   rintro rfl;exact hji (hn.inj j i n hn1 Mp)
  have ut:∀{c:o3} {x:y4} {t:Nat},x∈c.op.R1->t∉fC c->t∉x.slots:=by
   intro c x t hx ht h;apply ht;unfold fC;exact List.mem_flatMap.2 ⟨x,hx,h⟩
  have sb0:y3 E j8 (J m) i b st=J (g st,[]) :=
   Tb st (λx hx=>(hf.G7 (P7 hx u1) (λt ht=>ut hx (t2' t ht)) st).symm) (hf.wanted (λ_ _ h=>ew h u1) st).symm ⟨(hf.Y8 st).symm,(hf.jT st).symm,λs hs=>xR i b s hb (gN To) hs⟩
  have sa0:y3 E j8 (J n) j a (g st)=J (f (g st),[]) :=
   Ta (g st) (λx hx=>hg.G7 (P7 hx u2) (λt ht=>ut hx (t1' t ht)) st) (hg.wanted (λ_ _ h=>ew h u2) st) ⟨hg.Y8 st,hg.jT st,λs hs=>by rw [hg.l6];exact xR j a s ha (gN Tn) hs⟩
  refine ⟨g st,⟨b,hb,dW ⟨cm To _,[],by rw [Mp];exact sb0,?_⟩⟩,a,ha,dW ⟨cm Tn _,[],by rw [hn1,sa0,hf.comm hg hji hnm t3],?_⟩⟩
  .rw [lb]
   refine fe ?_ ?_
   .simp [hf.l6,hg.l6]
   .rw [eU To,eU To]
  .rw [la]
   refine (fe ?_ ?_)
   .simp [hf.l6,hg.l6]
   .rw [eU Tn,eU Tn]
 .exact ao9 fN.1.1 (.inl fN.1.2) λ_=>⟨fN.1.2,fN.2⟩
 .exact ap0 fN.1.2 (.inl fN.1.1) λ_=>⟨fN.1.1,fN.2⟩
 .exact ao9 (wq fN.1).1 (.inr fN.2) λh=>by rw [(wq fN.1).2] at h;cases h
 .exact ap0 (wq fN.2).1 (.inr fN.1) λh=>by rw [(wq fN.2).2] at h;cases h
end
end Go.A5
namespace Go.A5
variable [E3]
inductive tT (E:Env) (j8:List o3) (X7:Nat->Option Nat) (lg:Nat->gC):List Nat->I5->I5->Prop where
 |nil (st:I5):tT E j8 X7 lg [] st st
 |cons {k:Nat} {ks:List Nat} {st st1 st2:I5}:Of E j8 X7 lg k st st1->tT E j8 X7 lg ks st1 st2->tT E j8 X7 lg (k::ks) st st2
section
variable {E:Env} {j8:List o3} {X7:Nat->Option Nat} {lg:Nat->gC} {st st1 st2 fin:I5}
theorem Of.len (hn:Ru j8 X7){k:Nat}(h:Of E j8 X7 lg k st st1):O st.H<=O st1.H:=by
 obtain ⟨i,hi,h⟩:=h;obtain ⟨hk,rs,hs,_⟩:=cr.1 h;exact (wX (hn.alloc k i hi) hs).1
def Of.marked (hn:Ru j8 X7){k:Nat}(h:Of E j8 X7 lg k st st1)(hm:jJ j8 st):jJ j8 st1:=by
 obtain ⟨i,hi,h⟩:=h;obtain ⟨hk,rs,hs,_⟩:=cr.1 h;exact hm.ext (wX (hn.alloc k i hi) hs).2
theorem tT.front (hn:Ru j8 X7)(YJ:Oe j8 lg){i:Nat}{b:o3}(hb:j8[i]? =J b){rest:List Nat} :
  ∀(js:List Nat) (st:I5),(∀j,j∈js->j≠i/\∃a,j8[j]? =J a/\Hy j8 j a i b=W)->(∀k n,X7 k=J n->n<O st.H)->jJ j8 st->tT E j8 X7 lg (js++i::rest) st fin ->
   ∃st',Of E j8 X7 lg i st st' /\tT E j8 X7 lg (js++rest) st' fin
 |[],st,_,_,_,h=>by
  cases h with
  |cons h1 h2=>grind
 |j::js,st,hj,hin,xR,h=>by
  cases h with
  |cons h1 h2 =>
   obtain ⟨s2,g1,g2⟩:=tT.front hn YJ hb js _ (λj' hj' =>hj j' (by simp [hj'])) (λk n hk=>Nat.lt_of_lt_of_le (hin k n hk) (h1.len hn)) (h1.marked hn xR) h2;obtain ⟨hne,a,ha,hp⟩:=hj j U;obtain ⟨s1,e1,e2⟩:=swap hn YJ hp ha hb hne hin xR h1 g1;exact ⟨s1,e1,tT.cons e2 g2⟩
end
def direct (o:Oper):List Nat:=(o.after.toList.filter (Region.binds .any)).map (·.on)
def MB:List Oper->List (List Nat)->List (List Nat)
 |[],acc=>acc
 |o::os,acc=>MB os (acc++[((direct o).flatMap λe=>e::acc.getD e []).eraseDups])
def JS (U1:List (List Nat))(k:Nat)(o:Oper):Bool :=
 (U1.getD k []).all λj=>(direct o).contains j||(direct o).any λe=>(U1.getD e []).contains j
def AJ (j8:List o3)(U1:List (List Nat))(i:Nat)(b:o3):Bool :=
 (List.range i).all λj=>(U1.getD i []).contains j||(match j8[j]? with
  |some a=>Hy j8 j a i b
  |none=>F)
def oZ (X:Cx)(j8:List o3)(U1:List (List Nat)):List o3->Nat->Bool
 |[],k=>X.ops.size==k
 |i::is,k=>(match X.ops[k]? with
  |some o=>JS U1 k o&&(direct o).all (λe=>decide (e<k))&&sN X (λj=>(U1.getD k []).contains j) o i&&AJ j8 U1 k i
  |none=>F)&&oZ X j8 U1 is (k+1)
theorem AH {X:Cx}{j8:List o3}{U1:List (List Nat)}:∀(is:List o3) (k:Nat),j8.drop k=is->oZ X j8 U1 is k=W->∀(m:Nat) b,k<=m->j8[m]? =J b ->
  ∃o,X.ops[m]? =J o/\JS U1 m o=W/\(∀e,e∈direct o->e<m)/\sN X (λj=>(U1.getD m []).contains j) o b=W/\AJ j8 U1 m b=W
 |[],k,hd,_,m,b,hkm,hb=>by
  simp_all [List.length]<;>grind
 |i::is,k,hd,h,m,b,hkm,hb=>by
  simp only [oZ,c9] at h
  by_cases e:m=k
  .subst e
   have hi:j8[m]? =J i:=by
    have:(j8.drop m)[0]? =J i:=by rw [hd];rfl
    grind
   grind
  .have hd' :j8.drop (k+1)=is:=by
    have:=congrArg (List.drop 1) hd
    grind [List.drop_drop]
   exact AH is (k+1) hd' h.2 m b V hb
theorem pe {X:Cx}{j8:List o3}{U1:List (List Nat)}:∀(is:List o3) (k:Nat),oZ X j8 U1 is k=W->X.ops.size=k+O is
 |[],k,h=>by grind [oZ]
 |i::is,k,h=>by
  simp [oZ,c9] at h;have:=pe is (k+1) h.2
  grind
def Ty (X:Cx)(S:Nat->Prop):Prop:=∀(k:Nat) o,S k->X.ops[k]? =J o->∀e,e∈direct o->S e
def MC {X:Cx}{U1:List (List Nat)}{S:Nat->Prop}(hc:Ty X S)(hok:∀(k:Nat) o,X.ops[k]? =J o->JS U1 k o=W/\∀e,e∈direct o->e<k)(hout:∀k,X.ops.size<=k->U1.getD k []=[]) :
  ∀(n k:Nat),k<=n->∀o,X.ops[k]? =J o->(∀e,e∈direct o->S e)->∀j,j∈U1.getD k []->S j:=by
 intro n
 induction n with
 |zero =>
  grind [JS]
 |succ n ih =>
  intro k hk o ho hd j hj;obtain ⟨h1,h2⟩:=hok k o ho;have:=List.all_eq_true.1 h1 j hj;simp [Bool.or_eq_true,List.contains_eq_mem,decide_eq_true_eq,List.any_eq_true] at this
  rcases this with h|⟨e,he,hej⟩
  .exact hd j h
  .have hlt:=h2 e he
   cases hoe:X.ops[e]? with
   |none =>
    simp_all
   |some oe=>exact ih e V oe hoe (hc e oe (hd e he) hoe) j hej
def dS (n:Nat)(listed:Array Bool):List Nat:=(List.range n).filter λj=> !listed.getD j F
def Kk {n i:Nat}{listed:Array Bool}(hi:i<n)(hu:listed.getD i F=F)(hs:listed.size=n) :
  ∃js rest,dS n listed=js++i::rest/\dS n (listed.setIfInBounds i W)=js++rest/\∀j,j∈js->j<i/\listed.getD j F=F:=by
 refine ⟨(List.range i).filter λj=> !listed.getD j F,(List.range' (i+1) (n - i - 1)).filter λj=> !listed.getD j F,?_,?_,?_⟩
 .unfold dS
  have:List.range n=List.range i++i::List.range' (i+1) (n - i - 1):=by
   have h:=List.range'_append_1 (s:=0) (m:=i) (n:=n - i - 1+1)
   grind [List.range_eq_range',List.range'_succ]
  simp_all
 .unfold dS
  have:List.range n=List.range i++i::List.range' (i+1) (n - i - 1):=by
   have h:=List.range'_append_1 (s:=0) (m:=i) (n:=n - i - 1+1)
   grind [List.range_eq_range',List.range'_succ]
  rw [this,List.filter_append,List.filter_cons];have e1:(!(listed.setIfInBounds i W).getD i F)=F:=by simp [hs,hi]
  rw [e1]
  congr 1
  .refine List.filter_congr λj hj=>?_
   simp_all<;>grind
  .refine List.filter_congr λj hj=>?_
   simp_all<;>grind
 simp_all
section
variable {X:Cx} {j8:List o3} {E:Env} {nt:Nat} {X7:Nat->Option Nat} {lg:Nat->gC} {fin:I5} {U1:List (List Nat)}
def RA (hst:Stat X nt)(OK:oM X.P E.cf E.prom)(gG:∀f args H lm r,E.cf f args H lm=J r->V3 X.P f=W)(hs:E.lim.strict<=E.lim.base)(hbe:E.lim.base<=E.entry)(Q:Exit->Act->World->Prop)
  (Jk:oZ X j8 U1 j8 0=W) (hout:∀k,X.ops.size<=k->U1.getD k []=[]) (hn:Ru j8 X7) (hne:∀k n,X7 k=J n->E.entry<=n) (YJ:Oe j8 lg) :
  ∀(fuel:Nat) (listed:Array Bool) (st:I5) (a:Act) (w:World) (G:Gh) (I:S8) (N:Nat->Prop),Rg X j8 E nt (λj=>listed.getD j F=W) st a w G I N->listed.size=O j8->Ty X (λj=>listed.getD j F=W) ->
   (∀k n,X7 k=J n->n<O st.H)->jJ j8 st->(∀k n,X7 k=J n->listed.getD k F=F->¬ N n)->tT E j8 X7 lg (dS (O j8) listed) st fin->O (dS (O j8) listed)<=fuel ->
   (∀a' w' G' I' N',Fin X j8 E nt st w G I N fin a' w' G' I' N' ->Q .normal a' w')->wpAny X.P .any X.ops Q fuel listed a w:=by
 have hsize:X.ops.size=O j8:=by grind [pe]
 have zI:=λ(m:Nat) b hb=>AH j8 0 U Jk m b (s9 _) hb
 have UF:∀(k:Nat) o,X.ops[k]? =J o->JS U1 k o=W/\∀e,e∈direct o->e<k:=by
  intro k o ho;have hk:k<O j8:=by
   grind
  obtain ⟨o',h1,h2,h3,_⟩:=zI k j8[k] (n9 hk);simp_all
 have hdone:∀(listed:Array Bool),listed.size=O j8->Region.ready .any X.ops listed=[]->dS (O j8) listed=[]:=by
  intro listed hls hr;cases UG:dS (O j8) listed with
  |nil=>rfl
  |cons i rest =>
   exfalso;have hi:i<O j8/\listed.getD i F=F/\∀j,j<i->listed.getD j F=W:=by
    have hm:i∈dS (O j8) listed:=M
    unfold dS at hm;simp only [List.mem_filter,List.mem_range,o5] at hm;refine ⟨hm.1,hm.2,λj hj=>?_⟩;cases hlj:listed.getD j F with
    |true=>rfl
    |false =>
     have hjm:j∈dS (O j8) listed:=by
      grind [dS,o5]
     have aS8:(dS (O j8) listed).Pairwise (·<·):=List.Pairwise.filter _ List.pairwise_lt_range
     grind [O5]
   obtain ⟨o,ho,_,hlt,_⟩:=zI i j8[i] (n9 hi.1);have:i∈Region.ready .any X.ops listed:=by
    grind [mem_ready,direct]
   simp_all
 have hend:∀(listed:Array Bool) (st:I5) (a:Act) (w:World) (G:Gh) (I:S8) (N:Nat->Prop),Rg X j8 E nt (λj=>listed.getD j F=W) st a w G I N->listed.size=O j8->tT E j8 X7 lg (dS (O j8) listed) st fin->dS (O j8) listed=[] ->
   Fin X j8 E nt st w G I N fin a w G I N:=by
  intro listed st a w G I N hR hls hrun UG;rw [UG] at hrun;cases hrun;refine ⟨hR.congr λj=>?_,bg.refl _ _ _ _ _ _⟩;constructor
  .grind
  simp_all [dS,List.mem_filter,List.mem_range,o5]
 intro fuel
 induction fuel with
 |zero =>
  intro listed st a w G I N hR hls hcl hin xR hfr hrun hfl hQ;have UG:dS (O j8) listed=[]:=List.length_eq_zero_iff.1 V;refine ⟨?_,hQ _ _ _ _ _ (hend listed st a w G I N hR hls hrun UG)⟩;cases hr:Region.ready .any X.ops listed with
  |nil=>rfl
  |cons i rest =>
   exfalso;have:i∈Region.ready .any X.ops listed:=by rw [hr];simp
   obtain ⟨h0,o,ho,_⟩:=mem_ready.1 this;have hi:i<O j8:=by grind
   have Df:i<listed.size:=V
   have:i∈dS (O j8) listed:=by
    grind [dS,o5]
   grind
 |succ fuel ih =>
  intro listed st a w G I N hR hls hcl hin xR hfr hrun hfl hQ;refine ⟨λhr=>hQ _ _ _ _ _ (hend listed st a w G I N hR hls hrun (hdone listed hls hr)),λi hi=>?_⟩;obtain ⟨h0,o,ho,hall⟩:=mem_ready.1 hi;have hia:i<O j8:=by grind
  have Df:i<listed.size:=V
  have hun:listed.getD i F=F:=by
   grind
  obtain ⟨b,hb⟩:∃b,j8[i]? =J b:=⟨_,n9 hia⟩;obtain ⟨o',ho',hoa,hlt,hci,iD⟩:=zI i b hb;rw [ho] at ho';cases ho';have bi5:∀e,e∈direct o->listed.getD e F=W:=by
   grind [direct]
  have bh7:=MC hcl UF hout i i (k9 _) o ho bi5;obtain ⟨js,rest,hr1,Sh,hjs⟩:=Kk hia hun hls;rw [hr1] at hrun;obtain ⟨st1,bl2,bD0⟩:=tT.front hn YJ hb js st (λj hj=>by
   obtain ⟨hji,hju⟩:=hjs j hj
   grind [AJ]) hin xR hrun
  obtain ⟨b',hb',hD⟩:=bl2;rw [hb] at hb';cases hb';obtain ⟨hk,rs,hstep,bS9⟩:=cr.1 hD;have hstill:=(wX (hn.alloc i b hb) hstep).2;refine yA hst OK gG hs hbe hR (d8:=λj=>(U1.getD i []).contains j) (λj hj=>bh7 j (by simpa using hj)) (by grind) ho hb hci (A6:=X7 i) (λDB=>?_) (λn hni=>⟨hne i n hni,hin i n hni⟩) hstep _ _ ?_
  .have:=hn.alloc i b hb
   rw [DB] at this;obtain ⟨n,hni⟩:=Option.isSome_iff_exists.1 this;rw [hni];have h1:=hne i n hni;exact ⟨hfr i n hni hun,(λm hm=>by grind),by grind [newId],by grind [newId]⟩
  .intro a' w' G' I' N' hdn
   have rF:∀j,(listed.setIfInBounds i W).getD j F=W↔(listed.getD j F=W\/j=i):=by
    intro j
    by_cases e:j=i
    .subst e;simp [Df]
    .rw [Go.getD_set_ne F (λh=>e h.symm)]
     simp [e]
   refine ih (listed.setIfInBounds i W) st1 a' w' G' I' N' (hdn.rg.congr λj=>(rF j).symm) (by simp [hls]) ?_ (λk n hk=>Nat.lt_of_lt_of_le (hin k n hk) hdn.len) (xR.ext hstill) ?_ (by grind) ?_ ?_
   .intro k ok hk hok e he
    rw [rF] at hk ⊢
    rcases hk with hk|rfl
    .exact Or.inl (hcl k ok hk hok e he)
    grind
   .intro k n hk hku hN
    have bj3 :listed.getD k F=F/\k≠i:=by
     grind
    rcases hdn.old n (hin k n hk) hN with h|h
    .grind
    .exact bj3.2 (hn.inj k i n hk h)
   .grind
   .intro a'' w'' G'' I'' N'' hf
    exact hQ _ _ _ _ _ ⟨hf.rg,hdn.since.trans hf.since⟩
def rU (j8:List o3)(base:Nat)(k:Nat):Option Nat :=
 match j8[k]? with
 |some i=>if i.op.y7 then J (base+O ((j8.take k).filter (·.op.y7))) else K
 |none=>K
def Zk (j8:List o3)(base:Nat):Ru j8 (rU j8 base):=by
 refine ⟨λk i hi=>?_,λj k n hj hk=>?_⟩
 .grind [rU]
 .have key:∀a b n,a<b->rU j8 base a=J n->rU j8 base b=J n->False:=by
   intro a b n hab ha hb;unfold rU at ha hb;split at ha
   .split at ha
    .split at hb
     .split at hb
      .have h1:O ((j8.take (a+1)).filter (·.op.y7))=O ((j8.take a).filter (·.op.y7))+1:=by
        simp_all [List.take_add_one,List.filter_append]
       grind [List.Sublist.length_le,List.Sublist.filter,List.take_sublist_take_left]
      .cases hb
     .cases hb
    .cases ha
   .cases ha
  grind
theorem yu {base:Nat}:∀(is:List o3) (k:Nat) (na:Nat) (st st2:I5) (Np:List gC) (lgf:Nat->gC),j8.drop k=is->na=base+O ((j8.take k).filter (·.op.y7))->Q1 E j8 is k na st=J (st2,Np) ->
  (∀m,m<O is->lgf (k+m)=Np.getD m ⟨[],[],0,0⟩)->O Np=O is/\tT E j8 (rU j8 base) lgf (List.range' k (O is)) st st2
 |[],k,na,st,st2,Np,lgf,hd,hna,h,hl=>by
  cases h;exact ⟨rfl,tT.nil _⟩
 |i::is,k,na,st,st2,Np,lgf,hd,hna,h,hl=>by
  have hi:j8[k]? =J i:=by
   have:(j8.drop k)[0]? =J i:=by rw [hd];rfl
   grind
  have hd' :j8.drop (k+1)=is:=by
   have:=congrArg (List.drop 1) hd
   grind [List.drop_drop]
  simp [Q1] at h;split at h
  next st1 l hstep=>
   split at h
   next st3 lg3 hrun=>
    cases h;have bj6 :(if i.op.y7=W then na+1 else na)=base+O ((j8.take (k+1)).filter (·.op.y7)):=by
     grind
    obtain ⟨g1,g2⟩:=yu is (k+1) _ st1 st2 lg3 lgf hd' bj6 hrun (λm hm=>by
     simp_all<;>grind)
    refine ⟨by simp [g1],?_⟩;refine tT.cons ⟨i,hi,?_⟩ g2
    grind [rU]
   .cases h
  .cases h
def SC {Np:List gC}(hlen:O Np=O j8)(h:dN j8 Np=W):Oe j8 (λk=>Np.getD k ⟨[],[],0,0⟩):=by
 intro k i e hi he;unfold dN at h;have hk:=A3 hi;have hz:(i,Np.getD k ⟨[],[],0,0⟩)∈j8.zip Np:=by
  refine List.mem_of_getElem? (i:=k) ?_;simp_all
 grind
end
end Go.A5
namespace Go.A5
variable [E3]
structure Cd (P:Program)(names:List Tmp)(E:Env)(nt:Nat)(st:St)(a:Act)(w:World)(G:Gh)(I:S8)(N:Nat->Prop):Prop where
 T:∀(s:Nat) t,names[s]? =J t->VR G I N w (.slot s) (st.T.getD s .any) (a.tmps.getD t undef)
 H:HR G I N w st.H
 wf:WF G w
 W1:Rr E.lim st.H
 Y8:O st.T=O names
 bT:∀id,N id->id<O st.H
 He:E.entry<=O st.H
 size:a.tmps.size=nt
 idle:∀d,d∈a.defers->Io P E.idle d
def sW (names:List Tmp):List (Option Tmp)->Bool
 |[]=>W
 |none::r=>sW names r
 |some d::r=>(names.contains d|| !r.contains (J d))&&sW names r
def kN:List Tmp->Bool
 |[]=>W
 |x::xs=> !xs.contains x&&kN xs
theorem rS:∀(l:List Tmp),kN l=W->∀(s s' :Nat) t,l[s]? =J t->l[s']? =J t->s=s'
 |[],_,s,s',t,h,_=>by simp at h
 |x::xs,hok,s,s',t,h,h' =>by
  simp [kN,c9,List.contains_eq_mem] at hok;cases s with
  |zero =>
   grind
  |succ s =>
   cases s' with
   |zero =>
    grind
   |succ s' =>rw [rS xs hok.2 s s' t (by simpa using h) M]
theorem uj (names:List Tmp):∀(l:List (Option Tmp)),sW names l=W->∀(i j:Nat) d,l[i]? =J (J d)->l[j]? =J (J d)->names.contains d=F->i=j
 |[],_,i,j,d,h,_,_=>by simp at h
 |x::xs,hok,i,j,d,h,h',hn=>by
  have uz:sW names xs=W:=by
   cases x with
   |none=>exact hok
   |some d' =>simp_all [sW,c9]
  have hnot:x=J d->J d∉xs:=by
   grind [sW,absurd]
  cases i with
  |zero =>
   grind
  |succ i =>
   cases j with
   |zero =>
    grind
   |succ j=>rw [uj names xs uz i j d (by simpa using h) M hn]
def eT (P:Program)(names:List Tmp)(nt:Nat)(ops:Array Oper)(j8:List o3)(draw:Bool):Bool :=
 sW names (ops.toList.map (·.dst))&&(ops.toList.all λo=>match o.dst with|some d=>decide (d<nt)|none=>W) &&
 (if draw then
   let U1:=MB ops.toList []
   decide (O U1<=ops.size)&&oZ ⟨P,names,ops⟩ j8 U1 j8 0&&P.follows .mixedOrders
  else nD ⟨P,names,ops⟩ j8 0)
def ZU {P:Program}{names:List Tmp}{nt:Nat}{ops:Array Oper}{j8:List o3}{draw:Bool}(hn:kN names=W)(h:eT P names nt ops j8 draw=W):Stat ⟨P,names,ops⟩ nt:=by
 simp [eT,c9] at h;obtain ⟨⟨h1,h2⟩,_⟩:=h;have get:∀(i:Nat) d,(ops[i]?).bind (·.dst)=J d->(ops.toList.map (·.dst))[i]? =J (J d):=by
  simp_all<;>grind
 refine ⟨λi j d hi hj hc=>uj names _ h1 i j d (get i d hi) (get j d hj) hc,λi d hd=>?_,λs s' t=>rS names hn s s' t⟩
 grind
section
variable {P:Program} {names:List Tmp} {E:Env} {nt:Nat} {st:St} {a:Act} {w:World} {G:Gh} {I:S8} {N:Nat->Prop} {ops:Array Oper} {j8:List o3}
def Cd.start (h:Cd P names E nt st a w G I N)(X:Cx)(hX:X=⟨P,names,ops⟩){S:Nat->Prop}(hS:∀j,¬ S j){H' :j9}(ext:j9)(hH:H' =st.H++ext)(aD1:∀o,o∈ext->o= .dead){L:List c7}(hL:O L=O j8)(l6:List Touch) :
  Rg X j8 E nt S ⟨st.T,H',L,l6⟩ a w G I N:=by
 subst hX;subst hH;have get:∀(id:Nat) o,(st.H++ext)[id]? =J o->st.H[id]? =J o\/o= .dead:=by
  intro id o ho
  rcases A7 id (O st.H) with hlt|hge
  .grind
  .rw [x7 hge] at ho
   exact Or.inr (aD1 o (List.mem_of_getElem? ho))
 refine ⟨⟨h.T,λj hj=>absurd hj (hS j),λid o ho=>?_,h.wf,λid o ho=>?_⟩,⟨λj _ _ _ _ hj=>absurd hj (hS j),λj _ _ _ _ _ _ hj=>absurd hj (hS j)⟩,λj _ _ hj=>absurd hj (hS j),h.Y8,hL,λid hid=>?_,?_,h.size,h.idle⟩
 .rcases get id o ho with h1|rfl
  .exact h.H id o h1
  .simp [OR]
 .rcases get id o ho with h1|rfl
  .exact h.W1 id o h1
  .simp [x4.J4]
 .have:=h.bT id hid;simp;omega
 .have:=h.He;simp;omega
theorem Cd.drew (h:Cd P names E nt st a w G I N)(n:Nat)(hn:w.drawn<=n):Cd P names E nt st a { w with drawn:=n } G I N/\bg E st.H w G I N st.H { w with drawn:=n } G I N:=by
 have hx:Ext G w G { w with drawn:=n }:=(Ext.refl G w).drew n hn;have hk:∀pl,bE pl G w G { w with drawn:=n }:=λ_ _ _ h=>⟨h,rfl⟩
 refine ⟨⟨λs t ht=>VR.mono hx (λ_ _=>rfl) (λ_ h=>h) _ _ _ (Or.inr (hk _)) (h.T s t ht),λid o ho=>OR.mono (w:=w) hx.sub (λ_ _=>rfl) (λ_ h=>h) id o (λh=>⟨h,rfl⟩) (λ_=>hk _) (h.H id o ho),h.wf,h.W1,h.Y8,h.bT,h.He,h.size,h.idle⟩,?_⟩;exact ⟨hx,λid _=>⟨λ_ h=>⟨h,rfl⟩,λ_=>hk _⟩,λ_ _ _=>rfl,λ_ _ h=>h,λ_ _ h=>h,λ_ o _ h=>Or.inr ⟨o,h,k9 _⟩⟩
def Cd.done {X:Cx}(hX:X=⟨P,names,ops⟩){S:Nat->Prop}{r:I5}(h:Rg X j8 E nt S r a w G I N):Cd P names E nt ⟨r.T,r.H⟩ a w G I N:=by
 subst hX;exact ⟨h.ri.T,h.ri.H,h.ri.wf,h.ri.W1,h.Y8,h.bT,h.He,h.size,h.idle⟩
structure Ob (P:Program)(E:Env):Prop where
 cf:oM P E.cf E.prom
 can:∀f args H lm r,E.cf f args H lm=J r->V3 P f=W
 strict:E.lim.strict<=E.lim.base
 base:E.lim.base<=E.entry
def bg.um {H0 ext H:j9}{w0 w:World}{G0 G:Gh}{I0 I:S8}{N0 N:Nat->Prop}(hb:E.lim.base<=O H0)(h:bg E (H0++ext) w0 G0 I0 N0 H w G I N):bg E H0 w0 G0 I0 N0 H w G I N:=by
 refine ⟨h.ext,h.dQ,h.inj,h.mono,h.old,λid o' hid ho=>?_⟩
 rcases h.hle id o' hid ho with h1|⟨o,h1,h2⟩
 all_goals grind
def uO (hE:Ob P E)(hn:kN names=W){draw:Bool}(hc:eT P names nt ops j8 draw=W)(h:Cd P names E nt st a w G I N){r:I5}(hr:T9 E j8 draw st.T st.H=J r)(id:Nat)(Q:Exit->Act->World->Prop)
  (hQ:∀a' w' G' I' N',Rg ⟨P,names,ops⟩ j8 E nt (λj=>j<O j8) r a' w' G' I' N' ->bg E st.H w G I N r.H w' G' I' N' ->Q .normal a' w'):(Code.region id ops draw).wp P Q a w:=by
 have hst:=ZU hn hc;simp only [eT,c9] at hc;obtain ⟨_,hc⟩:=hc;unfold T9 at hr;cases draw with
 |false =>
  refine wp_region ?_;have hsz:ops.size=O j8:=by
   have:∀(is:List o3) (k:Nat),nD ⟨P,names,ops⟩ is k=W->ops.size=k+O is:=by
    intro is
    induction is with
    |nil=>simp_all [nD]
    |cons i is ih =>
     grind [nD]
   grind
  rw [hsz,List.range_eq_range'];have hR:Rg ⟨P,names,ops⟩ j8 E nt (λj=>j<0) ⟨st.T,st.H,c8 (O j8) .any,[]⟩ a w G I N :=
   h.start _ rfl (λj=>U) [] U U U []
  refine HM (X:=⟨P,names,ops⟩) hst hE.cf hE.can hE.strict hE.base Q j8 0 U U hc _ a w G I N r hR hr ?_;intro a' w' G' I' N' hf;exact hQ a' w' G' I' N' hf.rg hf.since
 |true =>
  simp only [if_true,c9,decide_eq_true_eq] at hr hc;obtain ⟨⟨Ho,aC3⟩,bj5⟩:=hc;split at hr
  next r' Np hrun=>
   split at hr
   next hok=>
    cases hr;refine wp_region_any bj5 ?_;obtain ⟨h2,ao0⟩:=h.drew (w.drawn+1) (Nat.le_succ _);have hR:Rg ⟨P,names,ops⟩ j8 E nt (λj=>(Array.replicate ops.size F).getD j F=W) ⟨st.T,st.H++Y7 j8,c8 (O j8) .any,slotsOf j8⟩ a { w with drawn:=w.drawn+1 } G I N :=
     h2.start _ rfl (λj=>by
      simp_all<;>grind) (Y7 j8) rfl (by
      simp_all [Y7]) U (slotsOf j8)
    have aE1:jJ j8 ⟨st.T,st.H++Y7 j8,c8 (O j8) .any,slotsOf j8⟩:=by
     intro k i s hi ha hd;simp_all [Touch.U8,slotsOf]<;>grind
    have hsize:ops.size=O j8:=by
     have:=pe (X:=⟨P,names,ops⟩) j8 0 aC3;simp_all
    obtain ⟨hlen,bP1⟩:=yu (base:=O st.H) j8 0 (O st.H) _ r Np (λk=>Np.getD k ⟨[],[],0,0⟩) U U hrun (λm _=>U);have UG:dS (O j8) (Array.replicate ops.size F)=List.range' 0 (O j8):=by
     simp_all [dS,List.filter_eq_self,List.range_eq_range']
    have hlt:∀k n,rU j8 (O st.H) k=J n->O st.H<=n/\n<O (st.H++Y7 j8):=by
     intro k n hk;unfold rU at hk;split at hk
     .split at hk
      .have h1:O ((j8.take (k+1)).filter (·.op.y7))=O ((j8.take k).filter (·.op.y7))+1:=by
        simp_all [List.take_add_one,List.filter_append]
       grind [List.Sublist.length_le,List.Sublist.filter,List.take_sublist,Y7]
      .cases hk
     .cases hk
    refine RA (X:=⟨P,names,ops⟩) (U1:=MB ops.toList []) (X7:=rU j8 (O st.H)) (lg:=λk=>Np.getD k ⟨[],[],0,0⟩) (fin:=r) hst hE.cf hE.can hE.strict hE.base Q aC3 (λk hk=>?_) (Zk j8 _) (λk n hk=>?_) (SC hlen hok)
     ops.size (Array.replicate ops.size F) _ a _ G I N hR (by simp [hsize]) ?_ (λk n hk=>(hlt k n hk).2) aE1 (λk n hk _ hN=>?_) M M ?_
    .grind
    .have:=(hlt k n hk).1;have:=h.He;omega
    .intro k o hk
     simp_all<;>grind
    .have h1:=h.bT n hN;grind
    .intro a' w' G' I' N' hf
     have hb:E.lim.base<=O st.H:=s5 hE.base h.He;exact hQ a' w' G' I' N' hf.rg (ao0.trans (hf.since.um hb))
   .cases hr
  .cases hr
end
end Go.A5
namespace Go.A5
variable [E3]
section
variable {P:Program} {names:List Tmp} {E:Env} {nt:Nat} {st st' :St} {a:Act} {w:World} {G:Gh} {I:S8} {N:Nat->Prop}
theorem yq:∀(cs:List c7) (k i id sz lo len:Nat),uN cs k=J (i,id,sz,lo,len)->∃j,i=k+j/\cs[j]? =J (.s6 id sz lo len)
 |[],_,_,_,_,_,_,h=>by simp [uN] at h
 |c::cs,k,i,id,sz,lo,len,h=>by
  cases c
  case s6 id' sz' lo' len' =>
   simp_all [uN,Option.some.injEq,Prod.mk.injEq]
  all_goals
   obtain ⟨j,h1,h2⟩:=yq cs (k+1) i id sz lo len (by simp_all [uN]);simp_all<;>grind
def MQ {pl:Place}{v:c7}{d:Data}{x:Value}(hd:v.data? =J d)(h:VR G I N w pl v x):DR G w d x:=by
 have h2:VR G I N w pl v.K9 x:=h.K9;cases v<;>simp [c7.data?] at hd<;>first|cases hd|skip
 all_goals simp_all [c7.K9,VR]
theorem Ud (b:Nat)(an0:∀o,jm G b o):∀(vs:List c7) (xs:List Data) (o:Nat),L1 vs=J xs->(∀j v,vs[j]? =J v->∃u,w.cell? (ad b (o+j))=J u/\∀d,v.data? =J d->DR G w d u)->gB G w b o xs
 |[],xs,o,h,_=>by simp_all [L1,gB]
 |v::vs,xs,o,h,hv=>by
  unfold L1 at h;cases hd:v.data? with
  |none=>simp_all
  |some d =>
   rw [hd] at h;cases hds:L1 vs with
   |none=>simp_all
   |some ds =>
    rw [hds] at h;cases h;obtain ⟨u,h1,h2⟩:=hv 0 v rfl;refine ⟨an0 o,⟨u,V,h2 d hd⟩,Ud b an0 vs ds (o+1) hds λj v' hj=>?_⟩;obtain ⟨u',g1,g2⟩:=hv (j+1) v' M
    grind
def Ux (h:Cd P names E nt st a w G I N){s:Nat}(hr:uu E.lim E.entry s st=J st'):∃G' N',Cd P names E nt st' a w G' I N' /\bg E st.H w G I N st'.H w G' I N' :=by
 unfold uu at hr;split at hr
 next b hT=>
  split at hr
  next cs hb=>
   split at hr
   next i id sz lo len bk7=>
    split at hr
    next vs hvs=>
     split at hr
     next xs hxs=>
      split at hr
      next aQ=>
       cases hr;obtain ⟨hbase,Nb,hmay,hbb,hne⟩:=aQ;obtain ⟨j,hj,hcj⟩:=yq cs 0 i id sz lo len bk7;obtain rfl:i=j:=V
       obtain ⟨old,hold,hlen,bm2⟩:∃old,st.H[id]? =J (.cells old)/\lo+len * sz<=O old/\vs=(old.drop lo).take (len * sz):=by
        grind [rd]
       have hO:=h.H id _ hold;simp only [OR] at hO;obtain ⟨hN,c,e,f,g1,g2,g3,g4,g5⟩:=hO;have hlt:(I id).1<w.heap.size:=by
        grind
       have YH:=A3 hold;have hx:Ext G w (gF G (I id).1 .lK) w:=by
        refine ⟨rfl,rfl,rfl,λ_=>k9 _,k9 _,λb' o hi=>⟨?_,rfl⟩,λb' hb' =>⟨?_,rfl⟩,λ_ c _ _ hc=>⟨c,hc,rfl⟩⟩
        all_goals grind [jm,qu,J3]
       have hkp:∀q,bE q G w (gF G (I id).1 .lK) w:=λq b' n hb' =>⟨by grind [J3],rfl⟩
       have YM:∀id',id' ≠id->∀b',G b' = .obj id' ->(gF G (I id).1 .lK) b' = .obj id' /\w.heap[b']? =w.heap[b']? :=λid' hid b' hb' =>⟨by grind [J3],rfl⟩
       have vr:∀{pl:Place} {v:c7} {u:Value},VR G I N w pl v u->VR (gF G (I id).1 .lK) I (λi=>N i/\i≠id) w pl (v.kill id) u :=
        λhv=>VR.mono hx (λ_ _=>rfl) (λ_ h=>h) _ _ _ (Or.inr (hkp _)) (VR.kill id _ _ _ hv)
       have rF:∀(id' :Nat) (o' :x4),(((st.H.take E.lim.base++(st.H.drop E.lim.base).map (x4.kill id)).set id .dead).set b (.cells ((O6 id cs).set i (.d (.slice len xs)))))[id']? =J o' ->
         (id' =b/\o' = .cells ((O6 id cs).set i (.d (.slice len xs))))\/(id' ≠b/\id' =id/\o' = .dead)\/(id' ≠b/\id' ≠id/\id' <E.lim.base/\st.H[id']? =J o')\/(id' ≠b/\id' ≠id/\E.lim.base<=id' /\∃o1,st.H[id']? =J o1/\o' =o1.kill id):=by
        intro id' o' ho'
        by_cases e1:id' =b
        .grind
        .rw [x3 (λe=>e1 e.symm)] at ho'
         grind
       have wE:A8 ((O6 id cs).set i (.d (.slice len xs)))<=A8 cs:=s5 (nB _ _ _) (eP id cs);refine ⟨gF G (I id).1 .lK,λi=>N i/\i≠id,⟨?_,?_,?_,?_,?_,?_,?_,h.size,h.idle⟩,⟨hx,?_,λ_ _ _=>rfl,?_,λ_ _ hn=>hn.1,?_⟩⟩
       .intro s' t ht
        simp only [wC];exact vr (h.T s' t ht)
       .intro id' o' ho'
        rcases rF id' o' ho' with ⟨rfl,rfl⟩|⟨_,rfl,rfl⟩|⟨e1,e2,e3,e4⟩|⟨e1,e2,e3,o1,e4,rfl⟩
        .have hk:=OR.kill id (λe=>hne e.symm) _ (h.H id' _ hb)
         have hk:=OR.mono hx (λ_ _=>rfl) (λ_ h=>h) id' _ (λhb' =>YM id' (λe=>hne e.symm) _ hb') (λ_=>hkp _) hk;simp only [x4.kill,OR] at hk ⊢;obtain ⟨k0,c2,e2,f2,k1,k2,k3,k4,k5⟩:=hk;refine ⟨k0,c2,e2,f2,k1,k2,k3,by grind,λi' x' hx' =>?_⟩
         by_cases ei:i' =i
         .subst ei
          have Df:i' <O (O6 id cs):=by grind
          rw [E9 Df] at hx';cases hx';have hOb:=h.H id' _ hb;simp only [OR] at hOb;obtain ⟨_,c3,e3,f3,m1,_,_,_,m5⟩:=hOb;rw [k1] at m1;cases m1;obtain ⟨u,u1,u2⟩:=m5 i' _ hcj;refine ⟨u,u1,?_⟩;simp only [VR] at u2 ⊢;obtain ⟨_,cap,rfl,u3,_⟩:=u2;simp only [DR];refine Or.inr ⟨(I id).1,(I id).2+lo,cap,rfl,u3,Ud _ (λo=>by grind [jm,qu]) vs xs _ hxs λj v hj=>?_⟩;subst bm2;have hj2:j<len * sz/\old[lo+j]? =J v:=by
           grind
          obtain ⟨y,y1,y2⟩:=g5 _ _ hj2.2;refine ⟨y,?_,λd hd=>DR.mono hx.lK _ _ (MQ hd y2)⟩
          grind [World.cell?,Nat.add_assoc]
         grind
        .simp [OR]
        .have UD:=OR.low (n:=E.lim.base) e3 o' ((h.W1 id' o' e4).2 e3) (h.H id' o' e4)
         exact OR.mono hx (λ_ _=>rfl) (λi hi=>⟨hi.1,V⟩) id' o' (λhb' =>YM id' e2 _ hb') (λ_=>hkp _) UD
        .exact OR.mono hx (λ_ _=>rfl) (λ_ h=>h) id' _ (λhb' =>YM id' e2 _ hb') (λ_=>hkp _) (OR.kill id e2 o1 (h.H id' o1 e4))
       .intro b' hb'
        rw [J3 V];exact h.wf b' hb'
       .intro id' o' ho'
        rcases rF id' o' ho' with ⟨rfl,rfl⟩|⟨_,rfl,rfl⟩|⟨e1,e2,e3,e4⟩|⟨e1,e2,e3,o1,e4,rfl⟩
        .obtain ⟨d1,d2⟩:=h.W1 id' _ hb
         grind [x4.J4,s5]
        .simp_all [x4.J4]
        .exact h.W1 id' o' e4
        .obtain ⟨d1,d2⟩:=h.W1 id' o1 e4
         grind [ET,s5]
       .rw [S2];exact h.Y8
       .intro id' hn
        have:=h.bT id' hn.1
        grind
       .grind
       .intro id' hm
        grind
       all_goals grind
      .cases hr
     .cases hr
    .cases hr
   .cases hr
  .cases hr
 .cases hr
def Dj (E:Env)(H:j9)(w:World)(G:Gh)(I:S8)(N:Nat->Prop)(H' :j9)(w' :World)(G' :Gh)(I' :S8)(N' :Nat->Prop):Prop :=
 ∀H0 w0 G0 I0 N0,(E.entry=0->∀b n pl,G0 b≠ .grow n pl)->bg E H0 w0 G0 I0 N0 H w G I N->bg E H0 w0 G0 I0 N0 H' w' G' I' N'
def bg.trn {E:Env}{H H' :j9}{w w' :World}{G G' :Gh}{I I' :S8}{N N' :Nat->Prop}(h:bg E H w G I N H' w' G' I' N'):Dj E H w G I N H' w' G' I' N' :=
 λ_ _ _ _ _ _ h0=>h0.trans h
theorem Dj.refl (E:Env)(H:j9)(w:World)(G:Gh)(I:S8)(N:Nat->Prop):Dj E H w G I N H w G I N:=λ_ _ _ _ _ _ h=>h
theorem Dj.trans {E:Env}{H0 H1 H2:j9}{w0 w1 w2:World}{G0 G1 G2:Gh}{I0 I1 I2:S8}{N0 N1 N2:Nat->Prop}
  (h:Dj E H0 w0 G0 I0 N0 H1 w1 G1 I1 N1) (k:Dj E H1 w1 G1 I1 N1 H2 w2 G2 I2 N2):Dj E H0 w0 G0 I0 N0 H2 w2 G2 I2 N2 :=
 λH w G I N hg hs=>k H w G I N hg (h H w G I N hg hs)
theorem eZ:∀l:List c7,O (S9 l)=O l
 |[]=>rfl
 |_::l=>by simp [S9,eZ l]
theorem pO:∀(l:List c7) (i:Nat),(S9 l)[i]? =(l[i]?).map c7.forget
 |[],_=>by rfl
 |_::_,0=>by rfl
 |_::l,i+1=>by simpa [S9] using pO l i
def xN (l:List c7)(s:Nat):(S9 l).getD s .any=(l.getD s .any).forget:=by
 grind [pO,c7.forget]
section
variable {G' :Gh} {I' :S8} {N' :Nat->Prop}
mutual
theorem VR.forget (hI:∀id,N id->I' id=I id)(hN:∀id,N id->N' id):∀(pl:Place) (v:c7) (u:Value),VR G I N w pl v u->VR G' I' N' w pl v.forget u
 |_,.any,_,_=>by simp [c7.forget,VR]
 |_,.d x,_,h=>by
  cases x
  case slice n cells =>
   cases cells with
   |nil =>
    simp_all [c7.forget,VR,DR,gB]
   |cons c cs=>simp [c7.forget,VR]
  all_goals simp_all [c7.forget,VR,DR]
 |_,.ptr id off,_,h=>by
  simp_all [c7.forget,VR]
 |_,.bP _,_,_=>by simp [c7.forget,VR]
 |_,.s6 id sz lo len,_,h=>by
  simp_all [c7.forget,VR]
 |_,.own _ _ _,_,_=>by simp [c7.forget,VR]
 |_,.N7,_,h=>by simp_all [c7.forget,VR]
 |_,.agg l,_,h=>by
  obtain ⟨cs,h1,h2⟩:=h;exact ⟨cs,h1,K1.forget hI hN l _ h2⟩
 |_,.tuple l,_,h=>by
  obtain ⟨cs,h1,h2⟩:=h;exact ⟨cs,h1,K1.forget hI hN l _ h2⟩
 |_,.func f a b,_,h=>by
  obtain ⟨x,y,h1,h2,h3⟩:=h;exact ⟨x,y,h1,K1.forget hI hN a _ h2,K1.forget hI hN b _ h3⟩
 |_,.map id,_,h=>by
  simp_all [c7.forget,VR]
theorem K1.forget (hI:∀id,N id->I' id=I id)(hN:∀id,N id->N' id):∀(l:List c7) (vs:List Value),K1 G I N w l vs->K1 G' I' N' w (S9 l) vs
 |[],_,h=>by grind [S9,K1]
 |a::as,vs,h=>by
  obtain ⟨x,xs,h1,h2,h3⟩:=h;exact ⟨x,xs,h1,VR.forget hI hN .none a x h2,K1.forget hI hN as xs h3⟩
end
theorem ER.forget (hI:∀id,N id->I' id=I id)(hN:∀id,N id->N' id):∀(l:List (Key×c7)) (es:List MapEntry),ER G I N w l es->ER G' I' N' w (l.map λp=>(p.1,p.2.forget)) es
 |[],_,h=>by grind [ER]
 |(k,v)::r,es,h=>by
  obtain ⟨e,es',h1,h2,h3,h4⟩:=h;exact ⟨e,es',h1,h2,VR.forget hI hN _ _ _ h3,ER.forget hI hN r es' h4⟩
theorem OR.forget (hI:∀id,N id->I' id=I id)(hN:∀id,N id->N' id)(hG:∀b id,G b= .obj id->G' b= .obj id)(id:Nat)(o:x4)(h:OR G I N w id o):OR G' I' N' w id o.forget:=by
 cases o with
 |dead=>simp [x4.forget,OR]
 |cells l =>
  simp [x4.forget,OR] at h ⊢
  grind [eZ,pO,VR.forget]
 |map es =>
  grind [x4.forget,OR,ER.forget]
end
theorem yf:∀(cs:List c7) (k i sz len:Nat) (xs:List Data),ye cs k=J (i,sz,len,xs)->∃j,i=k+j/\cs[j]? =J (.own sz len xs)
 |[],_,_,_,_,_,h=>by simp [ye] at h
 |c::cs,k,i,sz,len,xs,h=>by
  cases c
  case own sz' len' xs' =>
   simp_all [ye,Option.some.injEq,Prod.mk.injEq]
  all_goals
   obtain ⟨j,h1,h2⟩:=yf cs (k+1) i sz len xs (by simp_all [ye]);simp_all<;>grind
theorem GY {b:Nat}:∀(xs:List Data) (o i:Nat) (d:Data),gB G w b o xs->xs[i]? =J d->∃x,w.cell? (ad b (o+i))=J x/\DR G w d x
 |[],_,_,_,_,h=>by simp at h
 |c::cs,o,0,d,hd,h=>by
  simp_all [gB]
 |c::cs,o,i+1,d,hd,h=>by
  obtain ⟨x,h1,h2⟩:=GY cs (o+1) i d hd.2.2 (by simpa using h)
  grind
def OA {G' :Gh}{d:Data}{x:Value}(hf:d.flat=W)(h:DR G w d x):DR G' w d x:=by
 cases d
 case slice n cs=>simp [Data.flat] at hf
 all_goals simp_all [DR]
def Wm (_h:Cd P names E nt st a w G I N){b2 n2 m:Nat}{pl2:Place}(bI6:b2<w.heap.size)(k6:G b2= .grow n2 pl2)(hG:∀b' id,G b' = .obj id->gF G b2 (.obj m) b' = .obj id)(Nb:E.entry=0)(hbase:E.lim.base=0){H' :j9}{I' :S8}{N' :Nat->Prop} :
  Dj E st.H w G I N H' w (gF G b2 (.obj m)) I' N' :=by
 intro H0 w0 G0 I0 N0 hg hs;have hne:∀b',(jm G0 b' =jm G0 b')/\((G0 b' = .lK\/∃n,G0 b' = .held n)->b' ≠b2):=λb' =>⟨rfl,λhi e=>by
  subst e;have:=(hs.ext.still b' hi).1;simp_all⟩
 have an0:∀b' o',jm G0 b' o' ->G0 b' = .lK\/∃n,G0 b' = .held n:=λb' o' hi=>by
  grind [jm,absurd]
 refine ⟨⟨hs.ext.os,hs.ext.tape,hs.ext.output,hs.ext.drawn,hs.ext.size,λb' o' hi=>?_,λb' hi=>?_,hs.ext.shape⟩,?_,?_,?_,?_,?_⟩
 .obtain ⟨q1,q2⟩:=hs.ext.lK b' o' hi
  grind [jm,J3]
 .obtain ⟨q1,q2⟩:=hs.ext.still b' hi
  simp_all [J3]
 .intro id hm
  obtain ⟨p1,p2⟩:=hs.dQ id hm;refine ⟨λb' hb' =>?_,λoff b' n hb' =>absurd hb' (hg Nb _ _ _)⟩;simp_all
 all_goals omega
def ak4 (hbase:E.lim.base=0){H' :j9}:Dj E st.H w G I N H' w G I N:=λ_ _ _ _ _ _ hs=>⟨hs.ext,hs.dQ,hs.inj,hs.mono,hs.old,λid o' hlt=>V⟩
def Wl (h:Cd P names E nt st a w G I N){s:Nat}(hr:KJ E.lim E.entry s st=J st'):∃G' I' N',Cd P names E nt st' a w G' I' N' /\Dj E st.H w G I N st'.H w G' I' N' :=by
 unfold KJ at hr;split at hr
 next b hT=>
  split at hr
  next cs hb=>
   split at hr
   next i sz len xs how=>
    split at hr
    .cases hr
     exact ⟨G,I,N,h,Dj.refl _ _ _ _ _ _⟩
    split at hr
    next hl0 aQ=>
     cases hr;obtain ⟨Nb,hbase,UJ,OL⟩:=aQ;obtain ⟨j,hj,hcj⟩:=yf cs 0 i sz len xs how;obtain rfl:i=j:=V
     have hO:=h.H b _ hb;simp only [OR] at hO;obtain ⟨hN,c,e,f,g1,g2,g3,g4,g5⟩:=hO;obtain ⟨v,v1,v2⟩:=g5 i _ hcj;simp only [VR] at v2;obtain ⟨hlen,v2⟩:=v2
     rcases v2 with ⟨_,v2⟩|⟨_,b2,o,cap,c2,e2,f2,rfl,k2,k3,k4,k5,k6,k7⟩
     .exact absurd v2 hl0
     have hb2:b2<w.heap.size:=by
      rcases A7 b2 w.heap.size with h|h
      .exact h
      .rw [Array.getElem?_eq_none h] at k3;cases k3
     have hbl:=A3 hb;have hI:∀id,N id->(λk=>if k=O st.H then (b2,o) else I k) id=I id:=λid hid=>by
      have:=h.bT id hid;simp only;rw [if_neg V]
     have hN' :∀id,N id->(λk=>N k\/k=O st.H) id:=λid hid=> .inl hid
     have hG:∀b' id,G b' = .obj id->gF G b2 (.obj (O st.H)) b' = .obj id:=λb' id hb' =>by
      rw [J3 (by rintro rfl;rw [k6] at hb';cases hb')];exact hb'
     have rF:∀(id' :Nat) (o' :x4),((st.H.map x4.forget).set b (.cells ((S9 cs).set i (.s6 (O st.H) sz 0 len)))++[.cells (xs.map .d)])[id']? =J o' ->
       (id' =b/\o' = .cells ((S9 cs).set i (.s6 (O st.H) sz 0 len)))\/(id' ≠b/\∃o1,st.H[id']? =J o1/\o' =o1.forget)\/(id' =O st.H/\o' = .cells (xs.map .d)):=by
      intro id' o' ho'
      rcases A7 id' (O st.H) with hlt|hge
      .rw [y8 (by simpa using hlt)] at ho'
       by_cases e1:id' =b
       .subst e1
        rw [E9 (by simpa using hlt)] at ho';cases ho';exact .inl ⟨rfl,rfl⟩
       .rw [x3 (λe=>e1 e.symm),List.getElem?_map] at ho'
        cases h1:st.H[id']? with
        |none=>rw [h1] at ho';cases ho'
        |some o1 =>
         rw [h1] at ho';cases ho';exact .inr (.inl ⟨e1,o1,rfl,rfl⟩)
      .rw [x7 (by simpa using hge)] at ho'
       have h0:id' - O ((st.H.map x4.forget).set b (.cells ((S9 cs).set i (.s6 (O st.H) sz 0 len))))=0:=by
        have:=A3 ho';simp only [E4] at this;omega
       rw [h0] at ho';simp only [List.length_set,A9] at h0;simp only [List.getElem?_cons_zero,Option.some.injEq] at ho';exact .inr (.inr ⟨V,ho'.symm⟩)
     have aF0:VR (gF G b2 (.obj (O st.H))) (λk=>if k=O st.H then (b2,o) else I k) (λk=>N k\/k=O st.H) w (.cell b i) (.s6 (O st.H) sz 0 len) (.slice (J (ad b2 o)) len cap):=by
      simp only [VR,if_true,Nat.add_zero];exact ⟨.inr trivial,cap,rfl,k2,c2,e2,f2,k3,k4⟩
     refine ⟨gF G b2 (.obj (O st.H)),λk=>if k=O st.H then (b2,o) else I k,λk=>N k\/k=O st.H,⟨?_,?_,?_,?_,?_,?_,?_,h.size,h.idle⟩,?_⟩
     .intro s' t ht
      simp only [xN];exact VR.forget hI hN' _ _ _ (h.T s' t ht)
     .intro id' o' ho'
      rcases rF id' o' ho' with ⟨rfl,rfl⟩|⟨_,o1,h1,rfl⟩|⟨rfl,rfl⟩
      .have hk:=OR.forget hI hN' hG id' _ (h.H id' _ hb)
       simp only [x4.forget,OR] at hk ⊢;obtain ⟨q0,c3,e3,f3,q1,q2,q3,q4,q5⟩:=hk;refine ⟨q0,c3,e3,f3,q1,q2,q3,by simpa using q4,λi' x' hx' =>?_⟩
       by_cases ei:i' =i
       .subst ei
        rw [E9 (by rw [eZ];exact A3 hcj)] at hx';cases hx';rw [if_neg V,g1] at q1;cases q1;refine ⟨_,?_,aF0⟩;rw [if_neg V];exact v1
       .rw [x3 (λe=>ei e.symm)] at hx'
        exact q5 i' x' hx'
      .exact OR.forget hI hN' hG id' _ (h.H id' o1 h1)
      .simp only [OR,if_true]
       refine ⟨.inr trivial,c2,e2,f2,k3,qu _ _ _,k5,?_,λi' x' hx' =>?_⟩
       .have:=I8 sz k2
        rw [A9,hlen];omega
       .rw [List.getElem?_map] at hx'
        cases hd:xs[i']? with
        |none=>rw [hd] at hx';cases hx'
        |some d =>
         rw [hd] at hx';cases hx';obtain ⟨x,x1,x2⟩:=GY xs o i' d k7 hd;refine ⟨x,?_,?_⟩
         .simp only [World.cell?,k3] at x1
          simpa using x1
         .simp only [VR]
          exact OA (List.all_eq_true.1 OL d (List.mem_of_getElem? hd)) x2
     .intro b' hb'
      rw [J3 V];exact h.wf b' hb'
     .intro id' o' ho'
      exact ⟨λhh=>V,λhh=>V⟩
     .rw [eZ];exact h.Y8
     .intro id' hn
      rcases hn with hn|rfl
      .have:=h.bT id' hn
       simp;omega
      .simp
     .have:=h.He
      simp;omega
     .exact Wm h hb2 k6 hG Nb hbase
    .cases hr
   .cases hr
  .cases hr
 next sz len xs hT=>
  split at hr
  .cases hr
   exact ⟨G,I,N,h,Dj.refl _ _ _ _ _ _⟩
  split at hr
  next hl0 aQ=>
   cases hr;obtain ⟨Nb,hbase,UJ,OL⟩:=aQ;have xR:=A3 hT;have hlt:=h.Y8;obtain ⟨t,ht⟩:∃t,names[s]? =J t:=⟨_,n9 V⟩;have v2:=h.T s t ht;rw [List.getD_eq_getElem?_getD,hT,Option.getD_some] at v2;simp only [VR] at v2;obtain ⟨hlen,v2⟩:=v2
   rcases v2 with ⟨_,v2⟩|⟨_,b2,o,cap,c2,e2,f2,hv,k2,k3,k4,k5,k6,k7⟩
   .exact absurd v2 hl0
   have hb2:b2<w.heap.size:=by
    rcases A7 b2 w.heap.size with h|h
    .exact h
    .rw [Array.getElem?_eq_none h] at k3;cases k3
   have hI:∀id,N id->(λk=>if k=O st.H then (b2,o) else I k) id=I id:=λid hid=>by
    have:=h.bT id hid;simp only;rw [if_neg V]
   have hN' :∀id,N id->(λk=>N k\/k=O st.H) id:=λid hid=> .inl hid
   have hG:∀b' id,G b' = .obj id->gF G b2 (.obj (O st.H)) b' = .obj id:=λb' id hb' =>by
    rw [J3 (by rintro rfl;rw [k6] at hb';cases hb')];exact hb'
   refine ⟨gF G b2 (.obj (O st.H)),λk=>if k=O st.H then (b2,o) else I k,λk=>N k\/k=O st.H,⟨?_,?_,?_,?_,?_,?_,?_,h.size,h.idle⟩,Wm h hb2 k6 hG Nb hbase⟩
   .intro s' t' ht'
    by_cases e:s' =s
    .subst e
     rw [ht] at ht';cases ht';rw [List.getD_eq_getElem?_getD,E9 (by rw [eZ];exact xR),Option.getD_some,hv];simp only [VR,if_true,Nat.add_zero];exact ⟨.inr trivial,cap,rfl,k2,c2,e2,f2,k3,k4⟩
    .rw [List.getD_eq_getElem?_getD,x3 (λh=>e h.symm),<- List.getD_eq_getElem?_getD,xN]
     exact VR.forget hI hN' _ _ _ (h.T s' t' ht')
   .intro id' o' ho'
    rcases A7 id' (O st.H) with hlt' |hge
    .rw [y8 (by simpa using hlt'),List.getElem?_map] at ho'
     cases h1:st.H[id']? with
     |none=>rw [h1] at ho';cases ho'
     |some o1 =>
      rw [h1] at ho';cases ho';exact OR.forget hI hN' hG id' _ (h.H id' o1 h1)
    .rw [x7 (by simpa using hge)] at ho'
     have h0:id' - O (st.H.map x4.forget)=0:=by
      have:=A3 ho';simp only [E4] at this;omega
     rw [h0] at ho';simp only [A9] at h0;simp only [List.getElem?_cons_zero,Option.some.injEq] at ho';obtain rfl:id' =O st.H:=V
     subst ho';simp only [OR,if_true];refine ⟨.inr trivial,c2,e2,f2,k3,qu _ _ _,k5,?_,λi' x' hx' =>?_⟩
     .have:=I8 sz k2
      rw [A9,hlen];omega
     .rw [List.getElem?_map] at hx'
      cases hd:xs[i']? with
      |none=>rw [hd] at hx';cases hx'
      |some d =>
       rw [hd] at hx';cases hx';obtain ⟨x,x1,x2⟩:=GY xs o i' d k7 hd;refine ⟨x,?_,?_⟩
       .simp only [World.cell?,k3] at x1
        simpa using x1
       .simp only [VR]
        exact OA (List.all_eq_true.1 OL d (List.mem_of_getElem? hd)) x2
   .intro b' hb'
    rw [J3 V];exact h.wf b' hb'
   .intro id' o' ho'
    exact ⟨λhh=>V,λhh=>V⟩
   .rw [List.length_set,eZ];exact h.Y8
   .intro id' hn
    rcases hn with hn|rfl
    .have:=h.bT id' hn
     simp;omega
    .simp
   .have:=h.He
    simp;omega
  .cases hr
 .split at hr
  next hc=>
   cases hr;obtain ⟨_,hb,hst⟩:=hc;refine ⟨G,I,N,⟨h.T,λid' o' ho' =>?_,h.wf,λid' o' ho' =>⟨λhh=>V,λhh=>V⟩,h.Y8,λid' hn=>?_,?_,h.size,h.idle⟩,ak4 hb⟩
   .rcases A7 id' (O st.H) with hlt|hge
    .rw [y8 hlt] at ho'
     exact h.H id' o' ho'
    .rw [x7 hge] at ho'
     have:=List.mem_of_getElem? ho';rw [List.mem_singleton] at this;subst this;simp only [OR]
   .have:=h.bT id' hn
    simp;omega
   .have:=h.He
    simp;omega
  .cases hr
 .cases hr
def al4 (h:Cd P names E nt st a w G I N){s:Nat}(hr:oH E.lim E.entry s st=J st'):∃G' I' N',Cd P names E nt st' a w G' I' N' /\Dj E st.H w G I N st'.H w G' I' N' :=by
 unfold oH at hr;split at hr
 next r h1=>
  cases hr;obtain ⟨G',N',h2,h3⟩:=Ux h h1;exact ⟨G',I,N',h2,h3.trn⟩
 .exact Wl h hr
end
end Go.A5


import Derived.Test.YtibjocmpkoepoaaGreatUB0
import Derived.Orders
set_option linter.all false
open Bool renaming and_eq_true→c9,eq_false_or_eq_true→B3,false_eq_true→j6,not_eq_true'→o3,or_eq_false_iff→C7,true→W,false→F
open List renaming append_assoc→G8,getElem?_append_left→s9,getElem?_append_right→s5,getElem?_eq_getElem→n9,getElem?_set_ne→x5,getElem?_set_self→E0,getElem_of_mem→E9,length_append→k8,length_cons→o8,length_map→A1,length_nil→A4,length_singleton→D9,map_cons→E8,mem_singleton→L1,pairwise_cons→L2,replicate→c8,replicate_succ→L3,set_cons_succ→o4,take_length→I8,length→O
open Nat renaming add_assoc→K1,le_refl→j9,le_trans→p7,lt_or_ge→y7,mul_le_mul_right→E1,zero_le→x3
open Option renaming map_some→B6,some→J,none→K
namespace Go.y9
variable [D2]
mutual
theorem VR.kill {G:Gh}{I:O5}{N:Nat->Prop}{w:World}(id:Nat):∀(pl:Place) (a:c7) (x:Value),VR G I N w pl a x->VR G I (λi=>N i/\i≠id) w pl (a.kill id) x
 |_,.any,_,_=>by simp [c7.kill,VR]
 |_,.d _,_,h=>by grind [c7.kill,VR]
 |_,.ptr i o,x,h=>by
  grind [c7.kill,VR]
 |_,.Y4 _,_,h=>by grind [c7.kill,VR]
 |_,.r7 i z lo n,x,h=>by
  grind [c7.kill,VR]
 |_,.own _ _ _,_,h=>by simp_all [c7.kill,VR]
 |_,.N9,_,h=>by simp_all [c7.kill,VR]
 |_,.agg l,x,h=>by
  obtain ⟨cs,h1,h2⟩:=h;exact ⟨cs,h1,H6.kill id l _ h2⟩
 |_,.tuple l,x,h=>by
  obtain ⟨cs,h1,h2⟩:=h;exact ⟨cs,h1,H6.kill id l _ h2⟩
 |_,.func f a b,x,h=>by
  obtain ⟨u,v,h1,h2,h3⟩:=h;exact ⟨u,v,h1,H6.kill id a _ h2,H6.kill id b _ h3⟩
 |_,.map i,x,h=>by
  grind [c7.kill,VR]
theorem H6.kill {G:Gh}{I:O5}{N:Nat->Prop}{w:World}(id:Nat):∀(l:List c7) (xs:List Value),H6 G I N w l xs->H6 G I (λi=>N i/\i≠id) w (K8 id l) xs
 |[],_,h=>by grind [K8,H6]
 |a::as,xs,h=>by
  obtain ⟨x,xs',h1,h2,h3⟩:=h;exact ⟨x,xs',h1,VR.kill id _ a x h2,H6.kill id as xs' h3⟩
end
mutual
theorem VR.low {G:Gh}{I:O5}{N:Nat->Prop}{w:World}(n:Nat):∀(pl:Place) (a:c7) (x:Value),a.F4<=n->VR G I N w pl a x->VR G I (λi=>N i/\i<n) w pl a x
 |_,.any,_,_,_=>by simp [VR]
 |_,.d _,_,_,h=>by grind [VR]
 |_,.ptr i o,x,hb,h=>by grind [c7.F4,VR]
 |_,.Y4 _,_,_,h=>by grind [VR]
 |_,.r7 i z lo n',x,hb,h=>by grind [c7.F4,VR]
 |_,.own _ _ _,_,_,h=>by simp_all [VR]
 |_,.N9,_,_,h=>by simp_all [VR]
 |_,.agg l,x,hb,h=>by
  obtain ⟨cs,h1,h2⟩:=h;exact ⟨cs,h1,H6.low n l _ hb h2⟩
 |_,.tuple l,x,hb,h=>by
  obtain ⟨cs,h1,h2⟩:=h;exact ⟨cs,h1,H6.low n l _ hb h2⟩
 |_,.func f a b,x,hb,h=>by
  simp [c7.F4] at hb;obtain ⟨u,v,h1,h2,h3⟩:=h;exact ⟨u,v,h1,H6.low n a _ V h2,H6.low n b _ V h3⟩
 |_,.map i,x,hb,h=>by grind [c7.F4,VR]
theorem H6.low {G:Gh}{I:O5}{N:Nat->Prop}{w:World}(n:Nat):∀(l:List c7) (xs:List Value),A2 l<=n->H6 G I N w l xs->H6 G I (λi=>N i/\i<n) w l xs
 |[],_,_,h=>by grind [H6]
 |a::as,xs,hb,h=>by
  simp [A2] at hb;obtain ⟨x,xs',h1,h2,h3⟩:=h;exact ⟨x,xs',h1,VR.low n _ a x V h2,H6.low n as xs' V h3⟩
end
section
variable {P:Program} {X:Cx} {l:F9} {S:Nat->Prop} {st:F5} {a:Act} {w w' :World} {G:Gh} {I:O5} {N:Nat->Prop} {d9:Nat->Bool} {j8:List x9}
theorem ER.kill (id:Nat):∀(es:List (Key×c7)) (xs:List MapEntry),ER G I N w es xs->ER G I (λi=>N i/\i≠id) w (es.map λp=>(p.1,p.2.kill id)) xs
 |[],_,h=>by grind [ER]
 |(k,v)::r,xs,h=>by
  obtain ⟨e,es',h1,h2,h3,h4⟩:=h;exact ⟨e,es',h1,h2,VR.kill id _ v _ h3,ER.kill id r es' h4⟩
theorem ER.low (n:Nat):∀(es:List (Key×c7)) (xs:List MapEntry),A2 (es.map (·.2))<=n->ER G I N w es xs->ER G I (λi=>N i/\i<n) w es xs
 |[],_,_,h=>by grind [ER]
 |(k,v)::r,xs,hb,h=>by
  simp [E8,A2] at hb;obtain ⟨e,es',h1,h2,h3,h4⟩:=h;exact ⟨e,es',h1,h2,VR.low n _ v _ V h3,ER.low n r es' V h4⟩
theorem dH (id:Nat):∀(l:List c7) (i:Nat),(K8 id l)[i]? =(l[i]?).map (c7.kill id)
 |[],i=>by simp [K8]
 |v::vs,0=>by simp [K8]
 |v::vs,i+1=>by simp [K8,dH id vs i]
theorem O0 (id:Nat)(l:List c7):O (K8 id l)=O l:=by
 induction l with
 |nil=>rfl
 |cons v vs ih=>simp [K8,ih]
def qE (id:Nat)(l:List c7)(i:Nat):(K8 id l).getD i .any=(l.getD i .any).kill id:=by
 grind [List.getD,dH,c7.kill]
mutual
theorem BE (id:Nat):∀(a:c7),(a.kill id).F4<=a.F4
 | .any=>by simp [c7.kill]
 | .d _=>by simp [c7.kill]
 | .ptr i o=>by grind [c7.kill,c7.F4]
 | .Y4 _=>by simp [c7.kill]
 | .r7 i z lo n=>by grind [c7.kill,c7.F4]
 | .own _ _ _=>by simp [c7.kill]
 | .N9=>by simp [c7.kill]
 | .agg l=>by exact bI id l
 | .tuple l=>by exact bI id l
 | .func f a b=>by
  simp [c7.kill,c7.F4];have:=bI id a;have:=bI id b;omega
 | .map i=>by grind [c7.kill,c7.F4]
theorem bI (id:Nat):∀(l:List c7),A2 (K8 id l)<=A2 l
 |[]=>by simp [K8]
 |v::vs=>by
  simp [K8,A2];have:=BE id v;have:=bI id vs;omega
end
theorem xX (id:Nat):∀(es:List (Key×c7)),A2 ((es.map λp=>(p.1,p.2.kill id)).map (·.2))<=A2 (es.map (·.2))
 |[]=>U
 |(k,v)::r=>by
  simp only [E8,A2];have:=BE id v;have:=xX id r;omega
theorem zb (id:Nat)(o:s6):(o.kill id).F4<=o.F4:=by
 cases o with
 |dead=>simp [s6.kill]
 |cells l=>simp_all [s6.kill,s6.F4,bI]
 |map es=>simpa only [s6.kill,s6.F4] using xX id es
theorem OR.kill (id:Nat){id' :Nat}(hne:id' ≠id)(o:s6)(h:OR G I N w id' o):OR G I (λi=>N i/\i≠id) w id' (o.kill id):=by
 cases o with
 |dead=>simp [s6.kill,OR]
 |cells l0 =>
  grind [s6.kill,OR,O0,dH,VR.kill]
 |map es =>
  obtain ⟨hN,arr,cV,h1,h2,h3,h4⟩:=h;exact ⟨⟨hN,hne⟩,arr,cV,h1,h2,ER.kill id es _ h3,h4⟩
theorem jW:∀(l:List c7) (i:Nat) (x:c7),l[i]? =J x->x.F4<=A2 l
 |[],_,_,h=>by simp at h
 |v::vs,0,x,h=>by grind [A2]
 |v::vs,i+1,x,h=>by have:=jW vs i x (by simpa using h);grind [A2]
theorem OR.low {id n:Nat}(hn:id<n)(o:s6)(hb:o.F4<=n)(h:OR G I N w id o):OR G I (λi=>N i/\i<n) w id o:=by
 cases o with
 |dead=>simp [OR]
 |cells l0 =>
  obtain ⟨hN,c,e,f,h1,h2,h3,h4,h5⟩:=h
  .refine ⟨⟨hN,hn⟩,c,e,f,h1,h2,h3,h4,λi x hx=>?_⟩
   obtain ⟨v,g1,g2⟩:=h5 i x hx;exact ⟨v,g1,VR.low n _ x v (by exact p7 (jW _ _ _ hx) hb) g2⟩
 |map es =>
  grind [OR,ER.low,s6.F4]
end
end Go.y9
namespace Go.y9
variable [D2]
section
variable {P:Program} {X:Cx} {l:F9} {S:Nat->Prop} {st:F5} {a:Act} {w w' :World} {G G' :Gh} {I I' :O5} {N:Nat->Prop} {d9:Nat->Bool} {j8:List x9}
def lJ (H:k9)(base id:Nat)(o:s6):k9:=(H.take base++(H.drop base).map (s6.kill id)).set id o
def sC {H:k9}{base id:Nat}{o:s6}(hid:id<O H){id' :Nat}{o' :s6}(h:(lJ H base id o)[id']? =J o') :
  (id' =id/\o' =o)\/(id' ≠id/\id' <base/\H[id']? =J o')\/(id' ≠id/\base<=id' /\∃o0,H[id']? =J o0/\o' =o0.kill id):=by
 unfold lJ at h;have hlen:O (H.take base++(H.drop base).map (s6.kill id))=O H:=D
 by_cases he:id' =id
 .simp_all
 .by_cases hb:id' <base
  .grind
  .by_cases hl:base<=O H
   .grind
   grind
def Z6.Lp (h:RI X l S st a w G I N){k:Nat}(hk:¬ S k)(U8:k<O st.L){entry id:Nat}{o0:s6}(h0:st.H[id]? =J o0)(hbase:l.base<=id)(EY:entry<=id)(hmay:l.may id=W)
  (hx:Ext G w G' w') (hkp:∀q,X7 q G w G' w') (ho:∀id',id' ≠id->∀b,G b= .obj id' ->G' b= .obj id' /\w'.heap[b]? =w.heap[b]?) (hwf:WF G' w') (hI:∀i,i≠id->I' i=I i)
  {cs:List c7} (It:OR G' I' N w' id (.cells cs)) (qH:A2 cs<=max o0.F4 (id+1)) {v:c7} {x:Value} (hv:VR G' I' N w' (.loc k) v x) (l6:List Touch) (Fe:l6.any (Touch.E3 id)=W) :
  Z6 X l S entry st a w G I N (put { T:=K8 id st.T,H:=lJ st.H l.base id (.cells cs),L:=K8 id st.L,l6 } k v) k x w' G' I' N:=by
 have hid:=y8 h0;have hI' :∀i,(N i/\i≠id)->I' i=I i:=λi hi=>hI i hi.2
 have hNN:∀i,(N i/\i≠id)->N i:=λi hi=>hi.1
 have vr:∀{pl:Place} {b:c7} {u:Value},VR G I N w pl b u->VR G' I' N w' pl (b.kill id) u :=
  λhb=>VR.mono hx hI' hNN _ _ _ (Or.inr (hkp _)) (VR.kill id _ _ _ hb)
 refine ⟨⟨?_,?_,?_,hwf,?_⟩,?_,hx,?_,?_,?_,λ_ h=>h,?_,?_⟩
 .intro s t ht
  simp only [y9.put,qE];exact vr (h.T s t ht)
 .intro j hj d hd hn
  have:k≠j:=by grind
  simp only [y9.put];rw [L5 _ _ _ _ _ this,qE];exact vr (h.L j hj d hd hn)
 .intro id' o' ho'
  rcases sC hid ho' with ⟨rfl,rfl⟩|⟨hne,hb,hold⟩|⟨hne,hb,o1,hold,rfl⟩
  .exact It
  .have KV:=OR.low (n:=l.base) hb o' ((h.Q7 id' o' hold).2 hb) (h.H id' o' hold)
   exact OR.mono hx (λi hi=>hI i V) (λi hi=>hi.1) id' o' (λhb' =>ho id' hne _ hb') (λ_=>hkp _) KV
  .exact OR.mono hx hI' hNN id' _ (λhb' =>ho id' hne _ hb') (λ_=>hkp _) (OR.kill id hne o1 (h.H id' o1 hold))
 .intro id' o' ho'
  rcases sC hid ho' with ⟨rfl,rfl⟩|⟨hne,hb,hold⟩|⟨hne,hb,o1,hold,rfl⟩
  .obtain ⟨d1,d2⟩:=h.Q7 id' o0 h0
   grind [s6.F4]
  .exact h.Q7 id' o' hold
  .obtain ⟨d1,d2⟩:=h.Q7 id' o1 hold
   grind [zb]
 .simp_all [y9.put,K5,O0]
 .intro id' hm
  grind
 .grind [y9.put]
 all_goals grind [y9.put,lJ]
def sF {cs:List c7}{vs:List Value}(h:cs.all c7.one=W)(hv:H6 G I N w cs vs):Df vs:=jm _ _ h hv
def xz (h:RI X l S st a w G I N)(hD:∀j,d9 j=W->S j){k:Nat}(hk:¬ S k)(U8:k<O st.L){o:Oper}{sz bytes:Nat}{ob:Bool}{x y:A3}
  (hc:bK P (X.ck d9) o (.append sz bytes ob x y)=W) {E:Env} (hE:E.lim=l) {id lo len:Nat} (hx:F1 st.T st.L x= .r7 id sz lo len) {st' :F5} (he:S0 E k sz bytes st id lo len (F1 st.T st.L y)=J st') :
  ∃v w' G' I',(execOp a.eval o).run P w= .ok (.value v) w' /\Z6 X l S E.entry st a w G I N st' k v w' G' I' N:=by
 obtain ⟨x0,y0,t,t2,e,i,z,hop,RZ,Sa,ht2,hsz,hu,hi,hsi,KR,hz,hzs,RX⟩:=bg hc;unfold S0 at he;rw [hE] at he;split at he
 next V7=>
  split at he
  next l0 m cs hl0 hcs=>
   split at he
   next Eg=>
    obtain ⟨rfl,hlen,hroom,Vf,hone,_⟩:=Eg;cases he;obtain ⟨vn,hl,hf,JF,hcl⟩:=lX (P:=P) h.H (h.M9 hD _ _ Sa) hsz hcs;have hval:=h.M9 hD _ _ RZ;rw [hx] at hval;simp only [VR] at hval;obtain ⟨KQ,cap,hx0,hcap,c,e',f,hb,Qg⟩:=hval;have oH:(execOp a.eval o).run P w=((Builtin.append_ #[t,t2] o.type #[a.eval x0,a.eval y0]).run P w).andThen λv w' => .ok (.value v) w' :=by
     obtain ⟨dst,aU,ty,pos,after,guard⟩:=o;simp only at hop;subst hop;simp [execOp,resolve,invoke,builtin]
    have sy:O vn=m * sz:=by rw [H6.length _ _ JF,hcl]
    subst hsi KR;have hO:=h.H id _ hl0;simp only [OR] at hO;obtain ⟨_,c0,e0,f0,h1,Cp,hnf,aj8,h5⟩:=hO;rw [hb] at h1;cases h1;have qH:A2 (K8 id l0++cs)<=max (s6.cells l0).F4 (id+1):=by
     rw [dY];have:=bI id l0;simp only [s6.F4];omega
    have Cr:=sF hone JF;have vrk:∀{pl:Place} {b:c7} {u:Value},VR G I N w pl b u->VR G I N w pl (b.kill id) u :=
     λhb=>VR.mono (Ext.refl _ _).sub (λ_ _=>rfl) (λi hi=>hi.1) _ _ _ (Or.inr (λ_ _ h=>⟨h,rfl⟩)) (VR.kill id _ _ _ hb)
    by_cases hfit:len+m<=cap
    ·
     have hrun:=aX (P:=P) (w:=w) (ty:=o.type) hu hi ht2 (base:=J (ad (I id).1 ((I id).2+0))) (sLen:=len) (sCap:=cap) hl (hf w rfl) hfit;have hbig:(len+m) * i.size<=cap * i.size:=E1 _ hfit;rw [Nat.add_mul] at hbig;have Sr:(I id).2+len * i.size+O vn<=c.size:=V
     have hst:=run_storeCells_at (P:=P) (I id).1 ((I id).2+0+len * i.size) e' f vn 0 c w hb hnf V Cr;have sq :(I id).2+0+len * i.size+O vn<=O c.toList:=D
     have jP :(I9 c.toList ((I id).2+0+len * i.size) vn).toArray.size=c.size:=by rw [List.size_toArray,gG _ _ _ sq,Array.length_toList]
     have hw:=rH (G:=G) hb Cp jP;refine ⟨.slice (J (ad (I id).1 ((I id).2+0))) (len+m) cap,w.setRow (I id).1 (I9 c.toList ((I id).2+0+len * i.size) vn).toArray,G,I,?_,
      Z6.Lp h hk U8 hl0 V7.1 V7.2.1 V7.2.2 hw.ext hw.keeps (λid' hne=>hw.tF hne) (λb' hb' =>h.wf b' (by rw [<- hw.size];exact hb')) (λ_ _=>rfl) ?_ qH ?_ (.obj id::st.l6) (by simp [Touch.E3])⟩
     .rw [oH,hx0,hrun]
      simp only [W3];simp only [Nat.add_zero] at hst ⊢;rw [hst];rfl
     .simp only [OR]
      have mono:∀{pl:Place} {b:c7} {u:Value},VR G I N w pl b u->VR G I N (w.setRow (I id).1 (I9 c.toList ((I id).2+0+len * i.size) vn).toArray) pl b u :=
       λhq=>VR.mono hw.ext (λ_ _=>rfl) (λ_ h=>h) _ _ _ (Or.inr (hw.keeps _)) hq
      refine ⟨KQ,_,e',f,setRow_heap w _ c _ e' f hb,Cp,by rw [jP];exact hnf,?_,λj b hj=>?_⟩
      .rw [jP,k8,O0,hcl];omega
      .rw [show (I9 c.toList ((I id).2+0+len * i.size) vn).toArray[(I id).2+j]? =(I9 c.toList ((I id).2+0+len * i.size) vn)[(I id).2+j]? from by simp,gF _ _ _ sq]
       have hjl:=y8 hj;rw [k8,O0,hcl] at hjl
       by_cases GI:j<O l0
       .rw [s9 (by rw [O0];exact GI),dH] at hj
        rw [if_pos V];rw [n9 GI] at hj;simp at hj;subst hj;obtain ⟨v,g1,g2⟩:=h5 j _ (n9 GI);exact ⟨v,by simpa using g1,mono (vrk g2)⟩
       .rw [s5 (by rw [O0];omega),O0] at hj
        rw [if_neg V,if_pos V];obtain ⟨u,r1,r2⟩:=H6.get _ _ JF (j - O l0) b hj;exact ⟨u,by rw [show (I id).2+j - ((I id).2+0+len * i.size)=j - O l0 from by omega];exact r1,mono r2.place⟩
     .simp only [VR]
      exact ⟨KQ,cap,rfl,hfit,_,e',f,setRow_heap w _ c _ e' f hb,by rw [jP];exact Qg⟩
    ·
     have hlt:cap<len+m:=V
     have KU:∃vo:List Value,O vo=len * i.size/\(∀w2:World,w2.heap=w.heap->(Builtin.firstCells i.size len (.slice (J (ad (I id).1 ((I id).2+0))) len cap)).run P w2= .ok vo.toArray w2) /\
       (∀(j:Nat) b,l0[j]? =J b->∃v,vo[j]? =J v/\VR G I N w (.cell id j) b v):=by
      refine ⟨(List.range (len * i.size)).map (λj=>(c[(I id).2+j]?).getD default),U,λw2 Iw=>?_,λj b hj=>?_⟩
      .have:=run_loadCells_list (P:=P) w2 (ad (I id).1 ((I id).2+0)) ((List.range (len * i.size)).map (λj=>(c[(I id).2+j]?).getD default)) (λj v hj=>by
        have hjn:j<len * i.size:=by
         rcases y7 j (len * i.size) with h|h
         .exact h
         .simp [h] at hj
        simp [hjn] at hj;rw [W3,fh Iw,P6 hb];have hlt:(I id).2+j<c.size:=V
        simp [hlt] at hj ⊢;exact hj)
       simpa [Builtin.firstCells] using this
      .have hjn:j<len * i.size:=by have:=y8 hj;omega
       obtain ⟨u,g1,g2⟩:=h5 j b hj;exact ⟨u,by simp [hjn,g1],g2⟩
     obtain ⟨vo,Sx,Sy,Sz⟩:=KU;obtain ⟨aR,vk,hrun⟩:=cI (P:=P) (w:=w) (ty:=o.type) hu hi hz ht2 (base:=J (ad (I id).1 ((I id).2+0))) (sLen:=len) (sCap:=cap) hl (hf w.drew rfl) (Sy w.drew rfl) hlt (ud hroom RX) (lQ hroom hlt);have hnb:fF w (w.drew.alloc (.cells (vo.toArray++vn.toArray++Builtin.zeroCells z.cells (aR - (len+m))) e)) (.cells (vo.toArray++vn.toArray++Builtin.zeroCells z.cells (aR - (len+m))) e):=by
      have:=fF.alloc w.drew (.cells (vo.toArray++vn.toArray++Builtin.zeroCells z.cells (aR - (len+m))) e);exact ⟨this.os,this.tape,this.output,p7 (Nat.le_succ _) this.drawn,this.size,this.old,this.new⟩
     have hsize:(vo.toArray++vn.toArray++Builtin.zeroCells z.cells (aR - (len+m))).size=aR * i.size:=by
      simp only [Array.size_append,List.size_toArray,qh,hzs,Sx,sy];have:aR * i.size=(len+m) * i.size+(aR - (len+m)) * i.size:=by rw [<- Nat.add_mul];congr 1;omega
      rw [this,Nat.add_mul]
     refine ⟨.slice (J (ad w.heap.size 0)) (len+m) aR,_,dc G w.heap.size (.obj id),lu I id (w.heap.size,0),?_,
      Z6.Lp h hk U8 hl0 V7.1 V7.2.1 V7.2.2 (hnb.ext h.wf _) (hnb.keeps h.wf _) (λid' _=>hnb.tF h.wf _ id') (hnb.wf h.wf _) (λi hi=>ay hi) ?_ qH ?_ (.obj id::st.l6) (by simp [Touch.E3])⟩
     .rw [oH,hx0,hrun];rfl
     .simp only [OR]
      have mono:∀{pl:Place} {b:c7} {u:Value},VR G I N w pl b u->VR (dc G w.heap.size (.obj id)) (lu I id (w.heap.size,0)) N _ pl (b.kill id) u :=
       λhq=>VR.mono (hnb.ext h.wf _).sub (λi hi=>ay hi.2) (λi hi=>hi.1) _ _ _ (Or.inr (hnb.keeps h.wf _ _)) (VR.kill id _ _ _ hq)
      refine ⟨KQ,_,e,(0,0),by rw [S3];exact hnb.new,U,iR _,?_,λj b hj=>?_⟩
      .rw [hsize]
       simp only [S3,k8,O0,hcl];have:(len+m) * i.size<=aR * i.size:=E1 _ vk;rw [Nat.add_mul] at this;omega
      .have hjl:=y8 hj
       rw [k8,O0,hcl] at hjl;simp only [S3,Nat.zero_add];rw [show (vo.toArray++vn.toArray++Builtin.zeroCells z.cells (aR - (len+m)))[j]? =(vo++vn++(Builtin.zeroCells z.cells (aR - (len+m))).toList)[j]? from by rw [<- Array.getElem?_toList];simp,
        s9 (by rw [k8];omega)]
       by_cases GI:j<O l0
       .rw [s9 (by rw [O0];exact GI),dH] at hj
        rw [s9 V];rw [n9 GI] at hj;simp at hj;subst hj;obtain ⟨v,g1,g2⟩:=Sz j _ (n9 GI);exact ⟨v,g1,mono g2⟩
       .rw [s5 (by rw [O0];omega),O0] at hj
        rw [s5 V];obtain ⟨u,r1,r2⟩:=H6.get _ _ JF (j - O l0) b hj;refine ⟨u,by rw [show j - O vo=j - O l0 from by omega];exact r1,?_⟩;have hb' :b.F4<=id:=p7 (jW _ _ _ hj) Vf;exact (VR.mono (hnb.ext h.wf _).sub (λi hi=>ay (by have:=hi.2;omega)) (λi hi=>hi.1) _ _ _ (Or.inl rfl) (VR.low id _ _ _ hb' r2)).place
     .simp only [VR]
      refine ⟨KQ,aR,U,vk,_,e,(0,0),by rw [S3];exact hnb.new,?_⟩;rw [hsize];simp
   .cases he
  .cases he
 .cases he
end
end Go.y9
namespace Go.y9
variable [D2]
section
variable {P:Program} {X:Cx} {l:F9} {S:Nat->Prop} {st:F5} {a:Act} {w w' :World} {G G' :Gh} {I I' :O5} {N:Nat->Prop} {d9:Nat->Bool} {j8:List x9}
def EE (P:Program)(ck:Operand->A3->Bool)(o:Oper)(op:F0):Bool :=
 match o.op,op with
 | .mapUpdate t m k v,.dI kk m' k' v' =>ck m m' &&ck k k' &&ck v v' &&(match P.underlying t with
  |some (.map kt _)=>qL P kt kk
  |_=>F)
 |_,_=>F
theorem uz:∀{ks:List CK} {l m:List KD},M7 ks (l.map KD.av) (m.map KD.av)=J W->l=m
 |[],[],[],_=>rfl
 |[],_::_,_,h=>by simp [M7] at h
 |[],[],_::_,h=>by simp [M7] at h
 |k::ks,[],m,h=>by simp [M7] at h
 |k::ks,x::l,[],h=>by simp_all [M7,KD.av]
 |k::ks,x::l,y::m,h=>by
  have hd:∀(a b:Data),KD.av x= .d a->KD.av y= .d b->M7 (k::ks) (.d a::l.map KD.av) (.d b::m.map KD.av)=J W->x=y/\l=m:=by
   intro a b ha hb h;simp [M7] at h;split at h
   .split at h
    next u hu=>
     simp at h;obtain ⟨rfl,rfl⟩:=h;refine ⟨?_,uz hu⟩;simp_all [KD.av,Data.zX]<;>grind
    .cases h
   .cases h
  simp_all [KD.av]<;>grind
def Fk {kk:KK}{a b:Key}(h:Data.aP kk a b=J W):a=b:=by
 unfold Data.aP at h
 grind [uz]
def Ln (k:Key):Instr.sameBits 10000 k.val k.val=W:=by
 have h:∀x:KD,Instr.sameBits 9999 x.val x.val=W:=by intro x;cases x<;>simp [KD.val,Instr.sameBits,beq_toListBytes]
 cases k<;>simp [Key.val,Instr.sameBits,beq_toListBytes]
 grind
theorem Ho {kk:KK}{t:TypeId}{d:TypeDesc}(ht:qL P t kk=W)(hd:P.underlying t=J d){key:Key}{nv:c7}{x:Value}(hx:VR G I N w .none nv x) :
  ∀(es:List (Key×c7)) (xs:List MapEntry) (i:Nat) (es' :List (Key×c7)),ER G I N w es xs->bA kk key nv es=J es' ->
   (mA (jE P w t d key.val kk) xs i K/\∀born,ER G I N w es' (xs++[{ key:=key.val,val:=x,born }])) \/
   (∃j v0,mA (jE P w t d key.val kk) xs i (J (i+j,v0))/\(∃e0,xs[j]? =J e0/\e0.key=key.val)/\ER G I N w es' (xs.modify j λe=>{ e with key:=key.val,val:=x }))
 |[],xs,i,es',hE,h=>by
  subst hE;simp [bA] at h;refine Or.inl ⟨rfl,λborn=>?_⟩
  grind [ER]
 |(k',v')::rest,xs,i,es',hE,h=>by
  obtain ⟨e,ys,rfl,h2,h3,h4⟩:=hE;unfold bA at h;split at h
  next hk=>
   have he:=Fk hk;subst he;refine Or.inr ⟨0,e.val,.inl ⟨by simp_all [pO],rfl⟩,⟨e,rfl,h2⟩,?_⟩
   grind [List.modify_zero_cons,ER]
  .split at h
   next r' hr=>
    have hne:jE P w t d key.val kk e.key F:=by simp_all [pO]
    rcases Ho ht hd hx rest ys (i+1) r' h4 hr with ⟨g1,g2⟩|⟨j,v0,g1,g2,g3⟩
    .refine Or.inl ⟨.inr ⟨hne,g1⟩,λborn=>?_⟩
     grind [ER]
    .refine Or.inr ⟨j+1,v0,.inr ⟨hne,?_⟩,M,?_⟩
     all_goals grind [List.modify_succ_cons,ER]
   .cases h
  .cases h
theorem uu {kk:KK}{key:Key}{nv:c7}:∀(es es' :List (Key×c7)),bA kk key nv es=J es' ->A2 (es'.map (·.2))<=max (A2 (es.map (·.2))) nv.F4
 |[],es',h=>by grind [bA,A2]
 |(k',v')::rest,es',h=>by
  unfold bA at h;split at h
  .grind [A2]
  .split at h
   next r' hr=>
    have:=uu rest r' hr
    grind [A2]
   .cases h
  .cases h
def EP (h:RI X l S st a w G I N)(hD:∀j,d9 j=W->S j){k:Nat}(hk:¬ S k)(U8:k<O st.L)(entry:Nat){o:Oper}{kk:KK}{m ky v:A3}(hc:EE P (X.ck d9) o (.dI kk m ky v)=W){E:Env}(hE:E.lim=l)
  {st' :F5} (he:Q6 E k kk st (F1 st.T st.L m) (F1 st.T st.L ky) (F1 st.T st.L v)=J st'):∃w',(execOp a.eval o).run P w= .ok .skip w' /\Z6 X l S entry st a w G I N st' k undef w' G I N:=by
 obtain ⟨dst,aU,ty,pos,after,guard⟩:=o;cases aU<;>simp only [EE,c9] at hc<;>try (cases hc;done)
 rename_i t m' k' v';obtain ⟨⟨⟨hm,hky⟩,hv⟩,ht⟩:=hc;have h1:=h.M9 hD _ _ hm;have h2:=h.M9 hD _ _ hky;have h3:=h.M9 hD _ _ hv;split at ht
 next kt et hu=>
  obtain ⟨dk,hdk⟩:∃d,P.underlying kt=J d:=by
   cases hd:P.underlying kt with
   |none=>cases kk<;>simp [qL,cE,fK,hd] at ht
   |some d=>exact ⟨d,rfl⟩
  unfold Q6 at he;split at he
  next id kd hp hq=>
   rw [hp] at h1;simp only [VR] at h1;have h2:=AA hq h2;split at he
   next es Nh=>
    split at he
    next V7=>
     split at he
     next hkk=>
      split at he
      next es' Vo=>
       cases he;have hO:=h.H id _ Nh;simp only [OR] at hO;obtain ⟨hN,arr,cV,g1,g2,g3,g4⟩:=hO;have Vr:(getObj (I id).1).run P w= .ok (.map arr cV) w:=by simp [getObj,Sem.run,g1]
       have hlt:(I id).1<w.heap.size:=by
        rcases y7 (I id).1 w.heap.size with h|h
        .exact h
        .rw [Array.getElem?_eq_none h] at g1;cases g1
       have mz:∀ob:Obj,(setObj (I id).1 ob).run P w= .ok () { w with heap:=w.heap.setIfInBounds (I id).1 ob }:=by
        intro ob;simp [setObj,Sem.run,g1]
       have wrote:∀ob:Obj,mB id (I id).1 w { w with heap:=w.heap.setIfInBounds (I id).1 ob } G:=by
        intro ob;refine ⟨g2,rfl,rfl,rfl,j9 _,U,λb' hne=>?_,λc e f hc=>?_⟩
        .simp [Array.getElem?_setIfInBounds_ne (λe=>hne e.symm)]
        .rw [g1] at hc;cases hc
       have qH:(s6.map es').F4<=max (s6.map es).F4 (id+1)\/(l.base<=id/\l.strict<=id):=by
        left;have:=uu es es' Vo;simp only [s6.F4];have:=V7.1;omega
       have fin:∀(HL :Array MapEntry) (Ke :Nat),ER G I N w es' HL.toList->Bq HL Ke ->Z6 X l S entry st a w G I N (put { st with H:=st.H.set id (.map es'),l6:= .obj id::st.l6 } k .any) k undef { w with heap:=w.heap.setIfInBounds (I id).1 (.map HL Ke) } G I N:=by
        intro HL Ke hER hBn;have hw:=wrote (.map HL Ke);refine Z6.write h hk U8 entry hw Nh ?_ (by rw [<- hE];exact V7.2) qH (λ_=>Iff.rfl) (by simp [VR]) (.obj id::st.l6) (by simp [Touch.E3]);simp only [OR];exact ⟨hN,HL,Ke,by simp [hlt],g2,ER.mono hw.ext (λ_ _=>rfl) (λ_ h=>h) _ _ hER,hBn⟩
       have hck:=fG (P:=P) (w:=w) ht (GA hkk) F 9998;rw [<- h2] at hck;have hp:=Ho (P:=P) (w:=w) (key:=kd) ht hdk h3 es arr.toList 0 es' g3 Vo;rw [<- h2] at hp
       rcases hp with ⟨f1,f2⟩|⟨j,v0,f1,⟨e0,f2,f2'⟩,f3⟩
       .have Qj:(Instr.findKey kt (a.eval k') arr.toList).run P w= .ok K w:=kB hdk f1
        refine ⟨_,?_,fin (arr.push { key:=a.eval k',val:=a.eval v',born:=cV }) (cV+1) (by simpa using f2 cV) (g4.push _ _)⟩;simp [execOp,h1.2,Instr.mapUpdate,run_underlying hu,Vr,hck,Qj,mz]
       .have Qj:(Instr.findKey kt (a.eval k') arr.toList).run P w= .ok (J (0+j,v0)) w:=kB hdk f1
        have hkeep:(Instr.keyThatStays (((arr[0+j]?).map (·.key)).getD (a.eval k')) (a.eval k')).run P w= .ok (a.eval k') w:=by
         have e1:arr[0+j]? =J e0:=by simpa using f2
         have vp:=Ln kd;rw [<- h2] at vp;rw [e1];simp only [B6,Option.getD_some,f2',Instr.keyThatStays,vp,if_true,Sem.run_pure]
        refine ⟨_,?_,fin (arr.modify (0+j) λe=>{ e with key:=a.eval k',val:=a.eval v' }) cV (by simpa using f3) (g4.modify _ _ λ_=>rfl)⟩;simp only [execOp,h1.2,Instr.mapUpdate,Sem.run_bind,run_underlying hu,Result.andThen_ok,Vr,hck,Qj,hkeep,mz,Sem.run_pure]
      .cases he
     .cases he
    .cases he
   .cases he
  .cases he
 .cases ht
end
end Go.y9
namespace Go.y9
variable [D2]
section
variable {P:Program} {X:Cx} {l:F9} {S:Nat->Prop} {st:F5} {a:Act} {w w' :World} {G G' :Gh} {I I' :O5} {N:Nat->Prop} {d9:Nat->Bool} {j8:List x9}
def CB (h:RI X l S st a w G I N)(hpv:PV X j8 S st a w I)(hT:O st.T=O X.names)(hD:∀j,d9 j=W->S j){x:Operand}{y:A3}(hc:X.ck d9 x y=W)(hn:isNil l j8 st y=W) :
  a.eval x= .slice K 0 0:=by
 unfold isNil at hn;split at hn
 .unfold Cx.ck at hc
  split at hc
  .simp_all
  .simp_all
  next v' b heq=>
   cases heq;have:=aM (G:=G) (I:=I) (N:=N) (w:=w) _ _ hc;simp_all [VR,Act.eval]
  all_goals simp_all
 next j=>
  have Si:∃t,x= .tmp t/\d9 j=W/\(X.ops[j]?).bind (·.dst)=J t/\X.names.contains t=F:=by
   simp_all [Cx.ck]<;>grind
  obtain ⟨t,rfl,hDj,vi,Aq⟩:=Si;have RR:=hD j hDj;simp only [Act.eval];split at hn
  .have h1:=h.L j RR t vi Aq
   simp_all [Y3,VR]
  next n0 c0 hj=>
   split at hn
   next ai hai=>
    unfold eG at hn;split at hn
    next s hop=>
     simp only [c9,o3] at hn;obtain ⟨hun,hs⟩:=hn;split at hs
     .obtain ⟨ts,hts⟩:∃ts,X.names[s]? =J ts:=by
       grind
      have h1:=h.T s ts hts;have he:=hpv.slot j ai s ts t RR (by rw [hj];simp) hai hop hts vi Aq hun;simp_all [VR]
     .cases hs
    next x' hop=>
     split at hn
     next id off Oe=>
      simp only [c9,o3] at hn;obtain ⟨⟨hun,hmay⟩,hs⟩:=hn;split at hs
      next cs hcs=>
       split at hs
       next Bk=>
        have hO:=h.H id _ hcs;obtain ⟨hN,c,e,f,g1,g2,g3,g4,g5⟩:=hO;have he:=hpv.cell j ai x' id off t cs RR (by rw [hj];simp) hai hop Oe hcs (y8 Bk) hun vi Aq
        grind [P6,Option.some_inj,VR]
       .cases hs
      .cases hs
     .cases hn
    .cases hn
   .cases hn
  .cases hn
 .cases hn
def mF (h:RI X l S st a w G I N)(hpv:PV X j8 S st a w I)(hT:O st.T=O X.names)(hD:∀j,d9 j=W->S j){k:Nat}(hk:¬ S k)(U8:k<O st.L)(entry:Nat){z6:Option Nat}(hid:ta l st N z6){o:Oper}{sz bytes:Nat}{x y:A3}
  (hc:bK P (X.ck d9) o (.append sz bytes W x y)=W) {E:Env} (hE:E.lim=l) {st' :F5} (he:J1 E j8 z6 k sz bytes W st x (F1 st.T st.L y)=J st') :
  (∃v w' G',(execOp a.eval o).run P w= .ok (.value v) w' /\Z6 X l S entry st a w G I N st' k v w' G' I N) \/
  ∃v w' G' I' N' ob av,(execOp a.eval o).run P w= .ok (.value v) w' /\st' =put (C8 st z6 ob) k av/\Z6 X l S entry st a w G I N st' k v w' G' I' N' /\(∀i,N' i↔N i\/i=newId st z6):=by
 obtain ⟨x0,y0,t,t2,e,i,z,hop,RZ,Sa,ht2,hsz,hu,hi,hsi,KR,hz,hzs,RX⟩:=bg hc;have oH:(execOp a.eval o).run P w=((Builtin.append_ #[t,t2] o.type #[a.eval x0,a.eval y0]).run P w).andThen λv w' => .ok (.value v) w' :=by
  simp_all [guard,execOp,resolve,invoke,builtin]
 unfold J1 at he;rw [hE] at he;simp [if_true] at he;split at he
 next m cs hcs=>
  split at he
  next V7=>
   obtain ⟨hnil,hroom,_⟩:=V7;have hx0:=CB h hpv hT hD RZ hnil;obtain ⟨vn,hl,hf,JF,hcl⟩:=lX (P:=P) h.H (h.M9 hD _ _ Sa) hsz hcs;have sy:O vn=m * sz:=by grind [H6.length]
   subst hsi KR;split at he
   next hm=>
    subst hm;cases he;have hrun:=aX (P:=P) (w:=w) (ty:=o.type) hu hi ht2 (base:=K) (sLen:=0) (sCap:=0) hl (hf w rfl) (j9 _);refine Or.inl ⟨.slice K 0 0,w,G,?_,Z6.same h hk U8 entry (by simp [VR])⟩;simp_all
   .cases he
    have hlt:0<0+m:=V
    obtain ⟨aR,vk,hrun⟩:=cI (P:=P) (w:=w) (ty:=o.type) hu hi hz ht2 (base:=K) (sLen:=0) (sCap:=0) (old:= #[]) hl (hf w.drew rfl) (by rfl) hlt (by rw [Nat.zero_add];exact ud hroom RX) (by simp_all [Nat.zero_add,lQ]);rw [Nat.zero_add] at vk hrun;have hnb:fF w (w.drew.alloc (.cells (#[]++vn.toArray++Builtin.zeroCells z.cells (aR - m)) e)) (.cells (#[]++vn.toArray++Builtin.zeroCells z.cells (aR - m)) e):=by
     have:=fF.alloc w.drew (.cells (#[]++vn.toArray++Builtin.zeroCells z.cells (aR - m)) e);exact ⟨this.os,this.tape,this.output,p7 (Nat.le_succ _) this.drawn,this.size,this.old,this.new⟩
    have hsize:(#[]++vn.toArray++Builtin.zeroCells z.cells (aR - m):Array Value).size=aR * i.size:=by
     simp [Array.size_append,List.size_toArray,qh,hzs,sy,A4,Nat.zero_add];rw [<- Nat.add_mul];simp_all
    refine Or.inr ⟨.slice (J (ad w.heap.size 0)) m aR,_,_,_,_,.cells cs,_,M,rfl,Z6.newObj h hk U8 entry hid hnb (.cells cs) ?_ ?_,λi=>Iff.rfl⟩
    .simp only [OR]
     refine ⟨Or.inr trivial,_,e,(0,0),by rw [S3];exact hnb.new,U,iR _,?_,λj b hj=>?_⟩
     .simp_all [S3,Nat.zero_add,E1]
     .simp only [S3]
      obtain ⟨u,r1,r2⟩:=H6.get _ _ JF j b hj;refine ⟨u,?_,?_⟩
      .grind
      .exact (hnb.vr h.wf _ (λj hj=>ay (by rintro rfl;exact hid.new hj)) (λ_ h=>Or.inl h) r2).place
    .simp only [VR]
     refine ⟨Or.inr trivial,aR,U,vk,_,e,(0,0),by rw [S3];exact hnb.new,?_⟩;simp_all
  .cases he
 .cases he
def uB (P:Program)(ck:Operand->A3->Bool)(o:Oper)(op:F0):Bool :=
 match o.op,op with
 | .call ⟨.builtin .clear,args,argTypes⟩,.clear sz zero y =>
  (match args.toList,argTypes.toList with
   |[x],[t]=>ck x y&&decide (0<sz)&&(match P.underlying t with
    |some (.slice e)=>(match P.info? e with
     |some i=>(match i.zero with|some z=>consts z.cells.toList zero&&z.cells.size==sz&&zero.all c7.one|none=>F)
     |none=>F)
    |_=>F)
   |_,_=>F)
 |_,_=>F
theorem Cg {α:Type}(zero:List α):∀(n i:Nat),((c8 n zero).flatten)[i]? =if i<n * O zero then zero[i % O zero]? else K
 |0,i=>U
 |n+1,i=>by
  rw [L3,List.flatten_cons]
  by_cases h:i<O zero
  .rw [s9 h,if_pos (by grind),Nat.mod_eq_of_lt h]
  .rw [s5 V,Cg zero n (i - O zero)]
   by_cases h2:i - O zero<n * O zero
   .rw [if_pos h2,if_pos (by grind),Nat.mod_eq_sub_mod (a:=i) (b:=O zero) V]
   grind
theorem BD {zero:List c7}(h:A2 zero=0):∀n:Nat,A2 (c8 n zero).flatten=0
 |0=>by simp [A2]
 |n+1=>by rw [L3,List.flatten_cons,dY,h,BD h n];rfl
def HX (h:RI X l S st a w G I N)(hD:∀j,d9 j=W->S j){k:Nat}(hk:¬ S k)(U8:k<O st.L)(entry:Nat){o:Oper}{sz:Nat}{zero:List c7}{y:A3}
  (hc:uB P (X.ck d9) o (.clear sz zero y)=W) {E:Env} (hE:E.lim=l) {st' :F5} (he:T6 E k sz zero st (F1 st.T st.L y)=J st') :
  ∃w',(execOp a.eval o).run P w= .ok (.value (.tuple #[])) w' /\Z6 X l S entry st a w G I N st' k (.tuple #[]) w' G I N:=by
 unfold uB at hc;split at hc
 next args argTypes sz' zero' y' hop heq=>
  cases heq;split at hc
  next x t ha ht=>
   have e1:args= #[x]:=by grind
   have e2:argTypes= #[t]:=by grind
   subst e1 e2;simp only [c9,decide_eq_true_eq] at hc;obtain ⟨⟨hx,hsz⟩,hc⟩:=hc;split at hc
   next e hu=>
    split at hc
    next i hi=>
     split at hc
     next z hz=>
      simp only [c9,beq_iff_eq] at hc;obtain ⟨⟨hcs,hzs⟩,hone⟩:=hc;have oH:(execOp a.eval o).run P w=((Builtin.clear_ #[t] o.type #[a.eval x]).run P w).andThen λv w' => .ok (.value v) w' :=by
       simp_all [guard,execOp,resolve,invoke,builtin]
      have hv:=h.M9 hD _ _ hx;unfold T6 at he;split at he
      next id z' lo len hy=>
       rw [hy] at hv;obtain ⟨hN,cap,hx0,hcap,_⟩:=hv;split at he
       next V7=>
        obtain ⟨rfl,hzl,hzb,hmay⟩:=V7;split at he
        next H' hw=>
         cases he;obtain ⟨l0,c,e',f,g1,g2,g3,g4,g5,g6,g7,g8,g9⟩:=h.H.wr hw;have hvz:=cB (G:=G) (I:=I) (N:=N) (w:=w) _ _ hcs
         by_cases hlen:len=0
         .subst hlen
          have hH' :H' =st.H:=by
           rw [g2];simp only [List.replicate_zero,List.flatten_nil,splice,A4,Nat.add_zero,List.append_nil,List.take_append_drop];apply List.ext_getElem?
           grind
          have hM:=Z6.write (D1:=N) h hk U8 entry (w' :=w) (G:=G) (id:=id) (b:=(I id).1) ⟨g6,rfl,rfl,rfl,j9 _,rfl,λ_ _=>rfl,λc _ _ h=>⟨c,h,rfl⟩⟩ g1 (h.H id _ g1) (by grind) (Or.inl V) (λ_=>Iff.rfl) (v:= .tuple []) (x:= .tuple #[]) (by grind [VR,H6]) (.obj id::st.l6) (by simp [Touch.E3]);have mz:st.H.set id (.cells l0)=st.H:=by
           grind
          refine ⟨w,?_,by grind⟩;rw [oH,hx0];simp [Builtin.clear_,run_underlying hu]
         .have hzc:O (Builtin.zeroCells z.cells len).toList=len * z' :=by simp [qh,hzs]
          have hfl:O ((c8 len zero).flatten)=len * z' :=by simp [hzl]
          have tv:∀(j:Nat) b,((c8 len zero).flatten)[j]? =J b->∃u,(Builtin.zeroCells z.cells len).toList[j]? =J u/\VR G I N w .none b u:=by
           intro j b hj;rw [Cg] at hj;split at hj
           next hjl=>
            rw [hzl] at hj hjl;obtain ⟨u,r1,r2⟩:=H6.get _ _ hvz (j % z') b hj;have hzj:z.cells[j % z']? =J u:=M
            have aU3 :z.cells[j % z.cells.size]! =u:=by
             grind
            simp_all [Array.range,Array.getElem?_toList,Builtin.zeroCells,Array.getElem?_map,B6]
           .cases hj
          obtain ⟨hO,hW⟩:=xT g4 g5 g6 g7 g8 g9 g3 (vs:=(Builtin.zeroCells z.cells len).toList) (by rw [hzc,hfl]) (λj b hj=>by
           obtain ⟨u,r1,r2⟩:=tv j b hj;exact ⟨u,r1,r2.place⟩)
          have Cr:Df (Builtin.zeroCells z.cells len).toList:=by
           intro u VL;obtain ⟨j,hj,rfl⟩:=E9 VL;have hjl:j<O ((c8 len zero).flatten):=V
           obtain ⟨u',r1,r2⟩:=tv j _ (n9 hjl)
           grind [c8,List.getElem_mem,List.mem_flatten,iJ,List.all_eq_true]
          have hrun:=run_storeCells_at (P:=P) (I id).1 ((I id).2+lo) e' f (Builtin.zeroCells z.cells len).toList 0 c w g5 g7 V Cr;have qH:(s6.cells (splice l0 lo (c8 len zero).flatten)).F4<=max (s6.cells l0).F4 (id+1)\/(l.base<=id/\l.strict<=id):=by
           grind [rO,c8,BD,s6.F4]
          have hM:=Z6.write (D1:=N) h hk U8 entry hW g1 hO M qH (λ_=>Iff.rfl) (v:= .tuple []) (x:= .tuple #[]) (by simp_all [VR,H6]) (.obj id::st.l6) (by simp [Touch.E3]);simp_all [zeroValue,typeInfo,Builtin.clear_,run_underlying]
        .cases he
       .cases he
      next cells hy=>
       cases he;rw [hy] at hv;refine ⟨w,?_,Z6.same h hk U8 entry (by simp_all [VR,H6])⟩;rw [oH]
       rcases hv with ⟨hv|⟨a0,hv⟩,_⟩|⟨b,o',cap,hv,_⟩
       all_goals simp_all [Builtin.clear_,run_underlying]
      .cases he
     .cases hc
    .cases hc
   .cases hc
  .cases hc
 .cases hc
end
end Go.y9
namespace Go.y9
variable [D2]
def hold (G:Gh)(n:Nat):Gh:=λb =>
 match G b with
 | .grow m (.cell id off)=>if id<n then .grow m (.cell id off) else .held m
 | .grow m _=> .held m
 | .obj id=>if id<n then .obj id else .held 0
 |x=>x
def bG (G G1:Gh)(n:Nat):Gh:=λb=>if hold G n b=G b then G1 b else G b
section
variable {G G1:Gh} {w w1:World} {n:Nat}
theorem uj (b o:Nat):eT (hold G n) b o↔eT G b o:=by
 grind [eT,hold]
def oI:Ext G w (hold G n) w where
 os:=rfl
 tape:=rfl
 output:=rfl
 drawn _:=j9 _
 size:=j9 _
 gO b o h:=⟨(uj b o).2 h,rfl⟩
 still b h:=⟨by grind [hold],rfl⟩
 shape _ c _ _ h:=⟨c,h,rfl⟩
def GK (h:WF G w):WF (hold G n) w:=λb hb=>by simp [hold,h b hb]
def kF {b id:Nat}(hid:id<n)(h:G b= .obj id):hold G n b= .obj id:=by grind [hold]
def iD {id off:Nat}(hid:id<n):X7 (.cell id off) G w (hold G n) w:=λb m hb=>⟨by grind [hold],rfl⟩
def yG {b m:Nat}{pl:Place}(hn:n=0):hold G n b≠ .grow m pl:=by
 grind [hold]
def Cq {b id:Nat}(h:hold G n b= .obj id):id<n:=by
 grind [hold]
theorem hidden {b:Nat}(h:hold G n b≠G b):∃m,hold G n b= .held m:=by
 grind [hold]
theorem ey {b:Nat}(he:Ext (hold G n) w G1 w1)(h:hold G n b≠G b):bG G G1 n b=G b/\w1.heap[b]? =w.heap[b]? /\G1 b=hold G n b:=by
 obtain ⟨m,hm⟩:=hidden h;obtain ⟨h1,h2⟩:=he.still b (Or.inr ⟨m,hm⟩);simp_all [bG]
def eB {b:Nat}(h:hold G n b=G b):bG G G1 n b=G1 b:=by simp [bG,h]
def wR (he:Ext (hold G n) w G1 w1):Ext G w (bG G G1 n) w1 where
 os:=he.os
 tape:=he.tape
 output:=he.output
 drawn:=he.drawn
 size:=he.size
 gO b o h:=by
  obtain ⟨h1,h2⟩:=he.gO b o ((uj b o).2 h);refine ⟨?_,h2⟩
  by_cases hh:hold G n b=G b
  .simp_all [eT,eB]
  .unfold eT at h ⊢;rw [(ey he hh).1];exact h
 still b h:=by
  have hh:hold G n b=G b:=by grind [hold]
  obtain ⟨h1,h2⟩:=he.still b M;simp_all [eB]
 shape:=he.shape
def jA (he:Ext (hold G n) w G1 w1):Sub G1 w1 (bG G G1 n) w1 where
 gO b o h:=by
  by_cases hh:hold G n b=G b
  .simp_all [eT,eB]
  .obtain ⟨h1,h2,h3⟩:=ey he hh
   grind [eT,hold,uj]
 shape _ c _ _ h:=⟨c,h,rfl⟩
theorem Y7 (he:Ext (hold G n) w G1 w1){b:Nat}(h:∀m,G1 b≠ .held m):bG G G1 n b=G1 b:=by
 by_cases hh:hold G n b=G b
 .exact eB hh
 .obtain ⟨_,_,h3⟩:=ey he hh
  grind [hidden,absurd]
def gJ (he:Ext (hold G n) w G1 w1)(q:Place):X7 q G1 w1 (bG G G1 n) w1 :=
 λb m hb=>⟨by grind [Y7],rfl⟩
def cm (he:Ext (hold G n) w G1 w1){q:Place}(hq:∀id off,q= .cell id off->n<=id):X7 q G w (bG G G1 n) w1:=by
 intro b m hb
 grind [hold,ey]
def wS (he:Ext (hold G n) w G1 w1){id:Nat}(hid:n<=id):∀b,G b= .obj id->bG G G1 n b= .obj id/\w1.heap[b]? =w.heap[b]? :=by
 grind [hold,ey]
def zC (he:Ext (hold G n) w G1 w1)(hwf:WF G w)(h1:WF G1 w1):WF (bG G G1 n) w1:=by
 intro b hb;have hg:G b= .free:=hwf b (p7 he.size hb);have hh:hold G n b=G b:=by simp [hold,hg]
 rw [eB hh];exact h1 b hb
end
structure xb (l:F9)(H:k9)(w:World)(G:Gh)(I:O5)(N:Nat->Prop)(args:List c7)(H9:Array Value):Prop where
 args:H6 G I N w args H9.toList
 hr:HR G I N w H
 wf:WF G w
 Y8:∀id,N id->id<O H
 Q7:HA l H
 base:l.base<=O H
 strict:l.strict<=l.base
 gX:∀b id:Nat,G b= .obj id->id<O H
 al2:O H=0->∀b n pl,G b≠ .grow n pl
structure jC (l:F9)(H:k9)(w:World)(G:Gh)(I:O5)(N:Nat->Prop)(v:c7)(H1:k9)(x:Value)(w' :World)(G' :Gh)(I' :O5)(N' :Nat->Prop):Prop where
 val:VR G' I' N' w' .ret v x
 hr:HR G' I' N' w' H1
 wf:WF G' w'
 ext:Ext G w G' w'
 aV:hU l G w G' w'
 inj:∀id,id<O H->N id->I' id=I id
 mono:∀id,N id->N' id
 old:∀id,id<O H->N' id->N id
 Y8:∀id,N' id->id<O H1
 hle:∀(id:Nat) (o' :s6),id<l.base->H1[id]? =J o' ->o'.F4<=id+1\/∃o:s6,H[id]? =J o/\o'.F4<=o.F4
 Q7:HA l H1
def jR (P:Program)(cf:nW)(prom:FuncId->Bool):Prop :=
 ∀f args H l v H1,cf f args H l=J (v,H1)->∀w G I N H9,xb l H w G I N args H9->(prom f=F->l.base=O H) ->
  Calls P f H9 w λe w' =>∃x G' I' N',e= .returned x/\jC l H w G I N v H1 x w' G' I' N'
def P5 (P:Program)(f:FuncId):Bool :=
 match P.funcs[f]? with
 | some fn => fn.name != "runtime.NumGoroutine" && fn.body.isSome
 |none=>F
def pI {P:Program}{w:World}{f:FuncId}(h:P5 P f=W)(args:Array Value):(callFunc f args).run P w= .ok (.enter f args) w:=by
 unfold P5 at h;split at h
 all_goals (simp_all [callFunc]<;>grind)
end Go.y9
namespace Go.y9
variable [D2]
theorem BC:∀(l:List s6) (i:Nat) (o:s6),l[i]? =J o->o.F4<=D3 l
 |[],_,_,h=>by simp at h
 |v::vs,0,o,h=>by grind [D3]
 |v::vs,i+1,o,h=>by have:=BC vs i o (by simpa using h);grind [D3]
theorem oz:∀(l:List s6) (k i:Nat) (o:s6),T7 l k=W->l[i]? =J o->o.F4<=k+i+1
 |[],_,_,_,_,h=>by simp at h
 |v::vs,k,0,o,hd,h=>by
  simp_all [T7,c9,decide_eq_true_eq]
 |v::vs,k,i+1,o,hd,h=>by
  simp [T7,c9] at hd;have:=oz vs (k+1) i o hd.2 (by simpa using h);omega
def mO {H:k9}{n s i:Nat}{o:s6}(hi:i<n)(hs:s<=i)(h:H[i]? =J o):((H.take n).drop s)[i - s]? =J o:=by
 simp_all
def qZ {l:F9}{H:k9}{n:Nat}(hd:HA l H)(hc:D3 ((H.take n).drop l.strict)<=n){id:Nat}{o:s6}(hid:id<n)(h:H[id]? =J o):o.F4<=n:=by
 by_cases hs:id<l.strict
 .have:=(hd id o h).1 hs;omega
 .have:=BC _ _ _ (mO (s:=l.strict) hid V h);omega
def DL (H:k9)(s n:Nat):A6 H s n<=n:=by
 grind [A6]
def AW {l:F9}{H:k9}{n:Nat}(hd:HA l H){id:Nat}{o:s6}(hid:id<A6 H l.strict n)(h:H[id]? =J o):o.F4<=id+1:=by
 unfold A6 at hid;split at hid
 .exact (hd id o h).1 V
 .split at hid
  next hdf=>
   by_cases hs:id<l.strict
   .exact (hd id o h).1 hs
   .have:=oz _ _ _ _ hdf (mO (s:=l.strict) hid V h);omega
  .exact (hd id o h).1 hid
def VR.Bw {G:Gh}{I:O5}{N:Nat->Prop}{w:World}{pl tK :Place}{a:c7}{x:Value}(ha:∀z n c,a≠ .own z n c)(h:VR G I N w pl a x):VR G I N w tK a x:=by
 cases a with
 |own z n c=>simp_all
 |any=>simp [VR]
 |_=>simp_all [VR]
structure Ns (pl:Place)(l:F9)(H:k9)(w:World)(G:Gh)(I:O5)(N:Nat->Prop)(v:c7)(H1:k9)(x:Value)(w' :World)(G' :Gh)(I' :O5)(N' :Nat->Prop):Prop where
 val:VR G' I' N' w' pl v x
 hr:HR G' I' N' w' H1
 wf:WF G' w'
 ext:Ext G w G' w'
 aV:hU l G w G' w'
def jC.at {l:F9}{H:k9}{w:World}{G:Gh}{I:O5}{N:Nat->Prop}{v:c7}{H1:k9}{x:Value}{w' :World}{G' :Gh}{I' :O5}{N' :Nat->Prop}
  (h:jC l H w G I N v H1 x w' G' I' N') {pl:Place} (hp:pl≠ .none):∃G2,Ns pl l H w G I N v H1 x w' G2 I' N' :=by
 by_cases ho:∃z n c,v= .own z n c
 .obtain ⟨z,n,c,rfl⟩:=ho
  obtain ⟨G2,hm,hv⟩:=fT hp h.val;refine ⟨G2,hv,h.hr.CV hm U,hm.wf h.wf,h.ext.trans hm.ext,h.aV.trans λid _=>⟨λb hb=>⟨hm.obj b id hb,rfl⟩,λoff=>hm.keeps _ U⟩⟩
 .exact ⟨G',h.val.Bw (λz n c e=>ho ⟨z,n,c,e⟩),h.hr,h.wf,h.ext,h.aV⟩
section
variable {P:Program} {X:Cx} {l:F9} {S:Nat->Prop} {st:F5} {a:Act} {w w1:World} {G G1:Gh} {I I1:O5} {N N1:Nat->Prop}
structure Ep (X:Cx)(l:F9)(S:Nat->Prop)(entry:Nat)(st:F5)(a:Act)(w:World)(G:Gh)(I:O5)(N:Nat->Prop)
  (st' :F5) (k:Nat) (x' :Value) (w' :World) (G' :Gh) (I' :O5) (N' :Nat->Prop):Prop where
 mid:Z6 X l S entry st a w G I N st' k x' w' G' I' N'
 Y8:∀id,N' id->id<O st'.H
 old:∀id,id<O st.H->N' id->N id
def mU (h:RI X l S st a w G I N)(aa:∀id,N id->id<O st.H){k:Nat}(hk:¬ S k)(U8:k<O st.L)(entry:Nat){n m:Nat}(hn:n<=O st.H)(hm:m<=n)
  {l' :F9} (hl' :l'.base=n) (hmay:∀id,id<n->l.may id=F->l'.may id=F) (KW :∀id,m<=id->id<n->l'.may id=F)
  {v:c7} {H1:k9} {x:Value} (hlen:O H1=n) (hc:jC l' (st.H.take n) w (hold G n) I (λi=>N i/\i<n) v H1 x w1 G1 I1 N1) {l6:List Touch} (Fe:∀id,l6.any (Touch.E3 id)=F->m<=id) :
  ∃G' I',Ep X l S entry st a w G I N (put { st with H:=H1.take m++st.H.drop m,l6 } k v) k x w1 G' I' N:=by
 have Sv:O (st.H.take n)=n:=D
 have hN1:∀id,N1 id->N id/\id<n:=λid hid=>by
  have:=hc.Y8 id hid;exact hc.old id V hid
 have hI1:∀id,N id->id<n->I1 id=I id:=λid hid hlt=>hc.inj id V ⟨hid,hlt⟩
 obtain ⟨G2,hp⟩:=hc.at (pl:= .loc k) U;have hx:=wR hp.ext;have Ov:∀id,m<=id->∀b,G b= .obj id->bG G G2 n b= .obj id/\w1.heap[b]? =w.heap[b]? :=by
  intro id hid b hb
  by_cases hlt:id<n
  .obtain ⟨g1,g2⟩:=(hp.aV id (KW id hid hlt)).1 b (kF hlt hb)
   exact ⟨by rw [Y7 hp.ext M];exact g1,g2⟩
  .exact wS hp.ext V b hb
 have Lm:∀id,m<=id->∀off,X7 (.cell id off) G w (bG G G2 n) w1:=by
  intro id hid off
  by_cases hlt:id<n
  .intro b q hb
   obtain ⟨g1,_⟩:=iD (G:=G) (w:=w) (off:=off) hlt b q hb;obtain ⟨g3,g4⟩:=(hp.aV id (KW id hid hlt)).2 off b q g1;exact ⟨by rw [Y7 hp.ext M];exact g3,g4⟩
  .exact cm hp.ext M
 have aO:∀id o',(H1.take m++st.H.drop m)[id]? =J o' ->(id<m/\H1[id]? =J o')\/(m<=id/\st.H[id]? =J o'):=by
  grind
 have hle:∀id o',(H1.take m++st.H.drop m)[id]? =J o' ->o'.F4<=id+1\/∃o:s6,st.H[id]? =J o/\o'.F4<=o.F4:=by
  intro id o' ho'
  rcases aO id o' ho' with ⟨hlt,ho⟩|⟨_,ho⟩
  .rcases hc.hle id o' V ho with hb|⟨o,h1,h2⟩
   all_goals grind
  simp_all
 have aB4:O (H1.take m++st.H.drop m)=O st.H:=D
 have TW:∀id,N id->I1 id=I id\/n<=id:=λid hid=>by
  grind
 refine ⟨bG G G2 n,λid=>if id<n then I1 id else I id,?_,?_,?_⟩
 .have Qf:∀id,N id->(if id<n then I1 id else I id)=I id:=by
   simp_all
  have hIn:∀id,N1 id->(if id<n then I1 id else I id)=I1 id:=by
   simp_all
  have hNn:∀id,N1 id->N id:=λid hid=>(hN1 id hid).1
  refine ⟨⟨?_,?_,?_,zC hp.ext h.wf hp.wf,?_⟩,?_,hx,?_,?_,λid _ hN=>Qf id hN,λ_ h=>h,?_,?_⟩
  .intro s t ht
   exact VR.mono hx Qf (λ_ h=>h) _ _ _ (Or.inr (cm hp.ext U)) (h.T s t ht)
  .intro j hj d hd Aq
   have:k≠j:=by grind
   simp only [y9.put];rw [L5 _ _ _ _ _ this];exact VR.mono hx Qf (λ_ h=>h) _ _ _ (Or.inr (cm hp.ext U)) (h.L j hj d hd Aq)
  .intro id o' ho'
   rcases aO id o' ho' with ⟨hlt,ho⟩|⟨hge,ho⟩
   .refine OR.mono (jA hp.ext) hIn hNn id o' (λhb=>?_) (λoff=>gJ hp.ext _) (hp.hr id o' ho)
    exact ⟨by rw [Y7 hp.ext M];exact hb,rfl⟩
   .exact OR.mono hx Qf (λ_ h=>h) id o' (λhb=>Ov id hge _ hb) (Lm id hge) (h.H id o' ho)
  .intro id o' ho'
   rcases hle id o' ho' with hb|⟨o,h1,h2⟩
   .omega
   .obtain ⟨d1,d2⟩:=h.Q7 id o h1
    omega
  .simp only [y9.put]
   rw [K5 _ _ _ _ U8];exact VR.mono (jA hp.ext) hIn hNn _ _ _ (Or.inr (gJ hp.ext _)) hp.val
  .intro id hid
   by_cases hlt:id<n
   .obtain ⟨p1,p2⟩:=hp.aV id (hmay id hlt hid)
    refine ⟨λb hb=>?_,λoff b q hb=>?_⟩
    .obtain ⟨g1,g2⟩:=p1 b (kF hlt hb)
     exact ⟨by rw [Y7 hp.ext M];exact g1,g2⟩
    .obtain ⟨g1,_⟩:=iD (G:=G) (w:=w) (off:=off) hlt b q hb
     obtain ⟨g3,g4⟩:=p2 off b q g1;exact ⟨by rw [Y7 hp.ext M];exact g3,g4⟩
   grind
  all_goals grind [y9.put]
 all_goals simp_all [y9.put]
def EC (h:RI X l S st a w G I N)(aa:∀id,N id->id<O st.H){k:Nat}(hk:¬ S k)(U8:k<O st.L)(entry:Nat)
  {v:c7} {H1:k9} {x:Value} (hlen:O st.H<=O H1) (hc:jC l st.H w (hold G (O st.H)) I N v H1 x w1 G1 I1 N1) {l6:List Touch} (Fe:∀id,l6.any (Touch.E3 id)=F->O st.H<=id) :
  ∃G',Ep X l S entry st a w G I N (put { st with H:=H1,l6 } k v) k x w1 G' I1 N1:=by
 obtain ⟨G2,hp⟩:=hc.at (pl:= .loc k) U;have hx:=wR hp.ext;have Qf:∀id,N id->I1 id=I id:=λid hid=>hc.inj id (aa id hid) hid
 refine ⟨bG G G2 (O st.H),?_,hc.Y8,hc.old⟩;refine ⟨⟨?_,?_,?_,zC hp.ext h.wf hp.wf,hc.Q7⟩,?_,hx,?_,?_,λid _ hN=>Qf id hN,hc.mono,hlen,λid o' hb ho' =>hc.hle id o' hb ho'⟩
 .intro s t ht
  exact VR.mono hx Qf hc.mono _ _ _ (Or.inr (cm hp.ext U)) (h.T s t ht)
 .intro j hj d hd Aq
  have:k≠j:=by grind
  simp only [y9.put];rw [L5 _ _ _ _ _ this];exact VR.mono hx Qf hc.mono _ _ _ (Or.inr (cm hp.ext U)) (h.L j hj d hd Aq)
 .intro id o' ho'
  refine OR.mono (jA hp.ext) (λ_ _=>rfl) (λ_ h=>h) id o' (λhb=>?_) (λoff=>gJ hp.ext _) (hp.hr id o' ho');exact ⟨by rw [Y7 hp.ext M];exact hb,rfl⟩
 .simp only [y9.put]
  rw [K5 _ _ _ _ U8];exact VR.mono (jA hp.ext) (λ_ _=>rfl) (λ_ h=>h) _ _ _ (Or.inr (gJ hp.ext _)) hp.val
 .intro id hid
  by_cases hlt:id<O st.H
  .obtain ⟨p1,p2⟩:=hp.aV id hid
   refine ⟨λb hb=>?_,λoff b q hb=>?_⟩
   .obtain ⟨g1,g2⟩:=p1 b (kF hlt hb)
    exact ⟨by rw [Y7 hp.ext M];exact g1,g2⟩
   .obtain ⟨g1,_⟩:=iD (G:=G) (w:=w) (off:=off) hlt b q hb
    obtain ⟨g3,g4⟩:=p2 off b q g1;exact ⟨by rw [Y7 hp.ext M];exact g3,g4⟩
  .exact ⟨wS hp.ext V,λoff=>cm hp.ext M⟩
 .intro id hN ht
  have:=aa id hN;have:=Fe id ht;omega
def vC {l:F9}{a b base strict id:Nat}(h:l.may id=F\/(a<=id/\id<b)):(l.fM a b base strict).may id=F:=by
 grind [F9.fM,F9.may,C7,decide_eq_false_iff_not]
def gq (l:F9)(a b base strict:Nat):(l.fM a b base strict).base=base/\(l.fM a b base strict).strict=strict:=by
 grind [F9.fM]
def HW {E:Env}(GG:jR P E.cf E.prom)(hE:E.lim=l)(h:RI X l S st a w G I N)(aa:∀id,N id->id<O st.H)(hb:l.base<=O st.H)(hs:l.strict<=l.base)
  {k:Nat} (hk:¬ S k) (U8:k<O st.L) (entry:Nat) {f:FuncId} {args:List c7} {H9:Array Value} (hargs:H6 G I N w args H9.toList) {st' :F5} (he:B7 E k f args st=J st') :
  Calls P f H9 w λe w' =>∃x G' I' N',e= .returned x/\Ep X l S entry st a w G I N st' k x w' G' I' N' :=by
 subst hE;unfold B7 at he;split at he
 next sw=>
  split at he
  next v H1 de=>
   split at he
   next hlen=>
    cases he;refine Calls.mono (GG f args st.H E.lim v H1 de w (hold G (O st.H)) I N H9 ⟨?_,?_,GK h.wf,aa,h.Q7,hb,hs,λ_ _=>Cq,λh0 _ _ _=>yG h0⟩ M) ?_
    .exact H6.mono oI.sub (λ_ _=>rfl) (λ_ h=>h) _ _ hargs
    .intro id o ho
     have hlt:=y8 ho;exact OR.mono oI.sub (λ_ _=>rfl) (λ_ h=>h) id o (λhb=>⟨kF hlt hb,rfl⟩) (λ_=>iD hlt) (h.H id o ho)
    .rintro e w' ⟨x,G1,I1,N1,rfl,hc⟩
     obtain ⟨G',hd⟩:=EC h aa hk U8 entry hlen hc (l6:= .below (O H1)::st.l6) (by
      grind [Touch.E3])
     grind
   .cases he
  .cases he
 next sw=>
  have sw:E.prom f=F:=M
  simp only at he;generalize Aq:D4 st.H E.lim.strict 8 (A2 args)=n at he;have hna:A2 args<=n:=by
   rw [<- Aq];have:∀(j m:Nat),m<=D4 st.H E.lim.strict j m:=by
    intro j
    induction j with
    |zero=>grind [D4]
    |succ j ih =>
     grind [D4,p7,Nat.le_max_left]
   grind
  split at he
  next V7=>
   obtain ⟨hn,hbO⟩:=V7;have Sv:O (st.H.take n)=n:=D
   have pre:∀l' :F9,l'.base=n->l'.strict=A6 st.H E.lim.strict n->xb l' (st.H.take n) w (hold G n) I (λi=>N i/\i<n) args H9:=by
    intro l' h1 h2;refine ⟨?_,?_,GK h.wf,λid hid=>V,?_,V,by simp_all [DL],λb id hb=>by rw [Sv];exact Cq hb,λh0 _ _ _=>yG V⟩
    .exact H6.mono oI.sub (λ_ _=>rfl) (λ_ h=>h) _ _ (H6.low n _ _ hna hargs)
    .intro id o ho
     have hlt:id<n:=by grind
     rw [List.getElem?_take_of_lt hlt] at ho;exact OR.mono oI.sub (λ_ _=>rfl) (λ_ h=>h) id o (λhb=>⟨kF hlt hb,rfl⟩) (λ_=>iD hlt) (OR.low hlt o (qZ h.Q7 hbO hlt ho) (h.H id o ho))
    .intro id o ho
     have hlt:id<n:=by have:=y8 ho;omega
     rw [List.getElem?_take_of_lt hlt] at ho;rw [h1,h2];exact ⟨λhh=>AW h.Q7 hh ho,λ_=>qZ h.Q7 hbO hlt ho⟩
   split at he
   .split at he
    next v H1 de=>
     split at he
     next hlen=>
      cases he;refine Calls.mono (GG f args _ _ v H1 de w (hold G n) I _ H9 (pre _ rfl rfl) (λ_=>Sv.symm)) ?_;rintro e w' ⟨x,G1,I1,N1,rfl,hc⟩;obtain ⟨G',I',hd⟩:=mU (l' :={ E.lim with base:=n,strict:=A6 st.H E.lim.strict n }) h aa hk U8 entry hn (j9 n) rfl (λid _ hid=>hid) (λid h1 h2=>V) hlen hc (l6:= .below n::st.l6) (by
       intro id ht;simp [Touch.E3] at ht;omega)
      rw [<- hlen,I8,hlen] at hd;exact ⟨x,G',I',N,rfl,hd⟩
     .cases he
    .cases he
   .split at he
    next v H1 de=>
     split at he
     next hlen=>
      cases he;refine Calls.mono (GG f args _ _ v H1 de w (hold G n) I _ H9 (pre _ rfl rfl) (λ_=>Sv.symm)) ?_;rintro e w' ⟨x,G1,I1,N1,rfl,hc⟩;obtain ⟨G',I',hd⟩:=mU (l' :=⟨0,n,n,A6 st.H E.lim.strict n⟩) h aa hk U8 entry hn (x3 n) rfl (λid h1 _=>by simp [F9.may];omega) (λid _ h2=>by simp [F9.may];omega) hlen hc (l6:=st.l6) (by intros;omega);refine ⟨x,G',I',N,rfl,?_⟩;simpa using hd
     .cases he
    .cases he
   .split at he
    next v H1 de=>
     split at he
     next hlen=>
      cases he;refine Calls.mono (GG f args _ _ v H1 de w (hold G n) I _ H9 (pre _ (gq _ _ _ _ _).1 (gq _ _ _ _ _).2) (λ_=>by rw [(gq _ _ _ _ _).1,Sv])) ?_;rintro e w' ⟨x,G1,I1,N1,rfl,hc⟩;obtain ⟨G',I',hd⟩:=mU h aa hk U8 entry hn hlen.2 (gq _ _ _ _ _).1 (λid _ hid=>vC (Or.inl hid)) (λid h1 h2=>vC (Or.inr ⟨h1,h2⟩)) hlen.1 hc (l6:= .below (args.headD .any).F4::st.l6) (by
       intro id ht;simp [Touch.E3] at ht;simpa using ht.1)
      exact ⟨x,G',I',N,rfl,hd⟩
     .cases he
    .cases he
  .cases he
end
end Go.y9
namespace Go.y9
variable [D2]
structure Tr (N:Nat->Prop)(k:Nat)(st st' :F5):Prop where
 l6:∀p:Touch->Bool,st.l6.any p=W->st'.l6.any p=W
 L:∀m id off:Nat,m≠k->st'.L[m]? =J (c7.ptr id off)->st.L[m]? =J (c7.ptr id off)
 T:∀s id off:Nat,st'.T[s]? =J (c7.ptr id off)->st.T[s]? =J (c7.ptr id off)
 H:∀(id:Nat) (l' :List c7),N id->st'.l6.any (Touch.E3 id)=F->st'.H[id]? =J (s6.cells l')->∃l:List c7,st.H[id]? =J (s6.cells l)/\O l=O l'
 U2:O st'.T=O st.T
 fO:O st'.L=O st.L
 Nq:∀m:Nat,m≠k->st.L[m]? =J (c7.tuple [])->st'.L[m]? =J (c7.tuple [])
section
variable {N:Nat->Prop} {k:Nat} {st st1 st' :F5}
theorem Tr.refl (N:Nat->Prop)(k:Nat)(st:F5):Tr N k st st :=
 ⟨λ_ h=>h,λ_ _ _ _ h=>h,λ_ _ _ h=>h,λ_ l _ _ h=>⟨l,h,rfl⟩,rfl,rfl,λ_ _ h=>h⟩
theorem fR {t t' :List Touch}(h:∀p:Touch->Bool,t.any p=W->t'.any p=W){p:Touch->Bool}(h' :t'.any p=F):t.any p=F:=by
 grind
theorem Tr.trans (a:Tr N k st st1)(b:Tr N k st1 st'):Tr N k st st' where
 l6 p h:=b.l6 p (a.l6 p h)
 L m id off hm h:=a.L m id off hm (b.L m id off hm h)
 T s id off h:=a.T s id off (b.T s id off h)
 H id l' hN ht h:=by
  obtain ⟨l1,h1,e1⟩:=b.H id l' hN ht h;obtain ⟨l,h2,e2⟩:=a.H id l1 hN (fR b.l6 ht) h1;simp_all
 U2:=b.U2.trans a.U2
 fO:=b.fO.trans a.fO
 Nq m hm h:=b.Nq m hm (a.Nq m hm h)
theorem Tr.put (v:c7):Tr N k st (put st k v) where
 l6 _ h:=h
 L m id off hm h:=by
  grind [y9.put,x5]
 T _ _ _ h:=h
 H _ l _ _ h:=⟨l,h,rfl⟩
 U2:=rfl
 fO:=by simp [y9.put]
 Nq m hm h:=by
  grind [y9.put,x5]
def qY {l:List c7}{j m id off:Nat}{x:Data}(h:(l.set j (.d x))[m]? =J (.ptr id off)):l[m]? =J (.ptr id off):=by
 grind
def sO {l:List c7}{j m:Nat}{z n:Nat}{c:List Data}{v:c7}(hj:l[j]? =J (.own z n c))(h:l[m]? =J (c7.tuple [])):(l.set j v)[m]? =J (c7.tuple []):=by
 grind
theorem Tr.E2 (y:A3):Tr N k st (E2 st y).2:=by
 cases y with
 |loc j =>
  simp [y9.E2];split
  next hj=>
   exact ⟨λ_ h=>h,λm id off _ h=>qY h,λ_ _ _ h=>h,λ_ l _ _ h=>⟨l,h,rfl⟩,rfl,U,λ_ _ h=>sO hj h⟩
  all_goals simp_all [Tr.refl]
 |slot s=>exact Tr.refl _ _ _
 |const v=>exact Tr.refl _ _ _
def Tr.newObj {z6:Option Nat}(hi:∀i,z6=J i->i<O st.H)(hn:¬ N (newId st z6))(o:s6):Tr N k st (C8 st z6 o) where
 l6 p h:=by cases z6<;>exact h
 L m id off _ h:=by cases z6<;>exact h
 T s id off h:=by cases z6<;>exact h
 H id l' hN _ h:=by
  grind [eo,absurd]
 U2:=by cases z6<;>rfl
 fO:=by cases z6<;>rfl
 Nq m _ h:=by cases z6<;>exact h
def Tr.heap {H' :k9}{l6:List Touch}(h1:∀p:Touch->Bool,st.l6.any p=W->l6.any p=W)(h2:∀id,N id->l6.any (Touch.E3 id)=F->H'[id]? =st.H[id]?):Tr N k st { st with H:=H',l6 } where
 l6:=h1
 L _ _ _ _ h:=h
 T _ _ _ h:=h
 H id l' hN ht h:=by
  simp_all
 U2:=rfl
 fO:=rfl
 Nq _ _ h:=h
theorem Tr.W0 {l:F9}{sz len:Nat}{cells:List Data}{op:F0}(h:W0 l st sz op=J (len,cells,st')):Tr N k st st' :=by
 unfold y9.W0 at h;split at h
 .split at h
  .cases h
  .split at h
   .split at h
    .cases h
     exact ⟨λp hp=>M,λ_ _ _ _ h=>h,λs id off h=>qY h,λ_ l _ _ h=>⟨l,h,rfl⟩,U,rfl,λ_ _ h=>h⟩
    .cases h
   .cases h
 .split at h
  .split at h
   .cases h
   .split at h
    .split at h
     .split at h
      .cases h
       refine ⟨λp hp=>M,λ_ _ _ _ h=>h,λ_ _ _ h=>h,λid' l' _ _ h=>?_,rfl,rfl,λ_ _ h=>h⟩
       grind [E0,y8,x5]
      .cases h
     .cases h
    .cases h
  .cases h
 .cases h
theorem Tr.O6 {l:F9}{j8:List x9}{sz len:Nat}{cells:List Data}{y:A3}(h:O6 l j8 st sz y=J (len,cells,st')):Tr N k st st' :=by
 unfold y9.O6 at h;split at h
 .simp_all [Tr.refl]
 .cases h
 .cases h
 .split at h
  next hj=>
   split at h
   .cases h
    exact ⟨λ_ h=>h,λm id off _ h=>qY h,λ_ _ _ h=>h,λ_ l _ _ h=>⟨l,h,rfl⟩,rfl,U,λ_ _ h=>sO hj h⟩
   .cases h
  all_goals grind [Tr.W0]
theorem Lo {v:c7}{id i o:Nat}(h:v.kill id= .ptr i o):v= .ptr i o:=by
 cases v<;>simp [c7.kill] at h<;>first|omega|grind|exact h
def yP {l:List c7}{id m i o:Nat}(h:(K8 id l)[m]? =J (.ptr i o)):l[m]? =J (.ptr i o):=by
 grind [dH,Option.some.injEq,Lo]
theorem Tr.S0 {E:Env}{sz bytes id lo len:Nat}{y:c7}(h:S0 E k sz bytes st id lo len y=J st'):Tr N k st st' :=by
 unfold y9.S0 at h;split at h
 .split at h
  next l0 m cs hl0 _=>
   split at h
   .cases h
    refine Tr.trans ?_ (Tr.put _);refine ⟨λp hp=>M,λm' i o _ h=>yP h,λs i o h=>yP h,λid' l' _ ht h=>?_,by simp [O0],by simp [O0],λm' _ h=>by grind [dH,c7.kill,K8]⟩;have hne:id' ≠id:=by grind [Touch.E3]
    have h' :(lJ st.H E.lim.base id (.cells (K8 id l0++cs)))[id']? =J (.cells l'):=h;unfold lJ at h';rw [x5 (λe=>hne e.symm)] at h'
    by_cases hb:id' <E.lim.base
    .grind
    .by_cases hlt:id' <O st.H
     .rw [s5 D,List.getElem?_map,List.getElem?_drop] at h'
      rw [show E.lim.base+(id' - O (List.take E.lim.base st.H))=id' from by simp;omega] at h';cases ho:st.H[id']? with
      |none=>simp_all
      |some o =>
       rw [ho] at h';cases o<;>simp [s6.kill] at h'
       grind [O0]
     grind
   .cases h
  .cases h
 .cases h
theorem Tr.B7 {E:Env}{f:FuncId}{args:List c7}(aa:∀id,N id->id<O st.H)(h:B7 E k f args st=J st'):Tr N k st st' :=by
 unfold y9.B7 at h;split at h
 .split at h
  .split at h
   .cases h
    refine Tr.trans ?_ (Tr.put _);refine Tr.heap (λp hp=>M) λid hN ht=>?_
    grind [Touch.E3]
   .cases h
  .cases h
 .simp only at h
  split at h
  .split at h
   .split at h
    .split at h
     .cases h
      refine Tr.trans ?_ (Tr.put _);refine Tr.heap (λp hp=>M) λid hN ht=>?_
      simp_all [Touch.E3,s5,List.getElem?_drop]
     .cases h
    .cases h
   .grind [Tr.put]
   .split at h
    .split at h
     .cases h
      refine Tr.trans ?_ (Tr.put _);refine Tr.heap (λp hp=>M) λid hN ht=>?_
      simp_all [Touch.E3,s5,List.getElem?_drop]
     .cases h
    .cases h
  .cases h
theorem qg {H H' :k9}{id off:Nat}{vs:List c7}(h:wr H id off vs=J H'){id' :Nat}(hne:id' ≠id):H'[id']? =H[id']? :=by
 grind [wr,x5]
theorem Tr.O4 {E:Env}{n:Nat}{a:c7}{x:A3}(h:O4 E k n st a x=J st'):Tr N k st st' :=by
 unfold y9.O4 at h;split at h
 .split at h
  .split at h
   .split at h
    .cases h
     refine Tr.trans (Tr.trans (Tr.E2 x) ?_) (Tr.put _);refine Tr.heap (λp hp=>M) λid' hN ht=>?_
     grind [qg,Touch.E3]
    .cases h
   .cases h
  .cases h
 .cases h
theorem Tr.T6 {E:Env}{sz:Nat}{zero:List c7}{a:c7}(h:T6 E k sz zero st a=J st'):Tr N k st st' :=by
 unfold y9.T6 at h;split at h
 .split at h
  .split at h
   .cases h
    refine Tr.trans ?_ (Tr.put _);refine Tr.heap (λp hp=>M) λid' hN ht=>?_
    grind [qg,Touch.E3]
   .cases h
  .cases h
 all_goals grind [Tr.put]
theorem Tr.Q6 {E:Env}{kk:KK}{m key v:c7}(h:Q6 E k kk st m key v=J st'):Tr N k st st' :=by
 unfold y9.Q6 at h;split at h
 .split at h
  .split at h
   .split at h
    .split at h
     .cases h
      refine Tr.trans ?_ (Tr.put _);refine Tr.heap (λp hp=>M) λid' hN ht=>?_
      simp_all [x5,Touch.E3]
     .cases h
    .cases h
   .cases h
  .cases h
 .cases h
theorem Tr.J1 {E:Env}{j8:List x9}{z6:Option Nat}{sz bytes:Nat}{ob:Bool}{x:A3}{y:c7}(hi:∀i,z6=J i->i<O st.H)(hn:¬ N (newId st z6))
  (h:J1 E j8 z6 k sz bytes ob st x y=J st'):Tr N k st st' :=by
 unfold y9.J1 at h;split at h
 .split at h
  .split at h
   .split at h
    .grind [Tr.put]
    .cases h;exact (Tr.newObj hi hn _).trans (Tr.put _)
   .cases h
  .split at h
   .split at h
    next ht=>
     split at h
     .cases h;exact (Tr.O6 ht).trans (Tr.put _)
     .cases h
    .cases h
   .cases h
 .cases h
theorem Tr.Q0 {E:Env}{z6:Option Nat}{sz bytes id lo len:Nat}{y:c7}(hi:∀i,z6=J i->i<O st.H)(h:Q0 E z6 k sz bytes st id lo len y=J st')(hN:¬ N (newId st z6)):Tr N k st st' :=by
 unfold y9.Q0 at h;split at h
 .split at h
  .split at h
   .cases h
    have h1:Tr N k st { st with H:=st.H.set id .dead,l6:= .obj id::st.l6 }:=by
     refine ⟨λp hp=>M,λm' i o _ h=>h,λs i o h=>h,λid' l' hn ht h=>?_,rfl,rfl,λm' _ h=>h⟩
     grind
    have e:newId { st with H:=st.H.set id .dead,l6:= .obj id::st.l6 } z6=newId st z6:=by simp_all [newId]
    exact (h1.trans (Tr.newObj (λi h=>M) M _)).trans (Tr.put _)
   .cases h
  .cases h
 .cases h
theorem Tr.B9 {E:Env}{j8:List x9}{z6:Option Nat}{op:F0}(aa:∀id,N id->id<O st.H)(hi:∀i,z6=J i->i<O st.H)(hn:op.y3=W->¬ N (newId st z6))
  (h:B9 E j8 z6 k st op=J st'):Tr N k st st' :=by
 cases op<;>simp only [y9.B9] at h<;>try (cases h;done)
 case alloc zero=>cases h;exact (Tr.newObj hi (hn rfl) _).trans (Tr.put _)
 case box x =>
  split at h
  .cases h;exact (Tr.newObj hi (hn rfl) _).trans (Tr.put _)
  .cases h
 case makeMap=>cases h;exact (Tr.newObj hi (hn rfl) _).trans (Tr.put _)
 case mW x=>cases h;exact Tr.put _
 case own sz x =>
  split at h
  next ht=>
   cases h;exact (Tr.O6 ht).trans (Tr.put _)
  .cases h
 case gw sz zero x y =>
  split at h
  .cases h;exact (Tr.newObj hi (hn rfl) _).trans (Tr.put _)
  .cases h
 case M8 sz len zero parts ob =>
  cases ob
  .cases h
  .simp only at h
   split at h
   .split at h
    .cases h;exact (Tr.newObj hi (hn rfl) _).trans (Tr.put _)
    .cases h
   .cases h
 case store n a x=>exact Tr.O4 h
 case M3 sz bytes x y =>
  obtain ⟨s,hs,rfl⟩:=jU h;have hN:¬ N (newId st K):=λh=>Nat.lt_irrefl _ (aa _ h)
  refine Tr.trans (st1:=s) ?_ (Tr.heap (H' :=s.H) (λp hp=>by simp only [List.any_cons,hp,Bool.or_true]) λ_ _ _=>rfl);split at hs
  .split at hs
   .exact Tr.Q0 (λ_ e=>by cases e) hs hN
   .cases hs
  .exact Tr.J1 (λ_ e=>by cases e) hN hs
 case append sz bytes ob x y =>
  split at h
  .split at h
   .exact Tr.S0 h
   .cases h
  .cases ob with
   |true=>exact Tr.J1 hi (hn rfl) h
   |false =>
    unfold y9.J1 at h;simp only [j6,if_false] at h;split at h
    .split at h
     .split at h
      next ht=>
       split at h
       .cases h;exact (Tr.O6 ht).trans (Tr.put _)
       .cases h
      .cases h
     .cases h
    .cases h
 case clear sz zero x=>exact Tr.T6 h
 case call f xs=>exact Tr.B7 aa h
 case bJ x xs =>
  split at h
  .exact Tr.B7 aa h
  .cases h
 case dI=>exact Tr.Q6 h
 case defer x =>
  split at h
  .split at h
   .cases h;exact Tr.put _
   .cases h
  .cases h
theorem Tr.B1 {E:Env}{j8:List x9}{z6:Option Nat}{op:F0}{rs:List Nat}(aa:∀id,N id->id<O st.H)(hi:∀i,z6=J i->i<O st.H)(hn:op.y3=W->¬ N (newId st z6))
  (h:B1 E j8 z6 k op st=J (st',rs)):Tr N k st st' :=by
 unfold y9.B1 at h;split at h
 .grind [Tr.B9]
 .split at h
  .cases h
   exact (Tr.E2 _).trans (Tr.put _)
  grind [Tr.put]
end
end Go.y9
namespace Go.y9
variable [D2]
section
variable {P:Program} {X:Cx} {l:F9} {S:Nat->Prop} {st:F5} {a:Act} {w w' :World} {G G' :Gh} {I I' :O5} {N:Nat->Prop} {d9:Nat->Bool}
def Ext.Xx {b id id' :Nat}(h:G b= .obj id):Ext G w (dc G b (.obj id')) w where
 os:=rfl
 tape:=rfl
 output:=rfl
 drawn _:=j9 _
 size:=j9 _
 gO x o hi:=by
  grind [eT,G5]
 still x hx:=by
  grind [G5]
 shape _ c _ _ hc:=⟨c,hc,rfl⟩
def Z6.renew (h:RI X l S st a w G I N){k:Nat}(hk:¬ S k)(U8:k<O st.L)(entry:Nat){z6:Option Nat}{id:Nat}{o0:s6}(h0:st.H[id]? =J o0)(hid:ta l st N z6)(hmay:l.may id=W)
  (hx:Ext G w G' w') (hkp:∀q,X7 q G w G' w') (ho:∀id',id' ≠id->∀b,G b= .obj id' ->G' b= .obj id' /\w'.heap[b]? =w.heap[b]?) (hwf:WF G' w') (hI:∀i,N i->I' i=I i)
  {cs:List c7} (It:OR G' I' (λi=>N i\/i=newId st z6) w' (newId st z6) (.cells cs)) {v:c7} {x:Value} (hv:VR G' I' (λi=>N i\/i=newId st z6) w' (.loc k) v x) (l6:List Touch) (Fe:l6.any (Touch.E3 id)=W) :
  Z6 X l S entry st a w G I N (put (C8 { st with H:=st.H.set id .dead,l6 } z6 (.cells cs)) k v) k x w' G' I' (λi=>N i\/i=newId st z6):=by
 have Yd:newId { st with H:=st.H.set id .dead,l6 } z6=newId st z6:=by simp_all [newId]
 have hTT:(C8 { st with H:=st.H.set id .dead,l6 } z6 (.cells cs)).T=st.T:=by cases z6<;>rfl
 have hLL:(C8 { st with H:=st.H.set id .dead,l6 } z6 (.cells cs)).L=st.L:=by cases z6<;>rfl
 have hCC:(C8 { st with H:=st.H.set id .dead,l6 } z6 (.cells cs)).l6=l6:=by cases z6<;>rfl
 have hlen:O st.H<=O (C8 { st with H:=st.H.set id .dead,l6 } z6 (.cells cs)).H:=by cases z6<;>simp [C8]
 have tv:∀(id' :Nat) o',(C8 { st with H:=st.H.set id .dead,l6 } z6 (.cells cs)).H[id']? =J o' ->(id' =newId st z6/\o' = .cells cs)\/(id' =id/\o' = .dead)\/(id' ≠id/\st.H[id']? =J o'):=by
  intro id' o' h'
  rcases eo (st:={ st with H:=st.H.set id .dead,l6 }) (z6:=z6) (λi hi=>by simpa using hid.inside i hi) _ id' o' h' with ⟨h1,h2⟩|⟨_,h2⟩
  all_goals grind
 have vr:∀{pl:Place} {b:c7} {u:Value},VR G I N w pl b u->VR G' I' (λi=>N i\/i=newId st z6) w' pl b u :=
  λhb=>VR.mono hx.sub hI (λ_ h=>Or.inl h) _ _ _ (Or.inr (hkp _)) hb
 refine ⟨⟨λs t ht=>by simp only [y9.put,hTT];exact vr (h.T s t ht),?_,?_,hwf,?_⟩,?_,hx,?_,?_,λi _ hN=>hI i hN,λ_ h=>Or.inl h,?_,?_⟩
 .intro j hj d hd hn
  have:k≠j:=by grind
  simp only [y9.put,hLL];rw [L5 _ _ _ _ _ this];exact vr (h.L j hj d hd hn)
 .intro id' o' ho'
  rcases tv id' o' ho' with ⟨rfl,rfl⟩|⟨rfl,rfl⟩|⟨hne,hold⟩
  .exact It
  .simp [OR]
  .exact OR.mono hx.sub hI (λ_ h=>Or.inl h) id' o' (λhb=>ho id' hne _ hb) (λ_=>hkp _) (h.H id' o' hold)
 .intro id' o' ho'
  rcases tv id' o' ho' with ⟨rfl,rfl⟩|⟨rfl,rfl⟩|⟨hne,hold⟩
  .have h1:=hid.strict
   have h2:=hid.base;omega
  .simp [s6.F4]
  .exact h.Q7 id' o' hold
 .simp_all [y9.put,K5]
 .intro id' KW
  grind
 .grind [y9.put]
 .simp_all [y9.put]
 .intro id' o' hb ho'
  rcases tv id' o' ho' with ⟨rfl,rfl⟩|⟨rfl,rfl⟩|⟨hne,hold⟩
  .have h2:=hid.base
   omega
  all_goals simp_all [s6.F4,j9]
def xy (h:RI X l S st a w G I N)(hD:∀j,d9 j=W->S j){k:Nat}(hk:¬ S k)(U8:k<O st.L)(entry:Nat){z6:Option Nat}(hid:ta l st N z6){o:Oper}{sz bytes:Nat}{ob:Bool}{x y:A3}
  (hc:bK P (X.ck d9) o (.append sz bytes ob x y)=W) {E:Env} (hE:E.lim=l) {id lo len:Nat} (hx:F1 st.T st.L x= .r7 id sz lo len) {st' :F5} (he:Q0 E z6 k sz bytes st id lo len (F1 st.T st.L y)=J st') :
  ∃v w' G' I',(execOp a.eval o).run P w= .ok (.value v) w' /\Z6 X l S entry st a w G I N st' k v w' G' I' (λi=>N i\/i=newId st z6):=by
 obtain ⟨x0,y0,t,t2,e,i,z,hop,RZ,Sa,ht2,hsz,hu,hi,hsi,KR,hz,hzs,RX⟩:=bg hc;have hnew:¬ N (newId st z6):=hid.new;unfold Q0 at he;rw [hE] at he;split at he
 next hmay=>
  split at he
  next l0 m cs hl0 hcs=>
   split at he
   next Eg=>
    obtain ⟨rfl,hlen,hroom,Vf,hone,_⟩:=Eg;cases he;obtain ⟨vn,hl,hf,JF,hcl⟩:=lX (P:=P) h.H (h.M9 hD _ _ Sa) hsz hcs;have hval:=h.M9 hD _ _ RZ;rw [hx] at hval;simp only [VR] at hval;obtain ⟨KQ,cap,hx0,hcap,c,e',f,hb,Qg⟩:=hval;have oH:(execOp a.eval o).run P w=((Builtin.append_ #[t,t2] o.type #[a.eval x0,a.eval y0]).run P w).andThen λv w' => .ok (.value v) w' :=by
     simp_all [guard,execOp,resolve,invoke,builtin]
    have sy:O vn=m * sz:=by grind [H6.length]
    subst hsi KR;have hO:=h.H id _ hl0;simp only [OR] at hO;obtain ⟨_,c0,e0,f0,h1,Cp,hnf,aj8,h5⟩:=hO;rw [hb] at h1;cases h1;have Cr:=sF hone JF;have aA7:id≠newId st z6:=by grind
    by_cases hfit:len+m<=cap
    ·
     have hrun:=aX (P:=P) (w:=w) (ty:=o.type) hu hi ht2 (base:=J (ad (I id).1 ((I id).2+0))) (sLen:=len) (sCap:=cap) hl (hf w rfl) hfit;have hbig:(len+m) * i.size<=cap * i.size:=E1 _ hfit;rw [Nat.add_mul] at hbig;have Sr:(I id).2+len * i.size+O vn<=c.size:=V
     have hst:=run_storeCells_at (P:=P) (I id).1 ((I id).2+0+len * i.size) e' f vn 0 c w hb hnf V Cr;have sq :(I id).2+0+len * i.size+O vn<=O c.toList:=D
     have jP :(I9 c.toList ((I id).2+0+len * i.size) vn).toArray.size=c.size:=by simp_all [List.size_toArray,gG,Array.length_toList]
     have hw:=rH (G:=G) hb Cp jP;have hxx:=hw.ext.trans (Ext.Xx (w:=w.setRow (I id).1 (I9 c.toList ((I id).2+0+len * i.size) vn).toArray) (id' :=newId st z6) hw.gX);have hkk:∀q,X7 q G w (dc G (I id).1 (.obj (newId st z6))) (w.setRow (I id).1 (I9 c.toList ((I id).2+0+len * i.size) vn).toArray):=by
      intro q b n hbq;have hne:b≠(I id).1:=by grind
      exact ⟨by simp_all [G5],hw.other b hne⟩
     have TW:∀i',N i' ->lu I (newId st z6) ((I id).1,(I id).2) i' =I i' :=λi' hN=>ay (by grind)
     refine ⟨.slice (J (ad (I id).1 ((I id).2+0))) (len+m) cap,w.setRow (I id).1 (I9 c.toList ((I id).2+0+len * i.size) vn).toArray,dc G (I id).1 (.obj (newId st z6)),lu I (newId st z6) ((I id).1,(I id).2),?_,
      Z6.renew h hk U8 entry hl0 hid hmay hxx hkk (λid' hne b hbq=>?_) (λb hbq=>?_) TW ?_ ?_ (.obj id::st.l6) (by simp [Touch.E3])⟩
     .simp_all [W3,Nat.add_zero]
     .have hnb:b≠(I id).1:=by grind
      exact ⟨by simp_all [G5],hw.other b hnb⟩
     .have hwb:w.heap.size<=b:=M
      have hne:b≠(I id).1:=by
       grind
      rw [G5 hne];exact h.wf b hwb
     .simp only [OR,S3]
      have mono:∀{pl:Place} {b:c7} {u:Value},VR G I N w pl b u->VR (dc G (I id).1 (.obj (newId st z6))) (lu I (newId st z6) ((I id).1,(I id).2)) (λi=>N i\/i=newId st z6) (w.setRow (I id).1 (I9 c.toList ((I id).2+0+len * i.size) vn).toArray) pl b u :=
       λhq=>VR.mono hxx.sub TW (λ_ h=>Or.inl h) _ _ _ (Or.inr (hkk _)) hq
      refine ⟨Or.inr trivial,_,e',f,setRow_heap w _ c _ e' f hb,U,M,?_,λj b hj=>?_⟩
      .grind
      .rw [show (I9 c.toList ((I id).2+0+len * i.size) vn).toArray[(I id).2+j]? =(I9 c.toList ((I id).2+0+len * i.size) vn)[(I id).2+j]? from by simp,gF _ _ _ sq]
       have hjl:=y8 hj;rw [k8,A1,hcl] at hjl
       by_cases GI:j<O l0
       .rw [s9 M,List.getElem?_map,n9 GI] at hj
        rw [if_pos V];simp only [B6,Option.some.injEq] at hj;subst hj;obtain ⟨v,g1,g2⟩:=h5 j _ (n9 GI);exact ⟨v,M,mono g2.I7⟩
       .rw [s5 M,A1] at hj
        rw [if_neg V,if_pos V];obtain ⟨u,r1,r2⟩:=H6.get _ _ JF (j - O l0) b hj;exact ⟨u,by grind,mono r2.place⟩
     .simp only [VR,S3]
      exact ⟨Or.inr trivial,cap,rfl,hfit,_,e',f,setRow_heap w _ c _ e' f hb,V⟩
    ·
     have hlt:cap<len+m:=V
     have KU:∃vo:List Value,O vo=len * i.size/\(∀w2:World,w2.heap=w.heap->(Builtin.firstCells i.size len (.slice (J (ad (I id).1 ((I id).2+0))) len cap)).run P w2= .ok vo.toArray w2) /\
       (∀(j:Nat) b,l0[j]? =J b->∃v,vo[j]? =J v/\VR G I N w (.cell id j) b v):=by
      refine ⟨(List.range (len * i.size)).map (λj=>(c[(I id).2+j]?).getD default),U,λw2 Iw=>?_,λj b hj=>?_⟩
      .have:=run_loadCells_list (P:=P) w2 (ad (I id).1 ((I id).2+0)) ((List.range (len * i.size)).map (λj=>(c[(I id).2+j]?).getD default)) (λj v hj=>by
        have hjn:j<len * i.size:=by
         grind
        simp [hjn] at hj
        grind [W3,fh,P6])
       simp_all [Builtin.firstCells]
      grind
     obtain ⟨vo,Sx,Sy,Sz⟩:=KU;obtain ⟨aR,vk,hrun⟩:=cI (P:=P) (w:=w) (ty:=o.type) hu hi hz ht2 (base:=J (ad (I id).1 ((I id).2+0))) (sLen:=len) (sCap:=cap) hl (hf w.drew rfl) (Sy w.drew rfl) hlt (ud hroom RX) (lQ hroom hlt);have hnb:fF w (w.drew.alloc (.cells (vo.toArray++vn.toArray++Builtin.zeroCells z.cells (aR - (len+m))) e)) (.cells (vo.toArray++vn.toArray++Builtin.zeroCells z.cells (aR - (len+m))) e):=by
      have:=fF.alloc w.drew (.cells (vo.toArray++vn.toArray++Builtin.zeroCells z.cells (aR - (len+m))) e);exact ⟨this.os,this.tape,this.output,p7 (Nat.le_succ _) this.drawn,this.size,this.old,this.new⟩
     have hsize:(vo.toArray++vn.toArray++Builtin.zeroCells z.cells (aR - (len+m))).size=aR * i.size:=by
      simp only [Array.size_append,List.size_toArray,qh,hzs,Sx,sy];have:aR * i.size=(len+m) * i.size+(aR - (len+m)) * i.size:=by rw [<- Nat.add_mul];simp_all
      grind
     have TW:∀i',N i' ->lu I (newId st z6) (w.heap.size,0) i' =I i' :=λi' hN=>ay (by grind)
     refine ⟨.slice (J (ad w.heap.size 0)) (len+m) aR,_,dc G w.heap.size (.obj (newId st z6)),lu I (newId st z6) (w.heap.size,0),?_,
      Z6.renew h hk U8 entry hl0 hid hmay (hnb.ext h.wf _) (hnb.keeps h.wf _) (λid' _=>hnb.tF h.wf _ id') (hnb.wf h.wf _) TW ?_ ?_ (.obj id::st.l6) (by simp [Touch.E3])⟩
     .simp_all
     .simp only [OR]
      have mono:∀{pl:Place} {b:c7} {u:Value},VR G I N w pl b u->VR (dc G w.heap.size (.obj (newId st z6))) (lu I (newId st z6) (w.heap.size,0)) (λi=>N i\/i=newId st z6) _ pl b u :=
       λhq=>VR.mono (hnb.ext h.wf _).sub TW (λ_ h=>Or.inl h) _ _ _ (Or.inr (hnb.keeps h.wf _ _)) hq
      refine ⟨Or.inr trivial,_,e,(0,0),by rw [S3];exact hnb.new,U,iR _,?_,λj b hj=>?_⟩
      .grind [S3,k8,A1,E1,Nat.add_mul]
      .have hjl:=y8 hj
       rw [k8,A1,hcl] at hjl;simp only [S3,Nat.zero_add];rw [show (vo.toArray++vn.toArray++Builtin.zeroCells z.cells (aR - (len+m)))[j]? =(vo++vn++(Builtin.zeroCells z.cells (aR - (len+m))).toList)[j]? from by grind,
        s9 M]
       by_cases GI:j<O l0
       .rw [s9 M,List.getElem?_map,n9 GI] at hj
        rw [s9 V];simp only [B6,Option.some.injEq] at hj;subst hj;obtain ⟨v,g1,g2⟩:=Sz j _ (n9 GI);exact ⟨v,g1,mono g2.I7⟩
       .rw [s5 M,A1] at hj
        rw [s5 V];obtain ⟨u,r1,r2⟩:=H6.get _ _ JF (j - O l0) b hj;exact ⟨u,M,(mono r2).place⟩
     .simp only [VR]
      refine ⟨Or.inr trivial,aR,U,vk,_,e,(0,0),by rw [S3];exact hnb.new,?_⟩;simp_all
   .cases he
  .cases he
 .cases he
end
end Go.y9
namespace Go.y9
variable [D2]
structure qj (z6:Option Nat)(X:Cx)(l:F9)(S:Nat->Prop)(entry:Nat)(st:F5)(a:Act)(w:World)(G:Gh)(I:O5)(N:Nat->Prop)
  (st' :F5) (k:Nat) (x' :Value) (w' :World) (G' :Gh) (I' :O5) (N' :Nat->Prop):Prop where
 mid:Z6 X l S entry st a w G I N st' k x' w' G' I' N'
 Y8:∀id,N' id->id<O st'.H
 old:∀id,id<O st.H->N' id->N id\/z6=J id
def Z9 (P:Program)(o:Oper)(a:Act)(w:World)(R:Act->World->Prop):Prop :=
 ∀(d4:Act->World->Prop) (Q:Exit->Act->World->Prop),(∀a' w',R a' w' ->d4 a' w')->o.wp P a w d4 Q
section
variable {P:Program} {o:Oper} {a:Act} {w w' :World} {R:Act->World->Prop}
theorem Z9.value {x:Value}(h:(execOp a.eval o).run P w= .ok (.value x) w')(hR:R (a.put o.dst x) w'):Z9 P o a w R:=by
 intro d4 Q hK;simp_all [Oper.wp,Oper.upon]
theorem Z9.skip (h:(execOp a.eval o).run P w= .ok .skip w')(hR:R (a.put o.dst undef) w'):Z9 P o a w R:=by
 intro d4 Q hK;simp_all [Oper.wp,Oper.upon]
theorem Z9.defer {d:Deferred}(h:(execOp a.eval o).run P w= .ok (.defer d) w')(hR:R ({ a with defers:=d::a.defers }.put o.dst undef) w'):Z9 P o a w R:=by
 intro d4 Q hK;simp_all [Oper.wp,Oper.upon]
theorem Z9.enter {f:FuncId}{args:Array Value}(h:(execOp a.eval o).run P w= .ok (.enter f args) w)(hR:Calls P f args w λe w' =>∃x,e= .returned x/\R (a.put o.dst x) w'):Z9 P o a w R:=by
 intro d4 Q hK
 grind [Oper.wp,Oper.upon,Calls.mono]
end
def tQ (P:Program)(ck:Operand->A3->Bool)(o:Oper)(op:F0):Bool :=
 match o.op,op with
 | .call ⟨.value (.func f),args,_⟩,.call g ys=>f==g&&Kc ck args.toList ys&&P5 P f
 | .call ⟨.value x,args,_⟩,.bJ y ys=>ck x y&&Kc ck args.toList ys
 |_,_=>F
def BN (ck:Operand->A3->Bool)(o:Oper)(op:F0):Bool :=
 match o.op,op with
 | .defer ⟨.value x,args,_⟩,.defer y=>ck x y&&args.isEmpty
 |_,_=>F
def qx (ck:Operand->A3->Bool)(o:Oper)(y:A3):Bool :=
 match o.op with
 | .move x=>ck x y
 | .assign x=>ck x y
 |_=>F
def U5 (P:Program)(ck:Operand->A3->Bool)(o:Oper)(op:F0):Bool :=
 match op with
 | .dJ y=>qx ck o y
 | .alloc _=>aj P ck o op
 | .box _=>aj P ck o op
 | .makeMap=>aj P ck o op
 | .mW x=>qx ck o (.const (.d x))
 | .own _ x=>qx ck o x
 | .gw .. =>aj P ck o op
 | .M8 .. =>aj P ck o op
 | .store .. =>uD P ck o op
 | .append _ _ _ _ _=>bK P ck o op
 | .M3 sz bytes x y=>bK P ck o (.append sz bytes W x y)
 | .dI .. =>EE P ck o op
 | .call .. =>tQ P ck o op
 | .bJ .. =>tQ P ck o op
 | .defer _=>BN ck o op
 | .clear .. =>uB P ck o op
 | .bad=>W
 |op=>D8 P ck o op
section
variable {P:Program} {X:Cx} {l:F9} {S:Nat->Prop} {st st' :F5} {a:Act} {w w' :World} {G G' :Gh} {I I' :O5} {N N' :Nat->Prop} {d9:Nat->Bool} {j8:List x9}
def qj.gE {z6:Option Nat}{entry k:Nat}{x:Value}(aa:∀id,N id->id<O st.H)(h:Z6 X l S entry st a w G I N st' k x w' G' I' N):qj z6 X l S entry st a w G I N st' k x w' G' I' N :=
 ⟨h,λid hid=>Nat.lt_of_lt_of_le (aa id hid) h.len,λ_ _ h=>Or.inl h⟩
def qj.IJ {entry k:Nat}{x:Value}{z6:Option Nat}(aa:∀id,N id->id<O st.H){o:s6}{v:c7}(hi:∀i,z6=J i->i<O st.H)
  (h:Z6 X l S entry st a w G I N (put (C8 st z6 o) k v) k x w' G' I' N') (hN:∀i,N' i↔N i\/i=newId st z6) :
  qj z6 X l S entry st a w G I N (put (C8 st z6 o) k v) k x w' G' I' N' :=by
 refine ⟨h,λid hid=>?_,λid hlt hid=>?_⟩
 all_goals (simp_all [put,C8,newId]<;>grind)
def mR {l1 l2:List c7}{v1 v2:List Value}:∀(_:H6 G I N w l1 v1) (_:H6 G I N w l2 v2),H6 G I N w (l1++l2) (v1++v2):=by
 induction l1 generalizing v1 with
 |nil=>simp_all [H6]
 |cons b bs ih =>
  grind [H6]
structure dW (X:Cx)(st:F5)(a:Act)(w:World)(I:O5)(op:F0)(x:Value):Prop where
 dJ:∀s t,op= .dJ (.slot s)->X.names[s]? =J t->x=a.tmps.getD t undef
 load:∀y id off,op= .load K y->Y9 st y=J (id,off)->w.cell? (ad (I id).1 ((I id).2+off))=J x
def dW.other {X:Cx}{st:F5}{a:Act}{w:World}{I:O5}{op:F0}{x:Value}(h1:∀y,op≠ .dJ y)(h2:∀n y,op≠ .load n y):dW X st a w I op x :=
 ⟨λ_ _ h=>absurd h (h1 _),λ_ _ _ h=>absurd h (h2 _ _)⟩
def Pn {st:F5}{y:A3}{id off:Nat}(h:Y9 st y=J (id,off)):F1 st.T st.L y= .ptr id off:=by
 unfold Y9 at h
 grind [F1,List.getD,c7.I7]
def IF {ck:Operand->A3->Bool}{η:Operand->Value}{ρ:A3->c7}{H:k9}(hρ:ah ck G I N w η ρ)(hH:HR G I N w H){o:Oper}{y:A3}(hc:D8 P ck o (.load K y)=W){v:c7}{rs:List Nat}
  (h:l5 ρ H (.load K y)=J (v,rs)) {id off:Nat} (hp:ρ y= .ptr id off) {x:Value} (hx:(execOp η o).run P w= .ok (.value x) w):w.cell? (ad (I id).1 ((I id).2+off))=J x:=by
 obtain ⟨dst,aU,ty,pos,after,guard⟩:=o;cases aU<;>simp [D8] at hc;rename_i t x';have h1:=hρ _ _ hc.1;have ha:aI P t=J F:=by simp_all [nF]
 simp [l5,hp] at h;rw [hp] at h1;simp [VR] at h1;split at h
 next u hu=>
  obtain ⟨_,xs,g1,_,g3,g4⟩:=hH.rd hu V;obtain ⟨z,rfl⟩:∃z,xs=[z]:=by
   match xs,g1 with
   |[z],_=>simp_all
  have hz:=g3 0 z rfl;simp_all [execOp,Instr.loadAt,Instr.sureAddr,loadVar,Z4]
 .cases h
def uf (P:Program)(idle:FuncId->Bool)(z6:Option Nat)(X:Cx)(l:F9)(S:Nat->Prop)(entry:Nat)(st:F5)(a:Act)(w:World)(G:Gh)(I:O5)(N:Nat->Prop)(st' :F5)(k:Nat)(o:Oper)(op:F0)(a' :Act)(w' :World):Prop :=
 ∃x ds G' I' N',dW X st a w I op x/\a' =({ a with defers:=ds }:Act).put o.dst x/\(ds=a.defers\/∃d,ds=d::a.defers/\Bs P idle d)/\qj z6 X l S entry st a w G I N st' k x w' G' I' N'
def DK {E:Env}(GG:jR P E.cf E.prom)(de:∀f args H lm r,E.cf f args H lm=J r->P5 P f=W)(hE:E.lim=l)(h:RI X l S st a w G I N)(hpv:PV X j8 S st a w I)(hT:O st.T=O X.names)
  (aa:∀id,N id->id<O st.H) (hb:l.base<=O st.H) (hs:l.strict<=l.base) (hD:∀j,d9 j=W->S j) {k:Nat} (hk:¬ S k) (U8:k<O st.L) {o:Oper} {op:F0} (hc:U5 P (X.ck d9) o op=W)
  {z6:Option Nat} (hid:op.y3=W->ta l st N z6) {rs:List Nat} (he:B1 E j8 z6 k op st=J (st',rs)) :
  Z9 P o a w (uf P E.idle z6 X l S E.entry st a w G I N st' k o op):=by
 have hρ:=h.M9 hD;have fin:∀{x:Value} {w' :World} {G' :Gh} {I' :O5} {N' :Nat->Prop},dW X st a w I op x->qj z6 X l S E.entry st a w G I N st' k x w' G' I' N' ->uf P E.idle z6 X l S E.entry st a w G I N st' k o op (a.put o.dst x) w' :=
  λ{x w' G' I' N'} hF hS=>⟨x,a.defers,G',I',N',hF,rfl,Or.inl rfl,hS⟩
 have Mh:∀{v:c7} {rs:List Nat},(∀y,op≠ .dJ y)->D8 P (X.ck d9) o op=W->l5 (F1 st.T st.L) st.H op=J (v,rs)->st' =put st k v->Z9 P o a w (uf P E.idle z6 X l S E.entry st a w G I N st' k o op):=by
  intro v rs hm h1 h2 h3;subst h3;obtain ⟨x,g1,g2⟩:=FB (P:=P) (λv=>by rfl) hρ h.H h1 h2;refine Z9.value g1 (fin ⟨λs t e=>absurd e (hm _),λy id off e hp=>?_⟩ (qj.gE aa (Z6.same h hk U8 E.entry g2.place)));subst e;exact IF hρ h.H h1 h2 (Pn hp) g1
 have BH:(∀y,op≠ .dJ y)->(∀n y,op≠ .load n y)->∀(f:FuncId) (args:List c7) (H9:Array Value),H6 G I N w args H9.toList->B7 E k f args st=J st' ->(execOp a.eval o).run P w=(callFunc f H9).run P w->Z9 P o a w (uf P E.idle z6 X l S E.entry st a w G I N st' k o op):=by
  intro hm hl f args H9 h1 h2 h3;have hcan:P5 P f=W:=by
   unfold B7 at h2;split at h2
   .split at h2
    next Eg=>
     exact de f _ _ _ _ Eg
    .cases h2
   .simp only at h2
    split at h2
    .split at h2
     .split at h2
      next Eg=>
       exact de f _ _ _ _ Eg
      .cases h2
     .split at h2
      next Eg=>
       exact de f _ _ _ _ Eg
      .cases h2
     .split at h2
      next Eg=>
       exact de f _ _ _ _ Eg
      .cases h2
    .cases h2
  refine Z9.enter (f:=f) (args:=H9) (by rw [h3];exact pI hcan H9) ?_;refine Calls.mono (HW GG hE h aa hb hs hk U8 E.entry h1 h2) ?_;rintro e w' ⟨x,G',I',N',rfl,hC⟩;exact ⟨x,rfl,fin (dW.other hm hl) ⟨hC.mid,hC.Y8,λid hlt hid=>Or.inl (hC.old id hlt hid)⟩⟩
 unfold B1 at he;cases op
 case dJ y =>
  simp only [F0.A9,j6,if_false] at he;cases he;simp only [U5] at hc;have key:∀x,X.ck d9 x y=W->(execOp a.eval o).run P w= .ok (.value (a.eval x)) w->Z9 P o a w (uf P E.idle z6 X l S E.entry st a w G I N (put (E2 st y).2 k (E2 st y).1) k o (.dJ y)):=by
   intro x hx hrun;obtain ⟨G1,hX⟩:=h.E2 hD hx (pl:= .loc k) U;have hM:=Z6.same hX.ri hk (by rw [wV];exact U8) E.entry hX.val;exact Z9.value hrun (fin ⟨λs t e hn=>by cases e;simp only [Cx.ck] at hx;split at hx<;>simp_all [Act.eval],λ_ _ _ e=>by cases e⟩ (qj.gE aa (Z6.pre hX.ext hX.keeps hX.obj (rI st y) hM)))
  obtain ⟨dst,aU,ty,pos,after,guard⟩:=o;cases aU<;>simp only [qx] at hc<;>try (cases hc;done)
  .exact key _ hc (by simp [execOp])
  .exact key _ hc (by simp [execOp])
 case alloc zero =>
  simp only [F0.A9,if_true,B9] at he;cases he;have h1:=hid rfl;obtain ⟨x,w',G',I',N',g1,g2,g3⟩:=IK h hk U8 E.entry h1 (by simpa [U5] using hc);exact Z9.value g1 (fin (dW.other U U) (qj.IJ aa h1.inside g2 g3))
 case box y =>
  simp only [F0.A9,if_true,B9] at he;split at he
  next hcs=>
   split at hcs
   next cs jP=>
    cases hcs;cases he;have h1:=hid rfl;obtain ⟨x,w',G',I',N',g1,g2,g3⟩:=OD h hρ hk U8 E.entry h1 (by simpa [U5] using hc) jP;exact Z9.value g1 (fin (dW.other U U) (qj.IJ aa h1.inside g2 g3))
   .cases hcs
  .cases he
 case mW d =>
  simp only [F0.A9,if_true,B9] at he;cases he;simp only [U5] at hc;have key:∀x,X.ck d9 x (.const (.d d))=W->(execOp a.eval o).run P w= .ok (.value (a.eval x)) w->Z9 P o a w (uf P E.idle z6 X l S E.entry st a w G I N (put st k (.d d)) k o (.mW d)):=by
   intro x hx hrun;have g2:VR G I N w .none (.d d) (a.eval x):=hρ x _ hx;exact Z9.value hrun (fin (dW.other U U) (qj.gE aa (Z6.same h hk U8 E.entry g2.place)))
  obtain ⟨dst,aU,ty,pos,after,guard⟩:=o;cases aU<;>simp only [qx] at hc<;>try (cases hc;done)
  .exact key _ hc (by simp [execOp])
  .exact key _ hc (by simp [execOp])
 case own sz y =>
  simp only [F0.A9,if_true,B9] at he;split at he
  next hcs=>
   split at hcs
   next len cells st1 ht=>
    cases hcs;cases he;simp only [U5] at hc;have key:∀x,X.ck d9 x y=W->(execOp a.eval o).run P w= .ok (.value (a.eval x)) w ->
      Z9 P o a w (uf P E.idle z6 X l S E.entry st a w G I N (put st1 k (.own sz len cells)) k o (.own sz y)):=by
     intro x hx hrun;obtain ⟨G1,Ck⟩:=mN h hpv hT hD hk hx (hE ▸ ht);exact Z9.value hrun (fin (dW.other U U) (qj.gE aa (Z6.OK Ck (Z6.same Ck.ri hk (by rw [Ck.L];exact U8) E.entry Ck.val))))
    obtain ⟨dst,aU,ty,pos,after,guard⟩:=o;cases aU<;>simp only [qx] at hc<;>try (cases hc;done)
    .exact key _ hc (by simp [execOp])
    .exact key _ hc (by simp [execOp])
   .cases hcs
  .cases he
 case makeMap =>
  simp only [F0.A9,if_true,B9] at he;cases he;have h1:=hid rfl;obtain ⟨x,w',G',I',N',g1,g2,g3⟩:=OE (P:=P) h hk U8 E.entry h1 (by simpa [U5] using hc);exact Z9.value g1 (fin (dW.other U U) (qj.IJ aa h1.inside g2 g3))
 case gw sz zero x y =>
  simp only [F0.A9,if_true,B9] at he;split at he
  next hcs=>
   split at hcs
   next n hn=>
    cases hcs;cases he;have h1:=hid rfl;obtain ⟨x,w',G',I',N',g1,g2,g3⟩:=IL h hρ hk U8 E.entry h1 (by simpa [U5] using hc) hn;exact Z9.value g1 (fin (dW.other U U) (qj.IJ aa h1.inside g2 g3))
   .cases hcs
  .cases he
 case M8 sz len zero parts ob =>
  cases ob with
  |false =>
   simp only [F0.A9,j6,if_false] at he;split at he
   next v rs' hp=>
    cases he;obtain ⟨x,w',G',g1,g2⟩:=IM h hρ hk U8 E.entry (by simpa [U5] using hc) hp;exact Z9.value g1 (fin (dW.other U U) (qj.gE aa g2))
   .cases he
  |true =>
   simp only [F0.A9,if_true,B9] at he;split at he
   next hcs=>
    split at hcs
    next cs jP=>
     split at hcs
     next hl=>
      cases hcs;cases he;have h1:=hid rfl;obtain ⟨x,w',G',I',N',g1,g2,g3⟩:=AE h hρ hk U8 E.entry h1 (by simpa [U5] using hc) jP hl.2;exact Z9.value g1 (fin (dW.other U U) (qj.IJ aa h1.inside g2 g3))
     .cases hcs
    .cases hcs
   .cases he
 case store n x y =>
  simp only [F0.A9,if_true,B9] at he;split at he
  next hst=>
   cases he;obtain ⟨w',G',g1,g2⟩:=HY h hD hk U8 E.entry (by simpa [U5] using hc) hE hst;exact Z9.skip g1 (fin (dW.other U U) (qj.gE aa g2))
  .cases he
 case M3 sz bytes x y =>
  simp only [U5] at hc;have h1:ta l st N K:=⟨λh=>Nat.lt_irrefl _ (aa _ h),λ_ e=>(by cases e),hb,p7 hs hb⟩;simp only [F0.A9,if_true] at he;split at he
  next hst=>
   cases he;simp only [B9] at hst;obtain ⟨s,hs2,rfl⟩:=jU hst;split at hs2
   next id z lo len hx=>
    split at hs2
    next hz=>
     subst hz;obtain ⟨v,w',G',I',g1,g2⟩:=xy h hD hk U8 E.entry h1 hc hE hx hs2;have hlen:O st.H<O s.H:=by
      unfold Q0 at hs2;split at hs2
      .split at hs2
       .split at hs2
        .cases hs2
         simp [put,C8]
        .cases hs2
       .cases hs2
      .cases hs2
     refine Z9.value g1 (fin (dW.other U U) ⟨g2.l6 _,λid hid=>?_,λid hlt hid=>?_⟩)
     .rcases hid with hid|rfl
      .exact Nat.lt_of_lt_of_le (aa id hid) g2.len
      .exact hlen
     .rcases hid with hid|rfl
      .exact Or.inl hid
      .exact absurd hlt (Nat.lt_irrefl _)
    .cases hs2
   .rcases mF h hpv hT hD hk U8 E.entry h1 hc hE hs2 with ⟨v,w',G',g1,g2⟩|⟨v,w',G',I',N',ob,av,g1,rfl,g2,g3⟩
    .exact Z9.value g1 (fin (dW.other U U) (qj.gE aa (g2.l6 _)))
    .refine Z9.value g1 (fin (dW.other U U) ⟨g2.l6 _,λid hid=>?_,λid hlt hid=>?_⟩)
     .rcases (g3 id).1 hid with hid|rfl
      .exact Nat.lt_of_lt_of_le (aa id hid) g2.len
      .simp [put,C8,newId]
     .rcases (g3 id).1 hid with hid|rfl
      .exact Or.inl hid
      .exact absurd hlt (Nat.lt_irrefl _)
  .cases he
 case append sz bytes ob x y =>
  simp only [U5] at hc;simp only [F0.A9,if_true,B9] at he;split at he
  next hst=>
   cases he;split at hst
   next id z lo len hx=>
    split at hst
    next hz=>
     subst hz;obtain ⟨v,w',G',I',g1,g2⟩:=xz h hD hk U8 hc hE hx hst;exact Z9.value g1 (fin (dW.other U U) (qj.gE aa g2))
    .cases hst
   .cases ob with
    |false =>
     obtain ⟨v,w',G',g1,g2⟩:=EO h hpv hT hD hk U8 E.entry hc hE hst;exact Z9.value g1 (fin (dW.other U U) (qj.gE aa g2))
    |true =>
     have h1:=hid rfl
     rcases mF h hpv hT hD hk U8 E.entry h1 hc hE hst with ⟨v,w',G',g1,g2⟩|⟨v,w',G',I',N',ob,av,g1,rfl,g2,g3⟩
     .exact Z9.value g1 (fin (dW.other U U) (qj.gE aa g2))
     .exact Z9.value g1 (fin (dW.other U U) (qj.IJ aa h1.inside g2 g3))
  .cases he
 case dI kk m ky v =>
  simp only [F0.A9,if_true,B9] at he;split at he
  next hst=>
   cases he;obtain ⟨w',g1,g2⟩:=EP h hD hk U8 E.entry (by simpa [U5] using hc) hE hst;exact Z9.skip g1 (fin (dW.other U U) (qj.gE aa g2))
  .cases he
 case call f ys =>
  simp only [F0.A9,if_true,B9] at he;split at he
  next hst=>
   cases he;simp only [U5,tQ] at hc;split at hc
   next f' args _ g ys' hop heq=>
    cases heq;simp only [c9,beq_iff_eq] at hc;obtain ⟨⟨rfl,hcs⟩,hcan⟩:=hc;refine BH U U f' (ys.map (F1 st.T st.L)) (args.map a.eval) (by simpa using fm hρ _ _ hcs) hst ?_;simp [execOp,hop,resolve,Act.eval,Deferred.ofValue,invoke]
   .rename_i heq;cases heq
   .cases hc
  .cases he
 case bJ y ys =>
  simp only [F0.A9,if_true,B9] at he;split at he
  next hst=>
   cases he;simp only [U5,tQ] at hc;split at hc
   .rename_i heq;cases heq
   next x args _ y' ys' hop heq=>
    cases heq;simp only [c9] at hc;have hv:=hρ _ _ hc.1;split at hst
    next f first caps hy=>
     rw [hy] at hv;simp only [VR] at hv;obtain ⟨vf,vc,e1,e2,e3⟩:=hv;refine BH U U f (first++ys.map (F1 st.T st.L)++caps) (vf++args.map a.eval++vc) ?_ hst ?_
     .simp only [Array.toList_append,Array.toList_map]
      exact mR (mR e2 (fm hρ _ _ hc.2)) e3
     .simp [execOp,hop,resolve,e1,Deferred.ofValue,invoke]
    .cases hst
   .cases hc
  .cases he
 case defer y =>
  simp only [F0.A9,if_true,B9] at he;split at he
  next hst=>
   cases he;simp only [U5,BN] at hc;split at hc
   next x args _ y' hop heq=>
    cases heq;simp only [c9] at hc;have hv:=hρ _ _ hc.1;split at hst
    next f first caps hy=>
     split at hst
     next yF=>
      cases hst;rw [hy] at hv;simp only [VR] at hv;obtain ⟨vf,vc,e1,e2,e3⟩:=hv;have hrun:(execOp a.eval o).run P w= .ok (.defer { target:= .fn (.func f) vc,args:=vf++args.map a.eval }) w:=by
       simp [execOp,hop,resolve,e1,Deferred.ofValue]
      refine Z9.defer hrun ⟨undef,_,G,I,N,dW.other U U,rfl,Or.inr ⟨_,rfl,f,vc,rfl,yF⟩,qj.gE aa (Z6.same h hk U8 E.entry (by simp [VR]))⟩
     .cases hst
    .cases hst
   .cases hc
  .cases he
 case clear sz zero y =>
  simp only [F0.A9,if_true,B9] at he;split at he
  next hst=>
   cases he;obtain ⟨w',g1,g2⟩:=HX h hD hk U8 E.entry (by simpa [U5] using hc) hE hst;exact Z9.value g1 (fin (dW.other U U) (qj.gE aa g2))
  .cases he
 case bad=>simp [F0.A9,l5] at he
 all_goals
  simp only [F0.A9,j6,if_false] at he;split at he
  next hp=>
   cases he;exact Mh U (by simpa only [U5] using hc) hp rfl
  .cases he
end
end Go.y9
namespace Go.y9
variable [D2]
def kj (names:List Tmp):Option Tmp->Option Nat->Bool
 |none,K=>W
 |some d,K=> !names.contains d
 |some d,J s=>names[s]? ==J d
 |none,J _=>F
def kr (X:Cx)(d9:Nat->Bool):Option (Nat×Bool)->Option (Nat×Bool)->Bool
 |none,K=>W
 |some (g,b),J (g',b')=>g==g' &&b==b' &&d9 g&&(match (X.ops[g]?).bind (·.dst) with
  |some d=> !X.names.contains d
  |none=>F)
 |_,_=>F
def mV (X:Cx)(d9:Nat->Bool)(o:Oper)(i:x9):Bool :=
 U5 X.P (X.ck d9) o i.op&&kj X.names o.dst i.dst&&kr X d9 o.guard i.guard
structure Stat (X:Cx)(nt:Nat):Prop where
 dup:∀(i j:Nat) d,(X.ops[i]?).bind (·.dst)=J d->(X.ops[j]?).bind (·.dst)=J d->X.names.contains d=F->i=j
 lt:∀(i:Nat) d,(X.ops[i]?).bind (·.dst)=J d->d<nt
 nod:∀(s s' :Nat) t,X.names[s]? =J t->X.names[s']? =J t->s=s'
def rK (X:Cx)(S:Nat->Prop):A3->Prop
 | .loc m=>S m/\∃t,(X.ops[m]?).bind (·.dst)=J t/\X.names.contains t=F
 | .slot s=>∃t,X.names[s]? =J t
 | .const _=>True
structure Rg (X:Cx)(j8:List x9)(E:Env)(nt:Nat)(S:Nat->Prop)(st:F5)(a:Act)(w:World)(G:Gh)(I:O5)(N:Nat->Prop):Prop where
 ri:RI X E.lim S st a w G I N
 pv:PV X j8 S st a w I
 cl:∀(j:Nat) ai y,S j->j8[j]? =J ai->ai.op=F0.load K y->rK X S y
 U2:O st.T=O X.names
 fO:O st.L=O j8
 Y8:∀id,N id->id<O st.H
 Aj:E.entry<=O st.H
 size:a.tmps.size=nt
 idle:∀d,d∈a.defers->Bs X.P E.idle d
structure W2 (E:Env)(H0:k9)(w0:World)(G0:Gh)(I0:O5)(N0:Nat->Prop)(H:k9)(w:World)(G:Gh)(I:O5)(N:Nat->Prop):Prop where
 ext:Ext G0 w0 G w
 aV:hU E.lim G0 w0 G w
 inj:∀id,id<E.entry->N0 id->I id=I0 id
 mono:∀id,id<E.entry->N0 id->N id
 old:∀id,id<E.entry->N id->N0 id
 hle:∀(id:Nat) (o' :s6),id<E.lim.base->H[id]? =J o' ->o'.F4<=id+1\/∃o:s6,H0[id]? =J o/\o'.F4<=o.F4
theorem W2.refl (E:Env)(H:k9)(w:World)(G:Gh)(I:O5)(N:Nat->Prop):W2 E H w G I N H w G I N :=
 ⟨Ext.refl _ _,hU.refl _ _ _,λ_ _ _=>rfl,λ_ _ h=>h,λ_ _ h=>h,λ_ o _ h=>Or.inr ⟨o,h,j9 _⟩⟩
theorem W2.trans {E:Env}{H0 H1 H2:k9}{w0 w1 w2:World}{G0 G1 G2:Gh}{I0 I1 I2:O5}{N0 N1 N2:Nat->Prop}
  (h:W2 E H0 w0 G0 I0 N0 H1 w1 G1 I1 N1) (k:W2 E H1 w1 G1 I1 N1 H2 w2 G2 I2 N2):W2 E H0 w0 G0 I0 N0 H2 w2 G2 I2 N2 where
 ext:=h.ext.trans k.ext
 aV:=h.aV.trans k.aV
 inj id hid hN:=(k.inj id hid (h.mono id hid hN)).trans (h.inj id hid hN)
 mono id hid hN:=k.mono id hid (h.mono id hid hN)
 old id hid hN:=h.old id hid (k.old id hid hN)
 hle id o' hb ho:=by
  rcases k.hle id o' hb ho with h1|⟨o1,h1,h2⟩
  .omega
  .rcases h.hle id o1 hb h1 with h3|⟨o,h3,h4⟩
   all_goals grind
section
variable {X:Cx} {j8:List x9} {E:Env} {nt:Nat} {S:Nat->Prop} {st st1 st2:F5} {a:Act} {w w' :World} {G G' :Gh} {I I' :O5} {N N' :Nat->Prop} {d9:Nat->Bool}
def Rg.at2 (h:Rg X j8 E nt S st a w G I N){y:A3}(hy:rK X S y){id off:Nat}(hp:Y9 st y=J (id,off)):N id:=by
 unfold Y9 at hp;split at hp
 next m=>
  split at hp
  .obtain ⟨h1,t,h2,h3⟩:=hy
   have:=h.ri.L m h1 t h2 h3;simp_all [Y3,VR]
  .cases hp
 next s=>
  split at hp
  .cases hp
  .split at hp
   .obtain ⟨t,ht⟩:=hy
    have:=h.ri.T s t ht;simp_all [Y3,VR]
   .cases hp
 .cases hp
theorem P3 {z6:Option Nat}{k:Nat}{dst:Option Nat}(h:s8 z6 st1 k dst=J st2) :
  (dst=K/\st2=st1)\/∃s l6,dst=J s/\s<O st1.T/\st2={ (E2 st1 (.loc k)).2 with T:=st1.T.set s (E2 st1 (.loc k)).1,l6 }/\(l6= .slot s::st1.l6\/(l6=st1.l6/\st1.l6.any (Touch.P9 s)=W)):=by
 unfold s8 at h;split at h
 .simp_all [C9]<;>grind
 .cases dst with
  |none=>cases h;simp_all
  |some s =>
   grind [Q4,E2]
theorem wN {z6:Option Nat}{k:Nat}{dst:Option Nat}(h:s8 z6 st1 k dst=J st2)(p:Touch->Bool)(hp:st1.l6.any p=W):st2.l6.any p=W:=by
 rcases P3 h with ⟨_,rfl⟩|⟨s,l6,_,_,rfl,rfl|⟨rfl,_⟩⟩
 all_goals simp_all
theorem wL {z6:Option Nat}{k s:Nat}{dst:Option Nat}(h:s8 z6 st1 k dst=J st2)(hd:dst=J s):st2.l6.any (Touch.P9 s)=W:=by
 grind [P3,Touch.P9]
def kZ {z6:Option Nat}{k:Nat}{dst:Option Nat}(h:s8 z6 st1 k dst=J st2):st2.H=st1.H:=by
 grind [P3,rI]
def DU {z6:Option Nat}{k:Nat}{dst:Option Nat}(h:s8 z6 st1 k dst=J st2):O st2.L=O st1.L:=by
 grind [P3,wV]
def DW {z6:Option Nat}{k:Nat}{dst:Option Nat}(h:s8 z6 st1 k dst=J st2):O st2.T=O st1.T:=by
 grind [P3]
theorem jB (st:F5)(k m:Nat)(h:m≠k):(E2 st (.loc k)).2.L[m]? =st.L[m]? :=by
 simp only [E2];split
 .simp only
  rw [x5 (λe=>h e.symm)]
 .rfl
 .rfl
theorem DT {z6:Option Nat}{k:Nat}{dst:Option Nat}(h:s8 z6 st1 k dst=J st2){m:Nat}(hm:m≠k):st2.L[m]? =st1.L[m]? :=by
 grind [P3,jB]
def FN {z6:Option Nat}{k:Nat}{dst:Option Nat}(h:s8 z6 st1 k dst=J st2){y:A3}(hy:∀m,y= .loc m->m≠k){id off:Nat}(hp:Y9 st2 y=J (id,off)):Y9 st1 y=J (id,off):=by
 cases y with
 |const v=>exact hp
 |loc m =>
  grind [Y9,DT]
 |slot s' =>
  simp only [Y9] at hp ⊢;split at hp
  .cases hp
  .have hn' :st2.l6.any (Touch.P9 s')=F:=M
   rw [if_neg (by grind [fR,wN])]
   grind [wL,P3,x5]
def Tr.ptr {k:Nat}(h:Tr N k st st1){y:A3}(hy:∀m,y= .loc m->m≠k){id off:Nat}(hp:Y9 st1 y=J (id,off)):Y9 st y=J (id,off):=by
 cases y with
 |const v=>exact hp
 |loc m =>
  simp [Y9] at hp ⊢;split at hp
  next hl=>
   cases hp;rw [h.L m _ _ (hy m rfl) hl]
  .cases hp
 |slot s =>
  simp only [Y9] at hp ⊢;split at hp
  .cases hp
  .rw [if_neg (by rw [fR h.l6 M];simp)]
   split at hp
   next hl=>
    cases hp;rw [h.T s _ _ hl]
   .cases hp
def Z3 {d:Tmp}{x:Value}(h:d<a.tmps.size):(a.put (J d) x).tmps.getD d undef=x:=by
 simp [Act.put,h]
def T8 {dst:Option Tmp}{t:Tmp}{x:Value}(h:dst≠J t):(a.put dst x).tmps.getD t undef=a.tmps.getD t undef:=by
 simp_all [Act.put]<;>grind
def size_put {dst:Option Tmp}{x:Value}:(a.put dst x).tmps.size=a.tmps.size:=by
 cases dst<;>simp [Act.put]
def iZ {dst:Option Tmp}{x:Value}:(a.put dst x).defers=a.defers:=by
 cases dst<;>simp [Act.put]
theorem RI.defers {l:F9}{ds:List Deferred}(h:RI X l S st a w G I N):RI X l S st { a with defers:=ds } w G I N :=
 ⟨h.T,h.L,h.H,h.wf,h.Q7⟩
def RI.after {l:F9}(hst:Stat X nt)(hsz:a.tmps.size=nt)(hT:O st1.T=O X.names){k:Nat}(hk:¬ S k)(U8:k<O st1.L){o:Oper}(ho:X.ops[k]? =J o){dst:Option Nat}(hd:kj X.names o.dst dst=W)
  (h:RI X l S st1 a w G I N) {x:Value} (hv:VR G I N w (.loc k) (st1.L.getD k .any) x) {z6:Option Nat} (hts:s8 z6 st1 k dst=J st2) :
  ∃G',Ext G w G' w/\(∀id off,X7 (.cell id off) G w G' w)/\(∀b id,G b= .obj id->G' b= .obj id)/\RI X l (λj=>S j\/j=k) st2 (a.put o.dst x) w G' I N:=by
 have su:(X.ops[k]?).bind (·.dst)=o.dst:=by rw [ho];rfl
 rcases P3 hts with ⟨rfl,rfl⟩|⟨s,V8,rfl,hs,rfl,_⟩
 .have Aq:∀d,o.dst=J d->X.names.contains d=F:=by
   intro d hd';rw [hd'] at hd;simpa [kj] using hd
  refine ⟨G,Ext.refl _ _,λ_ _ _ _ h=>⟨h,rfl⟩,λ_ _ h=>h,?_,?_,h.H,h.wf,h.Q7⟩
  .intro s t ht
   rw [T8 ?_]
   .exact h.T s t ht
   .intro e
    have h1:=Aq t e;have h2:t∈X.names:=List.mem_of_getElem? ht;simp [h2] at h1
  .intro j hj d wY hjn
   rcases hj with hj|rfl
   .rw [T8 ?_]
    .exact h.L j hj d wY hjn
    .intro e
     have:=hst.dup j k d wY (by rw [su];exact e) hjn;subst this;exact hk hj
   .rw [su] at wY
    rw [wY,Z3 (by rw [hsz];exact hst.lt j d (by rw [su];exact wY))];exact hv
 .·cases Yf:o.dst with
   |none=>rw [Yf] at hd;simp [kj] at hd
   |some d =>
    rw [Yf] at hd;have aa:X.names[s]? =J d:=by simpa [kj] using hd
    have hdn:X.names.contains d=W:=by
     have:d∈X.names:=List.mem_of_getElem? aa;simp [this]
    have ag4:d<a.tmps.size:=by rw [hsz];exact hst.lt k d (by rw [su];exact Yf)
    have main:∀(v:c7) (TC:F5) (G' :Gh),gb (.loc k) G w G' ->VR G' I N w (.slot s) v x->TC.H=st1.H->(∀m,m≠k->TC.L[m]? =st1.L[m]?)->TC.T=st1.T.set s v ->
      RI X l (λj=>S j\/j=k) TC (a.put (J d) x) w G' I N:=by
     intro v TC G' hm Oj hH hL hT3;refine ⟨?_,?_,?_,hm.wf h.wf,?_⟩
     .intro s' t ht
      rw [hT3]
      by_cases he:s' =s
      .subst he
       rw [aa] at ht;cases ht;rw [K5 _ _ _ _ hs,Z3 ag4];exact Oj
      .rw [L5 _ _ _ _ _ (λe=>he e.symm),T8 (λe=>he (hst.nod s' s t ht (by rw [aa,<- Option.some_inj.1 e])))]
       exact VR.mono hm.ext (λ_ _=>rfl) (λ_ h=>h) _ _ _ (Or.inr (hm.keeps _ U)) (h.T s' t ht)
     .intro j hj d' wY hjn
      have hjk:S j:=by
       rcases hj with hj|rfl
       .exact hj
       .rw [su,Yf] at wY;cases wY;rw [hdn] at hjn;cases hjn
      have hne:j≠k:=by rintro rfl;exact hk hjk
      have e1:TC.L.getD j .any=st1.L.getD j .any:=by simp only [List.getD,hL j hne]
      rw [e1,T8 (λe=>by cases e;rw [hdn] at hjn;cases hjn)];exact VR.mono hm.ext (λ_ _=>rfl) (λ_ h=>h) _ _ _ (Or.inr (hm.keeps _ (by simp;exact hne))) (h.L j hjk d' wY hjn)
     .rw [hH];exact h.H.CV hm U
     .rw [hH];exact h.Q7
    by_cases hown:∃z n c,st1.L[k]? =J (.own z n c)
    .obtain ⟨z,n,c,Qm⟩:=hown
     rw [Y3 Qm] at hv;obtain ⟨G',hm,Oj⟩:=fT (tK := .slot s) U hv;refine ⟨G',hm.ext,λid off=>hm.keeps _ U,hm.obj,?_⟩;have e1:(y9.E2 st1 (.loc k)).1= .own z n c:=by simp only [y9.E2,Qm]
     exact main (.own z n c) _ G' hm Oj (rI _ _) (λm hm=>jB st1 k m hm) (by simp only [e1])
    .by_cases hnil:st1.L[k]? =J .N9
     .have e1:y9.E2 st1 (.loc k)=(.N9,st1):=by simp only [y9.E2,hnil]
      refine ⟨G,Ext.refl _ _,λ_ _ _ _ h=>⟨h,rfl⟩,λ_ _ h=>h,?_⟩;refine main .N9 _ G (gb.refl _ _ _) ?_ (rI _ _) (λm hm=>jB st1 k m hm) (by simp only [e1]);rw [Y3 hnil] at hv;simpa only [VR] using hv
     .have e1:y9.E2 st1 (.loc k)=(F1 st1.T st1.L (.loc k),st1):=by
       simp only [y9.E2];split
       .rename_i z n c hj;exact absurd ⟨z,n,c,hj⟩ hown
       .rename_i hj;exact absurd hj hnil
       .rfl
      refine ⟨G,Ext.refl _ _,λ_ _ _ _ h=>⟨h,rfl⟩,λ_ _ h=>h,?_⟩;refine main (F1 st1.T st1.L (.loc k)) _ G (gb.refl _ _ _) ?_ (rI _ _) (λm hm=>jB st1 k m hm) (by simp only [e1]);simp only [F1];exact hv.I7
def PV.after (hst:Stat X nt)(hR:Rg X j8 E nt S st a w G I N){k:Nat}(hk:¬ S k){o:Oper}(ho:X.ops[k]? =J o){i:x9}(hi:j8[k]? =J i)(hd:kj X.names o.dst i.dst=W)
  (hcl:∀y,i.op= .load K y->rK X S y) (htr:Tr N k st st1) {z6:Option Nat} (hts:s8 z6 st1 k i.dst=J st2) {x:Value} {ds:List Deferred}
  (hko:∀id,N id->st1.l6.any (Touch.E3 id)=F->I' id=I id/\∀b,G b= .obj id->w'.heap[b]? =w.heap[b]?)
  (hf:st2.L[k]? =J (.tuple [])\/dW X st a w I i.op x):PV X j8 (λj=>S j\/j=k) st2 ({ a with defers:=ds }.put o.dst x) w' I' :=by
 have su:(X.ops[k]?).bind (·.dst)=o.dst:=by rw [ho];rfl
 have Nq:∀j,j≠k->st2.L[j]? ≠J (.tuple [])->st.L[j]? ≠J (.tuple []):=by
  intro j hj h1 h2;rw [DT hts hj] at h1;exact h1 (htr.Nq j hj h2)
 have SM:∀p,st2.l6.any p=F->st.l6.any p=F/\st1.l6.any p=F:=by
  intro p hp;have h1:=fR (wN hts) hp;exact ⟨fR htr.l6 h1,h1⟩
 have MA:∀(s:Nat) t,X.names[s]? =J t->st2.l6.any (Touch.P9 s)=F->o.dst≠J t:=by
  intro s t ht hh e;rw [e] at hd;cases hdi:i.dst with
  |none =>
   grind [List.mem_of_getElem?,kj]
  |some s' =>
   rw [hdi] at hd hts;have h1:X.names[s']? =J t:=by simp_all [kj]
   have:=hst.nod s s' t ht h1
   grind [wL]
 have Gs:∀(j:Nat) d,S j->(X.ops[j]?).bind (·.dst)=J d->X.names.contains d=F->o.dst≠J d:=by
  intro j d hj wY hjn e;have:=hst.dup j k d wY (by grind) hjn
  grind
 have BL:∀y id off l0,rK X S y->Y9 st2 y=J (id,off)->st2.H[id]? =J (.cells l0)->off<O l0->st2.l6.any (Touch.V0 id off)=F ->
   Y9 st y=J (id,off)/\st.l6.any (Touch.V0 id off)=F/\(∃l,st.H[id]? =J (.cells l)/\off<O l)/\w'.cell? (ad (I' id).1 ((I' id).2+off))=w.cell? (ad (I id).1 ((I id).2+off)):=by
  intro y id off l0 hy hp hH hoff hh;have hym:∀m,y= .loc m->m≠k:=by
   rintro m rfl rfl;exact hk hy.1
  have hp1:=FN hts hym hp;have hp0:=htr.ptr hym hp1;have hN:=hR.at2 hy hp0;have Is:st1.l6.any (Touch.E3 id)=F:=by
   cases he:st1.l6.any (Touch.E3 id) with
   |false=>rfl
   |true =>
    rw [List.any_eq_true] at he;obtain ⟨t,ht,hth⟩:=he;have:st1.l6.any (Touch.V0 id off)=W:=by
     rw [List.any_eq_true];refine ⟨t,ht,?_⟩;cases t<;>simp only [Touch.E3,Touch.V0] at hth ⊢<;>first|exact hth|cases hth
    grind
  rw [kZ hts] at hH;obtain ⟨l,hl,hle⟩:=htr.H id l0 hN Is hH;have hO:=hR.ri.H id _ hl
  grind [OR,World.cell?]
 refine ⟨?_,?_⟩
 .intro j ai s t d hj hsk hai hop ht wY hjn hh
  rw [T8 (MA s t ht hh)]
  rcases hj with hj|rfl
  .rw [T8 (Gs j d hj wY hjn)]
   exact hR.pv.slot j ai s t d hj (Nq j (by grind) hsk) hai hop ht wY hjn (SM _ hh).1
  .rw [hi] at hai;cases hai
   rw [su] at wY;rw [wY,Z3 (by simp only;rw [hR.size];exact hst.lt j d (by grind))]
   rcases hf with hf|hf
   .grind
   .exact hf.dJ s t hop ht
 .intro j ai y id off d l0 hj hsk hai hop hp hH hoff hh wY hjn
  rcases hj with hj|rfl
  .have hy:=hR.cl j ai y hj hai hop
   obtain ⟨h1,h2,⟨l,h3,h4⟩,h5⟩:=BL y id off l0 hy hp hH hoff hh;rw [T8 (Gs j d hj wY hjn),h5];exact hR.pv.cell j ai y id off d l hj (Nq j (by grind) hsk) hai hop h1 h3 h4 h2 wY hjn
  .rw [hi] at hai;cases hai
   have hy:=hcl y hop;obtain ⟨h1,h2,⟨l,h3,h4⟩,h5⟩:=BL y id off l0 hy hp hH hoff hh;rw [su] at wY;rw [wY,Z3 (by simp only;rw [hR.size];exact hst.lt j d (by grind)),h5]
   rcases hf with hf|hf
   .grind
   .exact hf.load y id off hop h1
end
end Go.y9
namespace Go.y9
variable [D2]
section
variable {X:Cx} {j8:List x9} {E:Env} {nt:Nat} {S:Nat->Prop} {st st1 st2:F5} {a:Act} {w w' :World} {G G' :Gh} {I I' :O5} {N N' :Nat->Prop} {d9:Nat->Bool}
theorem qd (hR:Rg X j8 E nt S st a w G I N)(hD:∀j,d9 j=W->S j){o:Oper}{g:Option (Nat×Bool)}(hc:kr X d9 o.guard g=W){b:Bool}(hw:y5 st.L g=J b):Region.wanted o (yielded X.ops a.tmps)=b:=by
 unfold Region.wanted;cases hg:o.guard with
 |none =>
  grind [y5,kr]
 |some p =>
  obtain ⟨g0,want⟩:=p;rw [hg] at hc;cases g with
  |none=>simp [kr] at hc
  |some q =>
   obtain ⟨g1,aH0⟩:=q;simp only [kr,c9,beq_iff_eq] at hc;obtain ⟨⟨⟨rfl,rfl⟩,hDg⟩,vi⟩:=hc;cases hd:(X.ops[g0]?).bind (·.dst) with
   |none=>simp_all
   |some d =>
    rw [hd] at vi;simp only [o3] at vi;have hv:=hR.ri.L g0 (hD g0 hDg) d hd vi;have hy:yielded X.ops a.tmps g0=(match a.tmps[d]? with|some (.bool b)=>J b|_=>K):=by
     grind [yielded]
    simp [y5] at hw;split at hw
    .cases hw
     simp_all [VR,DR,bool,undef]<;>grind
    all_goals (simp_all [VR,bool]<;>grind)
structure Uw (X:Cx)(j8:List x9)(E:Env)(nt:Nat)(S:Nat->Prop)(st:F5)(w:World)(G:Gh)(I:O5)(N:Nat->Prop)(k:Nat)(z6:Option Nat)(st2:F5)(a' :Act)(w' :World)(G' :Gh)(I' :O5)(N' :Nat->Prop):Prop where
 rg:Rg X j8 E nt (λj=>S j\/j=k) st2 a' w' G' I' N'
 since:W2 E st.H w G I N st2.H w' G' I' N'
 len:O st.H<=O st2.H
 old:∀id,id<O st.H->N' id->N id\/z6=J id
theorem Dh (hD:∀j,d9 j=W->S j){x:Operand}{y:A3}(hc:X.ck d9 x y=W):rK X S y:=by
 unfold Cx.ck at hc;split at hc
 .exact ⟨_,by simpa using hc⟩
 .simp only [c9,beq_iff_eq,o3] at hc
  exact ⟨hD _ hc.1.1,_,hc.1.2,hc.2⟩
 .trivial
 .trivial
 .trivial
 .cases hc
theorem CH (hD:∀j,d9 j=W->S j){o:Oper}{n:Option Nat}{y:A3}(hc:U5 X.P (X.ck d9) o (.load n y)=W):rK X S y:=by
 simp [U5] at hc;obtain ⟨dst,aU,ty,pos,after,guard⟩:=o;cases aU<;>simp [D8] at hc
 grind [Dh]
theorem Rg.after (hst:Stat X nt)(hR:Rg X j8 E nt S st a w G I N)(hD:∀j,d9 j=W->S j){k:Nat}(hk:¬ S k)(U8:k<O st.L){o:Oper}(ho:X.ops[k]? =J o){i:x9}(hi:j8[k]? =J i)(hc:mV X d9 o i=W)
  {z6:Option Nat} (hne:∀i,z6=J i->E.entry<=i) (htr:Tr N k st st1) (hts:s8 z6 st1 k i.dst=J st2) {x:Value} {ds:List Deferred} (hds:ds=a.defers\/∃d,ds=d::a.defers/\Bs X.P E.idle d)
  (hf:st2.L[k]? =J (.tuple [])\/dW X st a w I i.op x) (hS:qj z6 X E.lim S E.entry st a w G I N st1 k x w' G' I' N') :
  ∃Ux,Uw X j8 E nt S st w G I N k z6 st2 ({ a with defers:=ds }.put o.dst x) w' Ux I' N' :=by
 simp [mV,c9] at hc;obtain ⟨⟨hc1,oG⟩,Qh⟩:=hc;have hm:=hS.mid;obtain ⟨G2,e1,e2,e3,e4⟩:=RI.after (l:=E.lim) (a:={ a with defers:=ds }) hst hR.size (by rw [htr.U2];exact hR.U2) hk (by rw [htr.fO];exact U8) ho oG hm.ri.defers hm.val hts;have hpv:=PV.after (w' :=w') (I' :=I') (x:=x) (ds:=ds) hst hR hk ho hi oG (λy hy=>CH hD (by simp_all<;>omega)) htr hts (λid hN ht=>by
  obtain ⟨h1,h2⟩:=hm.ko id hN ht;simp_all) hf
 refine ⟨G2,⟨e4,hpv,?_,?_,?_,?_,?_,?_,?_⟩,⟨?_,?_,?_,?_,?_,?_⟩,?_,hS.old⟩
 .intro j ai y hj hai hop
  have lift:rK X S y->rK X (λj=>S j\/j=k) y:=by
   intro h;cases y with
   |loc m=>exact ⟨Or.inl h.1,h.2⟩
   |slot s=>exact h
   |const v=>trivial
  rcases hj with hj|rfl
  .exact lift (hR.cl j ai y hj hai hop)
  grind [CH]
 .rw [DW hts,htr.U2];exact hR.U2
 .rw [DU hts,htr.fO];exact hR.fO
 .intro id hid;rw [kZ hts];exact hS.Y8 id hid
 .rw [kZ hts];exact p7 hR.Aj hm.len
 .rw [size_put];exact hR.size
 .rw [iZ]
  intro d hd
  rcases hds with rfl|⟨d',rfl,hid⟩
  .exact hR.idle d hd
  .simp [List.mem_cons] at hd
   rcases hd with rfl|hd
   .exact hid
   .exact hR.idle d hd
 .exact hm.ext.trans e1
 .exact hm.aV.trans λid _=>⟨λb hb=>⟨e3 b id hb,rfl⟩,e2 id⟩
 .intro id hid hN;exact hm.inj id hid hN
 .intro id _ hN;exact hm.mono id hN
 .intro id hid hN
  rcases hS.old id (Nat.lt_of_lt_of_le hid hR.Aj) hN with h1|h1
  all_goals grind
 .intro id o' hb ho';rw [kZ hts] at ho';exact hm.hle id o' hb ho'
 .rw [kZ hts];exact hm.len
def sS (hst:Stat X nt)(GG:jR X.P E.cf E.prom)(de:∀f args H lm r,E.cf f args H lm=J r->P5 X.P f=W)(hs:E.lim.strict<=E.lim.base)(RW:E.lim.base<=E.entry)(hR:Rg X j8 E nt S st a w G I N)
  (hD:∀j,d9 j=W->S j) {k:Nat} (hk:¬ S k) {o:Oper} (ho:X.ops[k]? =J o) {i:x9} (hi:j8[k]? =J i) (hc:mV X d9 o i=W) {z6:Option Nat} (hid:i.op.y3=W->ta E.lim st N z6) (hne:∀i,z6=J i->E.entry<=i/\i<O st.H)
  {rs:List Nat} (he:x8 E j8 z6 k i st=J (st2,rs)) (d4:Act->World->Prop) (Q:Exit->Act->World->Prop)
  (hK:∀a' w' G' I' N',Uw X j8 E nt S st w G I N k z6 st2 a' w' G' I' N' ->d4 a' w'):wpOp X.P X.ops Q k d4 a w:=by
 have U8:k<O st.L:=by rw [hR.fO];grind
 have nR :=hc;simp [mV,c9] at nR;obtain ⟨⟨hc1,oG⟩,Qh⟩:=nR;unfold wpOp;simp [ho];unfold x8 at he;split at he
 next hw=>
  rw [if_pos (qd hR hD Qh hw)];split at he
  next st1 Xz hW=>
   split at he
   next av5 hts=>
    refine Or.inl ?_;have hrun:=DK (P:=X.P) GG de rfl hR.ri hR.pv hR.U2 hR.Y8 (p7 RW hR.Aj) hs hD hk U8 hc1 (z6:=z6) hid hW;refine hrun d4 Q ?_;rintro a' w' ⟨x,ds,G',I',N',hF,rfl,hds,hS⟩;have htr:Tr N k st st1:=Tr.B1 hR.Y8 (λi h=>(hne i h).2) (λha=>(hid ha).new) hW;obtain ⟨Ux,hdone⟩:=Rg.after hst hR hD hk U8 ho hi hc (λi h=>(hne i h).1) htr hts hds (Or.inr hF) hS
    grind
   .cases he
  .cases he
 .rw [if_neg (by grind [qd])]
  split at he
  next av5 hts=>
   cases he;have htr:Tr N k st (put st k (.tuple [])):=Tr.put _;have hS:qj z6 X E.lim S E.entry st a w G I N (put st k (.tuple [])) k undef w G I N :=
    qj.gE hR.Y8 (Z6.same hR.ri hk U8 E.entry (by exact ⟨#[],rfl,by simp [H6]⟩))
   have hL:st2.L[k]? =J (.tuple []):=by
    grind [P3,put,E2]
   obtain ⟨Ux,hdone⟩:=Rg.after hst hR hD hk U8 ho hi hc (λi h=>(hne i h).1) htr hts (Or.inl rfl) (Or.inl hL) hS;exact hK _ _ _ _ _ hdone
  .cases he
 .cases he
def iW (X:Cx):List x9->Nat->Bool
 |[],k=>X.ops.size==k
 |i::is,k=>(match X.ops[k]? with
  |some o=>mV X (λj=>decide (j<k)) o i
  |none=>F)&&iW X is (k+1)
structure Fin (X:Cx)(j8:List x9)(E:Env)(nt:Nat)(st0:F5)(w:World)(G:Gh)(I:O5)(N:Nat->Prop)(st2:F5)(a' :Act)(w' :World)(G' :Gh)(I' :O5)(N' :Nat->Prop):Prop where
 rg:Rg X j8 E nt (λj=>j<O j8) st2 a' w' G' I' N'
 since:W2 E st0.H w G I N st2.H w' G' I' N'
def Rg.congr {S' :Nat->Prop}(h:Rg X j8 E nt S st a w G I N)(hS:∀j,S j↔S' j):Rg X j8 E nt S' st a w G I N:=by
 have:S=S' :=funext λj=>propext (hS j)
 simp_all
def AS (hst:Stat X nt)(GG:jR X.P E.cf E.prom)(de:∀f args H lm r,E.cf f args H lm=J r->P5 X.P f=W)(hs:E.lim.strict<=E.lim.base)(RW:E.lim.base<=E.entry)(Q:Exit->Act->World->Prop) :
  ∀(is:List x9) (k:Nat),j8.drop k=is->k<=O j8->iW X is k=W->∀(st:F5) (a:Act) (w:World) (G:Gh) (I:O5) (N:Nat->Prop) (st2:F5),Rg X j8 E nt (λj=>j<k) st a w G I N->eH E j8 is k st=J st2 ->
   (∀a' w' G' I' N',Fin X j8 E nt st w G I N st2 a' w' G' I' N' ->Q .normal a' w')->wpOps X.P X.ops Q (List.range' k (O is)) a w:=by
 intro is
 induction is with
 |nil =>
  intro k hd hk _ st a w G I N st2 hR hrun hQ;cases hrun;have U8:O j8=k:=by
   simp_all [List.length]<;>omega
  exact hQ _ _ _ _ _ ⟨M,W2.refl _ _ _ _ _ _⟩
 |cons i is ih =>
  intro k hd hk hc st a w G I N st2 hR hrun hQ;have hi:j8[k]? =J i:=by
   have:(j8.drop k)[0]? =J i:=by rw [hd];rfl
   grind
  have hd' :j8.drop (k+1)=is:=by
   have:=congrArg (List.drop 1) hd
   grind [List.drop_drop]
  simp [iW,c9] at hc;obtain ⟨hc1,oG⟩:=hc;simp [eH] at hrun;split at hrun
  next st1 rs hstep=>
   cases ho:X.ops[k]? with
   |none=>simp_all
   |some o =>
    rw [ho] at hc1;simp [o8];refine sS hst GG de hs RW hR (d9:=λj=>decide (j<k)) (λj hj=>M) (Nat.lt_irrefl k) ho hi hc1 (z6:=K) (λ_=>?_) (λi h=>by cases h) hstep _ _ ?_
    .exact ⟨(λhN=>by have:=hR.Y8 _ hN;grind [newId]),(λi h=>by cases h),by exact p7 RW hR.Aj,by exact p7 hs (p7 RW hR.Aj)⟩
    .intro a' w' G' I' N' hdone
     refine ih (k+1) hd' (y8 hi) oG st1 a' w' G' I' N' st2 (hdone.rg.congr λj=>V) hrun ?_;intro a'' w'' Ux I'' N'' qI;exact hQ _ _ _ _ _ ⟨qI.rg,hdone.since.trans qI.since⟩
  .cases hrun
end
end Go.y9
namespace Go.y9
variable [D2]
def A3.aQ:A3->List Nat
 | .loc j=>[j]
 |_=>[]
def A3.slots:A3->List Nat
 | .slot s=>[s]
 |_=>[]
def F0.M9:F0->List A3
 | .dJ x=>[x]
 | .pick c a b=>[c,a,b]
 | .alloc _=>[]
 | .box x=>[x]
 | .build _ parts=>parts.map (·.2.2)
 | .M8 _ _ _ parts _=>parts.map (·.2.2)
 | .gw _ _ x y=>[x,y]
 | .load _ x=>[x]
 | .store _ a x=>[a,x]
 | .oT x=>[x]
 | .bin _ x y=>[x,y]
 | .un _ x=>[x]
 | .xJ _ x=>[x]
 | .x4 _ x y=>[x,y]
 | .NL _ _ x y=>[x,y]
 | .ox _ x=>[x]
 | .kz x=>[x]
 | .bE _ x lo hi=>x::(lo.toList++hi.toList)
 | .off _ x=>[x]
 | .gN _ x i=>[x,i]
 | .tw _ _ x i=>[x,i]
 | .F7 x i=>[x,i]
 | .extract x _=>[x]
 | .NR x _=>[x]
 | .len x=>[x]
 | .U2 x=>[x]
 | .append _ _ _ x y=>[x,y]
 | .M3 _ _ x y=>[x,y]
 | .gQ _ xs=>xs
 | .clear _ _ x=>[x]
 | .jk _ first caps=>first++caps
 | .call _ xs=>xs
 | .bJ x xs=>x::xs
 | .makeMap=>[]
 | .mW _=>[]
 | .own _ x=>[x]
 | .lookup _ _ _ m k=>[m,k]
 | .dI _ m k v=>[m,k,v]
 | .defer x=>[x]
 | .bad=>[]
def bf (j8:List x9)(i:x9):List Nat :=
 (i.op.M9.flatMap A3.aQ)++(match i.guard with|some (g,_)=>[g]|none=>[]) ++
 (match i.op with
  | .append _ _ _ (.loc j) _=>(match j8[j]? with|some a=>a.op.M9.flatMap A3.aQ|none=>[])
  | .M3 _ _ (.loc j) _=>(match j8[j]? with|some a=>a.op.M9.flatMap A3.aQ|none=>[])
  | .own _ (.loc j)=>(match j8[j]? with|some a=>a.op.M9.flatMap A3.aQ|none=>[])
  |_=>[])
def cn (i:x9):List Nat:=i.op.M9.flatMap A3.slots
def Q9 {α β:Type}{f g:α->β}{l:List α}(h:∀x,x∈l->f x=g x):l.map f=l.map g:=List.map_congr_left h
def gD {ρ ρ' :A3->c7}{ps:List (Nat×Nat×A3)}(h:∀x,x∈ps.map (·.2.2)->ρ' x=ρ x):(ps.map λ(o,s,x)=>(o,s,ρ' x))=ps.map λ(o,s,x)=>(o,s,ρ x):=by
 grind [List.map_congr_left]
def rP {ρ ρ' :A3->c7}{d:Nat}{o:Option A3}(h:∀x,x∈o.toList->ρ' x=ρ x):S6 ρ' d o=S6 ρ d o:=by
 simp_all [S6]<;>grind
def jo {ρ ρ' :A3->c7}{H:k9}{op:F0}(h:∀x,x∈op.M9->ρ' x=ρ x):l5 ρ' H op=l5 ρ H op:=by
 cases op<;>simp only [F0.M9] at h
 case build=>simp only [l5,gD h]
 case M8 sz len zero parts ob=>cases ob<;>simp only [l5,gD h]
 case gQ isMax xs=>simp only [l5,Q9 h]
 case jk f first caps =>
  simp only [l5];rw [Q9 (l:=first) λx hx=>h x (by simp [hx]),Q9 (l:=caps) λx hx=>h x (by simp [hx])]
 case bE sz x lo hi =>
  have h1:=h x U;have h2:∀d,S6 ρ' d lo=S6 ρ d lo:=λd=>rP λy hy=>h y (by simp at hy ⊢;simp [hy])
  have h3:∀d,S6 ρ' d hi=S6 ρ d hi:=λd=>rP λy hy=>h y (by simp at hy ⊢;simp [hy])
  simp only [l5,h1,h2,h3]
 case load n x=>cases n<;>simp only [l5,h x U]
 case pick c a b=>simp only [l5,h c U,h a U,h b U]
 case bin b x y=>simp only [l5,h x U,h y U]
 case x4 b x y=>simp only [l5,h x U,h y U]
 case NL b ks x y=>simp only [l5,h x U,h y U]
 case gN s x y=>simp only [l5,h x U,h y U]
 case tw n s x y=>simp only [l5,h x U,h y U]
 case F7 x y=>simp only [l5,h x U,h y U]
 case lookup kk z ok x y=>simp only [l5,h x U,h y U]
 case oT x=>simp only [l5,h x U]
 case un b x=>simp only [l5,h x U]
 case xJ b x=>simp only [l5,h x U]
 case ox k x=>simp only [l5,h x U]
 case kz x=>simp only [l5,h x U]
 case off k x=>simp only [l5,h x U]
 case extract x i=>simp only [l5,h x U]
 case NR x i=>simp only [l5,h x U]
 case len x=>simp only [l5,h x U]
 case U2 x=>simp only [l5,h x U]
 all_goals rfl
def O1:Option s6->Option s6->Prop
 |some (.cells l),J (.cells l')=>l.map c7.I7=l'.map c7.I7
 |a,b=>a=b
theorem O1.refl (o:Option s6):O1 o o:=by
 simp_all [O1]<;>grind
def O1.symm {a b:Option s6}(h:O1 a b):O1 b a:=by
 simp_all [O1,absurd]<;>grind
theorem O1.trans {a b c:Option s6}(h:O1 a b)(k:O1 b c):O1 a c:=by
 simp_all [O1]<;>grind
def QX {H H' :k9}{id off n:Nat}(h:O1 H'[id]? H[id]?){vs:List c7}(hr:rd H id off n=J vs):∃vs',rd H' id off n=J vs' /\vs'.map c7.I7=vs.map c7.I7:=by
 unfold rd at hr ⊢;split at hr
 next l hl=>
  split at hr
  .cases hr
   rw [hl] at h;cases h' :H'[id]? with
   |none=>simp_all [O1]
   |some o =>
    rw [h'] at h;cases o with
    |cells l' =>
     have h:l'.map c7.I7=l.map c7.I7:=by grind [O1]
     have Yb:O l'=O l:=by simpa using congrArg List.length h
     simp_all
    |dead=>simp [O1] at h
    |map es=>simp [O1] at h
  .cases hr
 .cases hr
def Dp {ρ:A3->c7}{H H' :k9}{op:F0}{v:c7}{rs:List Nat}(h:l5 ρ H op=J (v,rs))(hr:∀id,id∈rs->O1 H'[id]? H[id]?):l5 ρ H' op=J (v,rs):=by
 cases op
 case load n x =>
  cases n with
  |none =>
   simp only [l5] at h ⊢;split at h
   next id off hp=>
    split at h
    next u hu=>
     cases h;obtain ⟨vs',h1,h2⟩:=QX (hr id U) hu;obtain ⟨u',rfl⟩:∃u',vs' =[u']:=by
      have:=congrArg List.length h2;simp at this;exact List.length_eq_one_iff.1 this
     simp at h2;simp only [h1,h2]
    .cases h
   .exact h
   .cases h
  |some n =>
   simp only [l5] at h ⊢;split at h
   next id off hp=>
    split at h
    next us hu=>
     cases h;obtain ⟨vs',h1,h2⟩:=QX (hr id U) hu;simp only [h1,h2]
    .cases h
   .exact h
   .cases h
 case lookup kk zero ok m k =>
  simp only [l5] at h ⊢;split at h
  next id key hp hq=>
   split at h
   next es Nh=>
    split at h
    next hf hft=>
     cases h;have:=hr id U;rw [Nh] at this;have h' :H'[id]? =J (.map es):=by
      cases h' :H'[id]? with
      |none=>rw [h'] at this;simp [O1] at this
      |some o=>rw [h'] at this;cases o<;>simp_all [O1]
     simp only [h',hf,hft]
    .cases h
   .cases h
  .exact h
  .cases h
 case M8 sz len zero parts ob=>cases ob<;>exact h
 all_goals exact h
structure Still (k:Nat)(dst z6:Option Nat)(d:List Touch)(st st' :F5):Prop where
 L:∀m,m≠k->(st'.L.getD m .any).I7=(st.L.getD m .any).I7
 Gb:∀m,m≠k->∀b,st'.L[m]? =J (c7.d (.bool b))↔st.L[m]? =J (c7.d (.bool b))
 Gt:∀m,m≠k->(st'.L[m]? =J (c7.tuple [])↔st.L[m]? =J (c7.tuple []))
 T:∀s,dst≠J s->(st'.T.getD s .any).I7=(st.T.getD s .any).I7
 l6:st'.l6=d++st.l6
 H:∀id:Nat,d.any (Touch.E3 id)=F->z6≠J id->O1 st'.H[id]? st.H[id]?
 Fl:O st.H<=O st'.H
 fO:O st'.L=O st.L
 U2:O st'.T=O st.T
section
variable {k:Nat} {dst z6:Option Nat} {d d1 d2:List Touch} {st st1 st' :F5}
theorem Still.refl (k:Nat)(dst z6:Option Nat)(st:F5):Still k dst z6 [] st st :=
 ⟨λ_ _=>rfl,λ_ _ _=>Iff.rfl,λ_ _=>Iff.rfl,λ_ _=>rfl,rfl,λ_ _ _=>O1.refl _,j9 _,rfl,rfl⟩
theorem Still.trans (h:Still k dst z6 d1 st st1)(g:Still k dst z6 d2 st1 st'):Still k dst z6 (d2++d1) st st' where
 L m hm:=(g.L m hm).trans (h.L m hm)
 Gb m hm b:=(g.Gb m hm b).trans (h.Gb m hm b)
 Gt m hm:=(g.Gt m hm).trans (h.Gt m hm)
 T s hs:=(g.T s hs).trans (h.T s hs)
 l6:=by rw [g.l6,h.l6,G8]
 H id hd hn:=by
  simp only [List.any_append,C7] at hd;exact (g.H id hd.1 hn).trans (h.H id hd.2 hn)
 Fl:=p7 h.Fl g.Fl
 fO:=g.fO.trans h.fO
 U2:=g.U2.trans h.U2
theorem Still.put (v:c7):Still k dst z6 [] st (put st k v) where
 L m hm:=by grind [y9.put,L5]
 Gb m hm b:=by grind [y9.put,x5]
 Gt m hm:=by grind [y9.put,x5]
 T _ _:=rfl
 l6:=rfl
 H _ _ _:=O1.refl _
 Fl:=j9 _
 fO:=by simp [y9.put]
 U2:=rfl
def Still.A8 {j z n:Nat}{c:List Data}(hj:st.L[j]? =J (.own z n c)):Still k dst z6 [] st { st with L:=st.L.set j (.d (.slice n c)) } where
 L m _:=by
  by_cases e:j=m
  .subst e
   rw [K5 _ _ _ _ (y8 hj),Y3 hj];rfl
  simp_all
 Gb m _ b:=by
  grind
 Gt m _:=by
  grind
 T _ _:=rfl
 l6:=rfl
 H _ _ _:=O1.refl _
 Fl:=j9 _
 fO:=U
 U2:=rfl
theorem Still.E2 (y:A3):Still k dst z6 [] st (E2 st y).2:=by
 cases y with
 |loc j =>
  simp only [y9.E2];split
  next hj=>
   exact Still.A8 hj
  .exact Still.refl _ _ _ _
  .exact Still.refl _ _ _ _
 |slot s=>exact Still.refl _ _ _ _
 |const v=>exact Still.refl _ _ _ _
def Still.heap {H' :k9}(h2:∀id:Nat,d.any (Touch.E3 id)=F->z6≠J id->O1 H'[id]? st.H[id]?)(hl:O st.H<=O H'):Still k dst z6 d st { st with H:=H',l6:=d++st.l6 } :=
 ⟨λ_ _=>rfl,λ_ _ _=>Iff.rfl,λ_ _=>Iff.rfl,λ_ _=>rfl,rfl,h2,hl,rfl,rfl⟩
def Still.newObj {i:Nat}(o:s6):Still k dst (J i) [] st (C8 st (J i) o) :=
 ⟨λ_ _=>rfl,λ_ _ _=>Iff.rfl,λ_ _=>Iff.rfl,λ_ _=>rfl,rfl,λid _ hn=>by
  simp_all [C8,x5,O1.refl],(by simp [C8]),rfl,rfl⟩
theorem Still.W0 {l:F9}{sz len:Nat}{cells:List Data}{op:F0}(h:W0 l st sz op=J (len,cells,st')):∃d,Still k dst z6 d st st' :=by
 unfold y9.W0 at h;split at h
 next s=>
  split at h
  .cases h
  .split at h
   next hs=>
    split at h
    .cases h
     refine ⟨[.slot s],λ_ _=>rfl,λ_ _ _=>Iff.rfl,λ_ _=>Iff.rfl,λs' _=>?_,rfl,λ_ _ _=>O1.refl _,j9 _,rfl,U⟩
     by_cases e:s=s'
     .subst e
      rw [K5 _ _ _ _ (y8 hs),Y3 hs];rfl
     simp_all
    .cases h
   .cases h
 .split at h
  next id off Oe=>
   split at h
   .cases h
   .split at h
    next cs hcs=>
     split at h
     next Bk=>
      split at h
      .cases h
       refine ⟨[.cell id off],Still.heap (λid' _ _=>?_) U⟩
       by_cases he:id=id'
       .subst he
        rw [E0 (y8 hcs),hcs];apply List.ext_getElem?;intro n;simp only [List.getElem?_map]
        by_cases e:off=n
        .subst e
         rw [E0 (y8 Bk),Bk];rfl
        simp_all
       simp_all [x5,O1.refl]
      .cases h
     .cases h
    .cases h
  .cases h
 .cases h
theorem Still.O6 {l:F9}{j8:List x9}{sz len:Nat}{cells:List Data}{y:A3}(h:O6 l j8 st sz y=J (len,cells,st')):∃d,Still k dst z6 d st st' :=by
 unfold y9.O6 at h;split at h
 .split at h
  .cases h;exact ⟨[],Still.refl _ _ _ _⟩
  .cases h
 .cases h
 .cases h
 .split at h
  next hj=>
   split at h
   .cases h
    exact ⟨[],Still.A8 hj⟩
   .cases h
  .split at h
   .exact Still.W0 h
   .cases h
  .cases h
theorem Still.B7 {E:Env}{f:FuncId}{args:List c7}(h:B7 E k f args st=J st'):∃d,Still k dst K d st st' :=by
 unfold y9.B7 at h;split at h
 .split at h
  next v H1 _=>
   split at h
   next hlen=>
    cases h;refine ⟨[]++[.below (O H1)],Still.trans (Still.heap (λid hd _=>?_) hlen) (Still.put _)⟩
    grind [Touch.E3,List.getElem?_eq_none,O1.refl]
   .cases h
  .cases h
 .simp only at h
  generalize D4 st.H E.lim.strict 8 (A2 args)=n at h;generalize (args.headD .any).F4=m at h;split at h
  .split at h
   .split at h
    .split at h
     .cases h
      refine ⟨[]++[.below n],Still.trans (Still.heap (λid hd _=>?_) D) (Still.put _)⟩;simp_all [Touch.E3,s5,List.getElem?_drop,O1.refl]
     .cases h
    .cases h
   .split at h
    .split at h
     .cases h
      exact ⟨_,Still.put _⟩
     .cases h
    .cases h
   .split at h
    .split at h
     .cases h
      refine ⟨[]++[.below m],Still.trans (Still.heap (λid hd _=>?_) D) (Still.put _)⟩;simp_all [Touch.E3,s5,List.getElem?_drop,List.take,O1.refl]
     .cases h
    .cases h
  .cases h
def MY {H H' :k9}{id off:Nat}{vs:List c7}(h:wr H id off vs=J H'):O H'=O H:=by
 grind [wr]
theorem Still.O4 {E:Env}{n:Nat}{a:c7}{x:A3}(h:O4 E k n st a x=J st'):∃d,Still k dst K d st st' :=by
 unfold y9.O4 at h;split at h
 next id off=>
  split at h
  .split at h
   .split at h
    next H' hw=>
     cases h;refine ⟨[]++([.obj id]++[]),Still.trans (Still.trans (Still.E2 x) (Still.heap (λid' hd _=>?_) (by rw [MY hw];omega))) (Still.put _)⟩
     grind [qg,O1.refl,Touch.E3]
    .cases h
   .cases h
  .cases h
 .cases h
theorem Still.T6 {E:Env}{sz:Nat}{zero:List c7}{a:c7}(h:T6 E k sz zero st a=J st'):∃d,Still k dst K d st st' :=by
 unfold y9.T6 at h;split at h
 next id z lo len=>
  split at h
  .split at h
   next H' hw=>
    cases h;refine ⟨[]++[.obj id],Still.trans (Still.heap (λid' hd _=>?_) (by rw [MY hw];omega)) (Still.put _)⟩
    grind [qg,O1.refl,Touch.E3]
   .cases h
  .cases h
 .cases h
  exact ⟨_,Still.put _⟩
 .cases h
theorem Still.Q6 {E:Env}{kk:KK}{m key v:c7}(h:Q6 E k kk st m key v=J st'):∃d,Still k dst K d st st' :=by
 unfold y9.Q6 at h;split at h
 next id kd _=>
  split at h
  .split at h
   .split at h
    .split at h
     .cases h
      refine ⟨[]++[.obj id],Still.trans (Still.heap (λid' hd _=>?_) U) (Still.put _)⟩;rw [x5]
      .exact O1.refl _
      .rintro rfl
       simp [Touch.E3] at hd
     .cases h
    .cases h
   .cases h
  .cases h
 .cases h
theorem Still.B9 {E:Env}{j8:List x9}{op:F0}(hk:F2 st op=F)(hn:z6.isSome=op.y3)(h:B9 E j8 z6 k st op=J st'):∃d,Still k dst z6 d st st' :=by
 cases op<;>simp only [y9.B9] at h<;>try (cases h;done)
 all_goals (simp only [F0.y3] at hn)
 case alloc zero =>
  obtain ⟨i,rfl⟩:=Option.isSome_iff_exists.1 hn;cases h;exact ⟨_,(Still.newObj _).trans (Still.put _)⟩
 case box x =>
  obtain ⟨i,rfl⟩:=Option.isSome_iff_exists.1 hn;split at h
  .cases h;exact ⟨_,(Still.newObj _).trans (Still.put _)⟩
  .cases h
 case mW x =>
  cases h;exact ⟨_,Still.put _⟩
 case own sz x =>
  split at h
  next ht=>
   obtain ⟨d,hd⟩:=Still.O6 (k:=k) (dst:=dst) (z6:=z6) ht;cases h;exact ⟨_,hd.trans (Still.put _)⟩
  .cases h
 case makeMap =>
  obtain ⟨i,rfl⟩:=Option.isSome_iff_exists.1 hn;cases h;exact ⟨_,(Still.newObj _).trans (Still.put _)⟩
 case gw sz zero x y =>
  obtain ⟨i,rfl⟩:=Option.isSome_iff_exists.1 hn;split at h
  .cases h;exact ⟨_,(Still.newObj _).trans (Still.put _)⟩
  .cases h
 case M8 sz len zero parts ob =>
  cases ob
  .cases h
  .obtain ⟨i,rfl⟩:=Option.isSome_iff_exists.1 hn
   simp only at h;split at h
   .split at h
    .cases h;exact ⟨_,(Still.newObj _).trans (Still.put _)⟩
    .cases h
   .cases h
 case store n a x =>
  have:z6=K:=by simpa using hn
  subst this;exact Still.O4 h
 case M3 sz bytes x y =>
  have:z6=K:=by simpa using hn
  subst this;obtain ⟨s,hs,rfl⟩:=jU h;have hnew:∀(H' :k9) (o:s6) (V8 :List Touch) (d:List Touch) (v:c7),V8 =d++st.l6->O H'=O st.H->(∀id:Nat,d.any (Touch.E3 id)=F->O1 H'[id]? st.H[id]?) ->
    ∃d',Still k dst K d' st { (y9.put (C8 { st with H:=H',l6:=V8 } K o) k v) with l6:= .obj (O st.H)::V8 }:=by
   intro H' o V8 d v ht hl hH;subst ht;refine ⟨[]++(.obj (O st.H)::d),Still.trans (Still.heap (H' :=H' ++[o]) (λid hd _=>?_) (by simp [hl])) (Still.put v)⟩;simp only [List.any_cons,C7] at hd;have hne:id≠O st.H:=by rintro rfl;simp [Touch.E3] at hd
   rcases y7 id (O st.H) with h1|h1
   .rw [s9 V]
    exact hH id hd.2
   .rw [List.getElem?_eq_none D,List.getElem?_eq_none h1]
    exact O1.refl _
  split at hs
  .split at hs
   next id _ _ _ _ _=>
    unfold y9.Q0 at hs;split at hs
    .split at hs
     .split at hs
      .cases hs
       exact hnew _ _ _ [.obj id] _ rfl U λid' hd=>by
        rw [x5]
        .exact O1.refl _
        .rintro rfl
         simp [Touch.E3] at hd
      .cases hs
     .cases hs
    .cases hs
   .cases hs
  .unfold y9.J1 at hs
   simp only [if_true] at hs;split at hs
   .split at hs
    .split at hs
     .cases hs
      exact ⟨[]++[.obj (O st.H)],Still.trans (Still.heap (H' :=st.H) (λ_ _ _=>O1.refl _) (j9 _)) (Still.put _)⟩
     .cases hs
      exact hnew st.H _ st.l6 [] _ rfl rfl λ_ _=>O1.refl _
    .cases hs
   .cases hs
 case append sz bytes ob x y =>
  split at h
  next hx=>
   simp [F2,hx] at hk
  .cases ob with
   |true =>
    obtain ⟨i,rfl⟩:=Option.isSome_iff_exists.1 hn;unfold y9.J1 at h;simp only [if_true] at h;split at h
    .split at h
     .split at h
      .cases h;exact ⟨_,Still.put _⟩
      .cases h;exact ⟨_,(Still.newObj _).trans (Still.put _)⟩
     .cases h
    .cases h
   |false =>
    have:z6=K:=by simpa using hn
    subst this;unfold y9.J1 at h;simp only [j6,if_false] at h;split at h
    .split at h
     .split at h
      next ht=>
       split at h
       .cases h
        obtain ⟨d,hd⟩:=Still.O6 (k:=k) (dst:=dst) (z6:=K) ht;exact ⟨_,hd.trans (Still.put _)⟩
       .cases h
      .cases h
     .cases h
    .cases h
 case clear sz zero x =>
  have:z6=K:=by simpa using hn
  subst this;exact Still.T6 h
 case call f xs =>
  have:z6=K:=by simpa using hn
  subst this;exact Still.B7 h
 case bJ x xs =>
  have:z6=K:=by simpa using hn
  subst this;split at h
  .exact Still.B7 h
  .cases h
 case dI =>
  have:z6=K:=by simpa using hn
  subst this;exact Still.Q6 h
 case defer x =>
  split at h
  .split at h
   .cases h;exact ⟨_,Still.put _⟩
   .cases h
  .cases h
theorem Still.C9 {am7 :Option Nat}(h:s8 am7 st k dst=J st'):∃d,Still k dst z6 d st st' :=by
 rcases P3 h with ⟨_,rfl⟩|⟨s,l6,rfl,_,rfl,Fe⟩
 .exact ⟨_,Still.refl _ _ _ _⟩
 .have hx:=Still.E2 (k:=k) (dst:=J s) (z6:=z6) (st:=st) (.loc k)
  have key:∀d,l6=d++st.l6->Still k (J s) z6 d st { (y9.E2 st (.loc k)).2 with T:=st.T.set s (y9.E2 st (.loc k)).1,l6 }:=by
   intro d hd;refine ⟨hx.L,hx.Gb,hx.Gt,λs' hs=>?_,hd,λid _ hn=>hx.H id rfl hn,hx.Fl,hx.fO,U⟩;simp_all
  rcases Fe with rfl|⟨rfl,_⟩
  .exact ⟨[.slot s],key _ rfl⟩
  .exact ⟨[],key _ rfl⟩
theorem Still.x8 {E:Env}{j8:List x9}{i:x9}{rs:List Nat}(hk:F2 st i.op=F)(hn:z6.isSome=i.op.y3)(h:x8 E j8 z6 k i st=J (st',rs)):∃d,Still k i.dst z6 d st st' :=by
 unfold y9.x8 at h;split at h
 .split at h
  next st1 Xz hW=>
   split at h
   next st2 hts=>
    cases h;have h1:∃d,Still k i.dst z6 d st st1:=by
     unfold y9.B1 at hW;split at hW
     .split at hW
      next he=>
       cases hW;exact Still.B9 hk hn he
      .cases hW
     .split at hW
      .cases hW
       exact ⟨_,(Still.E2 _).trans (Still.put _)⟩
      .split at hW
       .cases hW
        exact ⟨_,Still.put _⟩
       .cases hW
    obtain ⟨d1,h1⟩:=h1;obtain ⟨d2,h2⟩:=Still.C9 (z6:=z6) hts;exact ⟨_,h1.trans h2⟩
   .cases h
  .cases h
 .split at h
  next hts=>
   cases h;obtain ⟨d2,h2⟩:=Still.C9 (z6:=z6) hts;exact ⟨_,(Still.put _).trans h2⟩
  .cases h
 .cases h
theorem Still.F1 (h:Still k dst z6 d st st'){x:A3}(hl:k∉x.aQ)(ht:∀s,s∈x.slots->dst≠J s):F1 st'.T st'.L x=F1 st.T st.L x:=by
 cases x with
 |loc j =>
  exact h.L j (λe=>hl (by simp [A3.aQ,e]))
 |slot s =>
  exact h.T s (ht s (by simp [A3.slots]))
 |const v=>rfl
def Still.wanted (h:Still k dst z6 d st st'){g:Option (Nat×Bool)}(hg:∀j b,g=J (j,b)->j≠k):y5 st'.L g=y5 st.L g:=by
 cases g with
 |none=>rfl
 |some p =>
  obtain ⟨j,want⟩:=p;have hj:=hg j want rfl;have h1:=h.Gb j hj;have h2:=h.Gt j hj
  grind [y5,absurd]
theorem Still.Co {E:Env}{i:x9}{rs:List Nat}(h:Still k dst z6 d st st'):(T0 E i z6 st st' rs).Co=W8 z6++d:=by
 simp only [T0,h.l6];simp
def Still.reads {E:Env}{i:x9}{rs:List Nat}(h:Still k dst z6 d st st'){ids:List Nat}(hh:E6 (T0 E i z6 st st' rs).Co ids=F){id:Nat}(hid:id∈ids):O1 st'.H[id]? st.H[id]? :=by
 rw [h.Co] at hh;unfold E6 at hh;have hno:∀t,t∈(W8 z6++d:List Touch)->t.E3 id=F:=by
  grind
 refine h.H id ?_ ?_
 all_goals grind [List.any_eq_false,W8,Touch.E3]
end
end Go.y9
namespace Go.y9
variable [D2]
section
variable {E:Env} {j8:List x9} {z6:Option Nat} {k q:Nat} {v:c7} {st st1 st2 st' :F5}
theorem lP {x:A3}(h:q∉x.aQ):F1 (put st q v).T (put st q v).L x=F1 st.T st.L x:=by
 simp_all [F1,put,A3.aQ]<;>grind
theorem put_comm (h:q≠k)(u:c7):put (put st q v) k u=put (put st k u) q v:=by
 simp_all [put,List.set_comm]
theorem jv {l:List c7}{q j:Nat}(h:q≠j)(v:c7):(l.set q v)[j]? =l[j]? :=x5 h
def wW {x:A3}(h:q∉x.aQ):E2 (put st q v) x=((E2 st x).1,put (E2 st x).2 q v):=by
 cases x with
 |loc j =>
  grind [A3.aQ,E2,put,jv,F1,List.getD,List.set_comm]
 |slot s=>rfl
 |const c=>rfl
theorem bX (o:s6):C8 (put st q v) z6 o=put (C8 st z6 o) q v:=by cases z6<;>rfl
theorem fB:newId (put st q v) z6=newId st z6:=rfl
def zo {x:A3}(h:q∉x.aQ):Y9 (put st q v) x=Y9 st x:=by
 simp_all [A3.aQ,Y9,put]<;>grind
def DO {l:F9}{sz:Nat}{op:F0}(h:q∉op.M9.flatMap A3.aQ):W0 l (put st q v) sz op=(W0 l st sz op).map λp=>(p.1,p.2.1,put p.2.2 q v):=by
 unfold W0;split
 .have e1:(put st q v).l6=st.l6:=rfl
  have e2:(put st q v).T=st.T:=rfl;simp [e1,e2];split
  .rfl
  .split
   .split
    all_goals rfl
   .rfl
 next x=>
  have hx:q∉x.aQ:=λe=>h (by simp [F0.M9,e])
  rw [zo hx];have e1:(put st q v).l6=st.l6:=rfl;have e2:(put st q v).H=st.H:=rfl;split
  .simp [e1,e2]
   split
   .rfl
   .split
    .split
     .split
      all_goals rfl
     .rfl
    .rfl
  .rfl
 .rfl
def sV {l:F9}{sz:Nat}{x:A3}(h:q∉x.aQ)(h2:∀j a,x= .loc j->j8[j]? =J a->q∉a.op.M9.flatMap A3.aQ) :
  O6 l j8 (put st q v) sz x=(O6 l j8 st sz x).map λp=>(p.1,p.2.1,put p.2.2 q v):=by
 cases x with
 |const c =>
  unfold O6;cases c<;>first|rfl|skip
  simp_all
 |slot s=>rfl
 |loc j =>
  have hj:q≠j:=λe=>h (by simp [A3.aQ,e])
  have e:(put st q v).L[j]? =st.L[j]? :=by simp_all [put,jv]
  simp [O6];rw [e];cases hl:st.L[j]? with
  |none=>rfl
  |some b =>
   cases b with
   |own z len cells =>
    grind [put,List.set_comm]
   |d x =>
    cases x with
    |slice n c =>
     cases ha:j8[j]? with
     |none=>rfl
     |some a=>simp_all [DO]
    |_=>rfl
   |_=>rfl
def rR (h:q≠k){f:FuncId}{args:List c7}:B7 E k f args (put st q v)=(B7 E k f args st).map λs=>put s q v:=by
 have e1:(put st q v).H=st.H:=rfl;have e2:(put st q v).l6=st.l6:=rfl;have key:∀(H:k9) (t:List Touch) (u:c7),put { put st q v with H:=H,l6:=t } k u=put (put { st with H:=H,l6:=t } k u) q v:=by
  simp_all [put,List.set_comm]
 unfold B7;simp [e1];split
 .split
  all_goals simp_all
 .split
  .split
   .split
    all_goals simp_all
   .split
    all_goals simp_all
   .split
    all_goals simp_all
  .rfl
def Bc (h:q≠k){n:Nat}{a:c7}{x:A3}(hx:q∉x.aQ):O4 E k n (put st q v) a x=(O4 E k n st a x).map λs=>put s q v:=by
 unfold O4;simp [wW hx];cases a with
 |ptr id off =>
  simp only;split
  .split
   .have e:(put (E2 st x).2 q v).H=(E2 st x).2.H:=rfl
    split
    all_goals simp_all [put,B6,List.set_comm]
   .rfl
  .rfl
 |_=>rfl
def zY (h:q≠k){sz:Nat}{zero:List c7}{a:c7}:T6 E k sz zero (put st q v) a=(T6 E k sz zero st a).map λs=>put s q v:=by
 have e:(put st q v).H=st.H:=rfl;unfold T6;split
 .split
  .split
   all_goals grind [put,List.set_comm]
  .rfl
 all_goals grind [put_comm]
def xG (h:q≠k){kk:KK}{m key x:c7}:Q6 E k kk (put st q v) m key x=(Q6 E k kk st m key x).map λs=>put s q v:=by
 have e:(put st q v).H=st.H:=rfl;unfold Q6;split
 .rw [e]
  split
  .split
   .split
    .split
     .simp only [put,B6]
      congr 2
      exact List.set_comm _ _ h
     .rfl
    .rfl
   .rfl
  .rfl
 .rfl
theorem Fq {l:F9}{op:F0}(h:q∉op.M9.flatMap A3.aQ):eG l (put st q v) op=eG l st op:=by
 unfold eG;split
 .rfl
 next x=>
  have hx:q∉x.aQ:=λe=>h (by simp [F0.M9,e])
  rw [zo hx];rfl
 .rfl
def Iz {l:F9}{x:A3}(h:q∉x.aQ)(h2:∀j a,x= .loc j->j8[j]? =J a->q∉a.op.M9.flatMap A3.aQ):isNil l j8 (put st q v) x=isNil l j8 st x:=by
 cases x with
 |const c=>cases c<;>rfl
 |slot s=>rfl
 |loc j =>
  grind [A3.aQ,put,jv,isNil,Fq]
def mC (h:q≠k){sz bytes:Nat}{ob:Bool}{x:A3}{y:c7}(hx:q∉x.aQ)(h2:∀j a,x= .loc j->j8[j]? =J a->q∉a.op.M9.flatMap A3.aQ) :
  J1 E j8 z6 k sz bytes ob (put st q v) x y=(J1 E j8 z6 k sz bytes ob st x y).map λs=>put s q v:=by
 have e:(put st q v).H=st.H:=rfl;unfold J1;rw [e,Iz hx h2,sV hx h2];split
 .split
  .grind [put_comm,bX,fB]
  .split
   all_goals grind [O6,put_comm]
 .rfl
theorem L7 {i:x9}{x:A3}(hx:x∈i.op.M9)(h:q∉bf j8 i):q∉x.aQ:=by
 simp_all [bf,G8,List.mem_append_left,List.mem_flatMap]
def bw {i:x9}{g:Nat}{b:Bool}(hg:i.guard=J (g,b))(h:q∉bf j8 i):g≠q:=by
 grind [bf]
def xH {i:x9}{sz bytes:Nat}{ob:Bool}{x y:A3}(hop:i.op= .append sz bytes ob x y)(h:q∉bf j8 i):∀j a,x= .loc j->j8[j]? =J a->q∉a.op.M9.flatMap A3.aQ:=by
 grind [bf,List.mem_append_right]
def vI {i:x9}{sz bytes:Nat}{x y:A3}(hop:i.op= .M3 sz bytes x y)(h:q∉bf j8 i):∀j a,x= .loc j->j8[j]? =J a->q∉a.op.M9.flatMap A3.aQ:=by
 rintro j a rfl ha hq;apply h;unfold bf;rw [hop];simp only [ha];exact List.mem_append_right _ hq
def vJ {i:x9}{sz:Nat}{x:A3}(hop:i.op= .own sz x)(h:q∉bf j8 i):∀j a,x= .loc j->j8[j]? =J a->q∉a.op.M9.flatMap A3.aQ:=by
 rintro j a rfl ha hq;apply h;unfold bf;rw [hop];simp only [ha];exact List.mem_append_right _ hq
def xl (h:q≠k){sz bytes id lo len:Nat}{y:c7}:Q0 E z6 k sz bytes (put st q v) id lo len y=(Q0 E z6 k sz bytes st id lo len y).map λs=>put s q v:=by
 unfold Q0;split
 .have e1:(put st q v).H=st.H:=rfl
  have e2:newId (put st q v) z6=newId st z6:=by cases z6<;>rfl
  rw [e1,e2];split
  .split
   .simp only [B6,Option.some.injEq]
    rw [<- put_comm h];cases z6<;>rfl
   .rfl
  .rfl
 .rfl
def Br (st:F5)(op:F0)(v:c7):Prop:=∀sz zU ob x y id z lo n,op= .append sz zU ob x y->F1 st.T st.L x= .r7 id z lo n->v.kill id=v
def Br.of {op:F0}(h:F2 st op=F):Br st op v:=λ_ _ _ _ _ _ _ _ _ e hx=>by subst e;simp [F2,hx] at h
theorem yQ (id:Nat):∀(l:List c7) (j:Nat) (x:c7),K8 id (l.set j x)=(K8 id l).set j (x.kill id)
 |[],_,_=>rfl
 |a::l,0,x=>rfl
 |a::l,j+1,x=>by simp only [o4,K8,yQ id l j x]
def xm (h:q≠k){sz bytes id lo len:Nat}{y:c7}(hv:v.kill id=v):S0 E k sz bytes (put st q v) id lo len y=(S0 E k sz bytes st id lo len y).map λs=>put s q v:=by
 unfold S0;split
 .have e1:(put st q v).H=st.H:=rfl
  rw [e1];split
  .split
   .simp only [B6,Option.some.injEq]
    rw [<- put_comm h];simp only [put,yQ,hv]
   .rfl
  .rfl
 .rfl
def HV {i:x9}(h:q≠k)(hu:q∉bf j8 i)(hk:Br st i.op v):B9 E j8 z6 k (put st q v) i.op=(B9 E j8 z6 k st i.op).map λs=>put s q v:=by
 have hρ:∀x,x∈i.op.M9->F1 (put st q v).T (put st q v).L x=F1 st.T st.L x:=λx hx=>lP (L7 hx hu)
 cases hop:i.op<;>simp only [hop,F0.M9] at hρ<;>simp only [B9]<;>try rfl
 case alloc zero=>simp only [bX,fB,put_comm h,B6]
 case box x =>
  rw [hρ x U];split
  .simp only [bX,fB,put_comm h,B6]
  .rfl
 case makeMap=>simp only [bX,fB,put_comm h,B6]
 case mW x=>simp only [put_comm h,B6]
 case gw sz zero x y =>
  rw [hρ x U,hρ y U];split
  .simp only [bX,fB,put_comm h,B6]
  .rfl
 case M8 sz len zero parts ob =>
  cases ob
  .rfl
  .have e:(parts.map λx=>(x.1,x.2.1,F1 (put st q v).T (put st q v).L x.2.2))=(parts.map λx=>(x.1,x.2.1,F1 st.T st.L x.2.2)):=gD hρ
   simp only [e];cases T4 zero (parts.map λx=>(x.1,x.2.1,F1 st.T st.L x.2.2)) with
   |none=>rfl
   |some cs =>
    simp only;split
    .simp only [bX,fB,put_comm h,B6]
    .rfl
 case store n a x =>
  rw [hρ a U];exact Bc h (L7 (by simp [hop,F0.M9]) hu)
 case append sz bytes ob x y =>
  rw [hρ x U,hρ y U];split
  next hx=>
   split
   .exact xm h (hk _ _ _ _ _ _ _ _ _ hop hx)
   .rfl
  .exact mC h (L7 (by simp [hop,F0.M9]) hu) (xH hop hu)
 case M3 sz bytes x y =>
  rw [hρ x U,hρ y U];have key:∀r r2:Option F5,r2=r.map (λs=>put s q v)->dm (put st q v) r2=(dm st r).map λs=>put s q v:=by
   rintro r _ rfl;cases r<;>rfl
  refine key _ _ ?_;split
  .split
   .exact xl h
   .rfl
  .exact mC h (L7 (by simp [hop,F0.M9]) hu) (vI hop hu)
 case own sz x =>
  rw [sV (L7 (by simp [hop,F0.M9]) hu) (vJ hop hu)];cases O6 E.lim j8 st sz x with
  |none=>rfl
  |some p =>
   obtain ⟨len,cells,s1⟩:=p;simp only [B6,put_comm h]
 case clear sz zero x =>
  rw [hρ x U];exact zY h
 case call f xs =>
  rw [Q9 hρ];exact rR h
 case bJ x xs =>
  rw [hρ x U,Q9 (l:=xs) λy hy=>hρ y (by simp [hy])];split
  .exact rR h
  .rfl
 case dI kk m key x =>
  rw [hρ m U,hρ key U,hρ x U];exact xG h
 case defer x =>
  rw [hρ x U];split
  .split
   .simp only [put_comm h,B6]
   .rfl
  .rfl
def wM (h:q≠k){dst:Option Nat}:s8 z6 (put st q v) k dst=(s8 z6 st k dst).map λs=>put s q v:=by
 have hx:q∉(A3.loc k).aQ:=by grind [A3.aQ]
 have e1:(put st q v).T=st.T:=rfl;have e2:(put st q v).l6=st.l6:=rfl;cases z6<;>cases dst<;>simp [s8,C9,Q4,wW hx,e1]<;>first|rfl|(split<;>rfl)
def wanted_put {g:Option (Nat×Bool)}(h:∀j b,g=J (j,b)->j≠q):y5 (put st q v).L g=y5 st.L g:=by
 cases g with
 |none=>rfl
 |some p =>
  grind [y5,put,jv]
def fC {i:x9}(h:q≠k)(hu:q∉bf j8 i)(hk:Br st i.op v):x8 E j8 z6 k i (put st q v)=(x8 E j8 z6 k i st).map λp=>(put p.1 q v,p.2):=by
 have hρ:∀x,x∈i.op.M9->F1 (put st q v).T (put st q v).L x=F1 st.T st.L x:=λx hx=>lP (L7 hx hu)
 have hW:B1 E j8 z6 k i.op (put st q v)=(B1 E j8 z6 k i.op st).map λp=>(put p.1 q v,p.2):=by
  unfold B1;split
  .rw [HV h hu hk]
   cases B9 E j8 z6 k st i.op<;>rfl
  .cases hop:i.op with
   |dJ x =>
    simp only [wW (L7 (x:=x) (by simp [hop,F0.M9]) hu),put_comm h,B6]
   |_ =>
    simp only;rw [<- hop,jo hρ];have e:(put st q v).H=st.H:=rfl;rw [e];cases hp:l5 (F1 st.T st.L) st.H i.op with
    |none=>rfl
    |some p=>simp only [put_comm h,B6]
 unfold x8;rw [wanted_put (λj b hg=>bw hg hu),hW];split
 .cases hp:B1 E j8 z6 k i.op st with
  |none=>rfl
  |some p =>
   obtain ⟨s1,rs⟩:=p;simp only [B6];rw [wM h];cases s8 z6 s1 k i.dst<;>rfl
 .rw [put_comm h,wM h]
  cases s8 z6 (put st k (.tuple [])) k i.dst<;>rfl
 .rfl
def O3 (st:F5)(i:Nat)(o:s6):F5:={ st with H:=st.H.set i o }
theorem kY {H:k9}{n i:Nat}{o:s6}(h:n<=i):(H.set i o).take n=H.take n:=List.take_set_of_le h
theorem yS (H:k9)(s:Nat):∀(j m:Nat),m<=D4 H s j m
 |0,m=>by simp [D4]
 |j+1,m=>by
  unfold D4;split
  .omega
  .simp only
   split
   .omega
   .exact p7 (Nat.le_max_left _ _) (yS H s j _)
theorem fH (H:k9)(s i:Nat)(o:s6):∀(j n:Nat),D4 H s j n<=i->D4 (H.set i o) s j n=D4 H s j n
 |0,n,_=>rfl
 |j+1,n,h=>by
  have hn:n<=i:=p7 (yS H s (j+1) n) h;unfold D4 at h ⊢;split
  .rfl
  next aa=>
   rw [if_neg aa] at h;simp [kY hn] at h ⊢;split
   .rfl
   next hm=>
    rw [if_neg hm] at h;exact fH H s i o j _ h
def rW (H:k9)(s i:Nat)(o:s6)(j n:Nat)(h:D4 (H.set i o) s j n<=i):D4 H s j n=D4 (H.set i o) s j n:=by
 rcases y7 i (O H) with hi|hi
 .have:=fH (H.set i o) s i H[i] j n h
  simp_all
 .rw [List.set_eq_of_length_le hi]
def Bd {H:k9}{s n i:Nat}{o:s6}(h:n<=i):A6 (H.set i o) s n=A6 H s n:=by
 grind [A6,kY]
def BY {H:k9}{n i:Nat}{o:s6}(h:n<=i):(H.set i o).drop n=(H.drop n).set (i - n) o:=by
 apply List.ext_getElem?
 grind
theorem uk {A H:k9}{n i:Nat}{o:s6}(ha:O A=n)(h:n<=i):A++(H.set i o).drop n=(A++H.drop n).set i o:=by
 simp_all [BY,List.set_append,if_neg]
def oh {f:FuncId}{args:List c7}{i:Nat}{o:s6}(hi:i<O st.H)(hs:(if E.prom f then O st.H else D4 st.H E.lim.strict 8 (A2 args))<=i) :
  B7 E k f args (O3 st i o)=(B7 E k f args st).map λs=>O3 s i o:=by
 have e1:(O3 st i o).H=st.H.set i o:=rfl;have e2:(O3 st i o).l6=st.l6:=rfl;unfold B7;simp [e1]
 by_cases hp:E.prom f=W
 .grind
 .rw [if_neg hp] at hs
  rw [if_neg hp,if_neg hp,fH _ _ _ _ _ _ hs];simp [kY hs,Bd hs,List.length_set];split
  .split
   .split
    all_goals simp_all [B6,put,O3,uk]
   .split
    .split
     all_goals rfl
    .rfl
   .split
    all_goals grind [put,O3,uk,p7]
  .rfl
def sW {dst:Option Nat}{i:Nat}{o:s6}:s8 z6 (O3 st i o) k dst=(s8 z6 st k dst).map λs=>O3 s i o:=by
 have hx:E2 (O3 st i o) (.loc k)=((E2 st (.loc k)).1,O3 (E2 st (.loc k)).2 i o):=by
  grind [E2,O3]
 have e1:(O3 st i o).T=st.T:=rfl;have e2:(O3 st i o).l6=st.l6:=rfl;cases z6<;>cases dst<;>simp [s8,C9,Q4,hx,e1]<;>first|rfl|(split<;>rfl)
def mg (i:x9):Bool:=match i.op with
 | .call .. =>W
 | .bJ .. =>W
 |_=>F
def ot (j8:List x9)(i:x9):Bool:=match i.op with
 | .M3 _ _ (.loc j) _=>(match j8[j]? with
  |some a=>(match a.op with
   | .M8 .. =>W
   |_=>F)
  |none=>F)
 |_=>F
def uF {i:x9}(h:ot j8 i=W):∃sz zU j y a,i.op= .M3 sz zU (.loc j) y/\j8[j]? =J a/\∀l st,eG l st a.op=F:=by
 unfold ot at h;split at h
 next sz zU j y hop=>
  split at h
  next a ha=>
   split at h
   next hb=>
    exact ⟨_,_,_,_,a,hop,ha,λl st=>by rw [hb];rfl⟩
   .cases h
  .cases h
 .cases h
def yL {l:F9}{st2:F5}{j:Nat}{a:x9}(ha:j8[j]? =J a)(hn:∀l st,eG l st a.op=F)(hL:st2.L[j]? =st.L[j]?):isNil l j8 st2 (.loc j)=isNil l j8 st (.loc j):=by
 simp only [isNil,hL,ha,hn]
def iH {α β:Type}{c:Prop} [Decidable c] (g:α->β){a:Option α}{b:Option β}(h:b=a.map g):(if c then b else K)=(if c then a else K).map g:=by
 subst h
 by_cases hc:c<;>simp [hc]
def kU {H:k9}{sz m:Nat}{o:s6}{y:c7}(h:y.F4<=m):B4 (H.set m o) sz y=B4 H sz y:=by
 cases y
 case r7 id z lo len =>
  simp only [c7.F4] at h;simp only [B4,rd];rw [x5 V]
 case d x=>cases x<;>rfl
 all_goals rfl
def HT {sz bytes j m:Nat}{y:A3}{o:s6}{a:x9}(ha:j8[j]? =J a)(hn:∀l st,eG l st a.op=F)(hm:m<O st.H)(hs:max (F1 st.T st.L (.loc j)).F4 (F1 st.T st.L y).F4<=m) :
  B9 E j8 z6 k (O3 st m o) (.M3 sz bytes (.loc j) y)=(B9 E j8 z6 k st (.M3 sz bytes (.loc j) y)).map λs=>O3 s m o:=by
 have e:∀x,F1 (O3 st m o).T (O3 st m o).L x=F1 st.T st.L x:=λ_=>rfl
 have e1:(O3 st m o).H=st.H.set m o:=rfl;have e2:newId (O3 st m o) K=newId st K:=by simp [newId,O3]
 simp only [B9,e];have key:∀r r2:Option F5,r2=r.map (λs=>O3 s m o)->dm (O3 st m o) r2=(dm st r).map λs=>O3 s m o:=by
  rintro r _ rfl;cases r with
  |none=>rfl
  |some s=>simp [dm,O3]
 refine key _ _ ?_;split
 next id z lo len hx=>
  rw [hx] at hs;simp only [c7.F4] at hs;refine iH _ ?_;unfold Q0;rw [e1,x5 (show m≠id by omega),kU V,e2];refine iH _ ?_;cases h1:st.H[id]? with
  |none=>rfl
  |some ob =>
   cases ob with
   |cells l =>
    cases h2:B4 st.H sz (F1 st.T st.L y) with
    |none=>rfl
    |some p =>
     refine iH _ ?_;simp only [B6,Option.some.injEq,put,C8,O3,newId,List.length_set,Option.getD_none];rw [List.set_append_left _ _ (by simpa using hm),List.set_comm _ _ (show m≠id by omega)]
   |_=>rfl
 .unfold J1
  rw [e1,kU V,yL (st:=st) (st2:=O3 st m o) ha hn rfl];cases h2:B4 st.H sz (F1 st.T st.L y) with
  |none=>rfl
  |some p =>
   obtain ⟨m',cs⟩:=p;simp only [if_true]
   by_cases hc:isNil E.lim j8 st (.loc j)=W/\roomFor m' bytes=W/\0<sz
   case neg=>simp only [hc,if_false,Option.map_none]
   simp only [hc,and_self,if_true]
   by_cases h0:m' =0
   .simp only [h0,if_true];rfl
   .simp only [h0,if_false,B6,Option.some.injEq,put,C8,O3,newId,List.length_set,Option.getD_none]
    rw [List.set_append_left _ _ hm]
def mL {i:x9}{m:Nat}{o:s6}(hW:B1 E j8 z6 k i.op (O3 st m o)=(B1 E j8 z6 k i.op st).map λp=>(O3 p.1 m o,p.2)):x8 E j8 z6 k i (O3 st m o)=(x8 E j8 z6 k i st).map λp=>(O3 p.1 m o,p.2):=by
 unfold x8;have e3:y5 (O3 st m o).L i.guard=y5 st.L i.guard:=rfl;rw [e3,hW];split
 .cases hp:B1 E j8 z6 k i.op st with
  |none=>rfl
  |some p =>
   obtain ⟨s1,rs⟩:=p;simp only [B6];rw [sW];cases s8 z6 s1 k i.dst<;>rfl
 .have e4:put (O3 st m o) k (.tuple [])=O3 (put st k (.tuple [])) m o:=rfl
  rw [e4,sW];cases s8 z6 (put st k (.tuple [])) k i.dst<;>rfl
 .rfl
def DH {i:x9}{m:Nat}{o:s6}(hc:ot j8 i=W)(hi:m<O st.H)(hs:F8 E st i.op<=m):x8 E j8 z6 k i (O3 st m o)=(x8 E j8 z6 k i st).map λp=>(O3 p.1 m o,p.2):=by
 obtain ⟨sz,zU,j,y,a,hop,ha,hn⟩:=uF hc;refine mL ?_;rw [hop] at hs ⊢;simp only [B1,F0.A9,if_true];rw [HT ha hn hi hs];cases B9 E j8 z6 k st (.M3 sz zU (.loc j) y)<;>rfl
def FJ {i:x9}{m:Nat}{o:s6}(hc:mg i=W)(hi:m<O st.H)(hs:F8 E st i.op<=m):x8 E j8 z6 k i (O3 st m o)=(x8 E j8 z6 k i st).map λp=>(O3 p.1 m o,p.2):=by
 have hW:B1 E j8 z6 k i.op (O3 st m o)=(B1 E j8 z6 k i.op st).map λp=>(O3 p.1 m o,p.2):=by
  unfold mg at hc;unfold B1;have e:∀x,F1 (O3 st m o).T (O3 st m o).L x=F1 st.T st.L x:=λ_=>rfl
  split at hc
  next f xs hop=>
   rw [hop] at hs ⊢;simp only [F0.A9,if_true,B9];have:B7 E k f (xs.map (F1 (O3 st m o).T (O3 st m o).L)) (O3 st m o)=(B7 E k f (xs.map (F1 st.T st.L)) st).map λs=>O3 s m o:=oh hi hs
   rw [this];cases B7 E k f (xs.map (F1 st.T st.L)) st<;>rfl
  next x xs hop=>
   rw [hop] at hs ⊢;simp only [F0.A9,if_true,B9];rw [e x];simp only [F8] at hs;cases hx:F1 st.T st.L x with
   |func f first caps =>
    rw [hx] at hs;simp only at hs ⊢;have:B7 E k f (first++xs.map (F1 (O3 st m o).T (O3 st m o).L)++caps) (O3 st m o)=(B7 E k f (first++xs.map (F1 st.T st.L)++caps) st).map λs=>O3 s m o:=oh hi hs
    rw [this];cases B7 E k f (first++xs.map (F1 st.T st.L)++caps) st<;>rfl
   |_=>rfl
  .cases hc
 exact mL hW
def Jf {i:x9}{m:Nat}{o:s6}(hs:F8 E (O3 st m o) i.op<=m):F8 E st i.op=F8 E (O3 st m o) i.op:=by
 have e:∀x,F1 (O3 st m o).T (O3 st m o).L x=F1 st.T st.L x:=λ_=>rfl
 have e1:(O3 st m o).H=st.H.set m o:=rfl;cases hop:i.op<;>rw [hop] at hs<;>simp only [F8] at hs ⊢
 case call f xs =>
  simp only [e1,List.length_set] at hs ⊢
  by_cases hp:E.prom f=W
  .rw [if_pos hp,if_pos hp]
  .rw [if_neg hp] at hs ⊢
   rw [if_neg hp];exact rW _ _ _ _ _ _ hs
 case bJ x xs =>
  simp only [e x,e1,List.length_set] at hs ⊢;split at hs
  next f first caps hx=>
   by_cases hp:E.prom f=W
   .simp only [hp,if_true]
   .rw [if_neg hp] at hs ⊢
    rw [if_neg hp];exact rW _ _ _ _ _ _ hs
  .rfl
 case M3=>rfl
def Q2 (s:F5)(dst:Option Nat)(u:c7):F5:=match dst with
 |none=>s
 |some t=>{ s with T:=s.T.set t u }
def wq (s:F5)(dst:Option Nat)(u:c7):(Q2 s dst u).L=s.L:=by cases dst<;>rfl
def qX (s:F5)(dst:Option Nat)(u:c7):(Q2 s dst u).H=s.H:=by cases dst<;>rfl
def Mx (s:F5)(dst:Option Nat)(u:c7):(Q2 s dst u).l6=s.l6:=by cases dst<;>rfl
def zv (s:F5)(dst:Option Nat)(u:c7):O (Q2 s dst u).T=O s.T:=by cases dst<;>simp [Q2]
theorem kQ {s:F5}{dst:Option Nat}{u:c7}{x:A3}(h:∀t,dst=J t->t∉x.slots):F1 (Q2 s dst u).T (Q2 s dst u).L x=F1 s.T s.L x:=by
 simp_all [F1,Q2,A3.slots]<;>grind
def om {f:FuncId}{args:List c7}{dst:Option Nat}{u:c7}:B7 E k f args (Q2 st dst u)=(B7 E k f args st).map λs=>Q2 s dst u:=by
 cases dst with
 |none=>grind [Q2,B7]
 |some t =>
  unfold B7;have e1:(Q2 st (J t) u).H=st.H:=rfl;have e2:(Q2 st (J t) u).l6=st.l6:=rfl;simp [e1];split
  .split
   .split<;>rfl
   .rfl
  .split
   .split
    .split
     .split<;>rfl
     .rfl
    .split
     .split<;>rfl
     .rfl
    .split
     .split<;>rfl
     .rfl
   .rfl
def sX {dst dst' :Option Nat}{u:c7}(h:∀s,dst=J s->dst' ≠J s):s8 z6 (Q2 st dst' u) k dst=(s8 z6 st k dst).map λs=>Q2 s dst' u:=by
 cases dst' with
 |none=>simp_all [Q2,s8]
 |some t =>
  have hx:E2 (Q2 st (J t) u) (.loc k)=((E2 st (.loc k)).1,Q2 (E2 st (.loc k)).2 (J t) u):=by
   simp [E2,Q2];cases st.L[k]? with
   |none=>rfl
   |some a=>cases a<;>rfl
  have e2:(Q2 st (J t) u).l6=st.l6:=rfl;have e3:O (Q2 st (J t) u).T=O st.T:=zv _ _ _;cases dst with
  |none=>cases z6<;>rfl
  |some s =>
   have hne:t≠s:=λe=>h s rfl (by rw [e])
   have e4:∀x,(Q2 st (J t) u).T.set s x=(st.T.set s x).set t u:=λx=>List.set_comm _ _ hne
   cases z6<;>simp [s8,C9,Q4,hx,e2,e3,e4]<;>split<;>rfl
def xw (i:x9):Bool:= !i.op.A9&&(match i.op with
 | .dJ _=>F
 |_=>W)
def wE {op:F0}(h:op.A9=F)(hm:∀y,op≠ .dJ y):B1 E j8 z6 k op st=(l5 (F1 st.T st.L) st.H op).map λp=>(put st k p.1,p.2):=by
 unfold B1;rw [h];cases op<;>first
  |exact (hm _ rfl).elim
  |(simp only [j6,if_false]
    generalize l5 _ _ _=r;cases r<;>rfl)
def Gk {i:x9}(h:xw i=W):i.op.A9=F/\∀y,i.op≠ .dJ y:=by
 simp only [xw,c9,o3] at h;refine ⟨h.1,λy e=>?_⟩;rw [e] at h;cases h.2
def ij {i:x9}(h:xw i=W)(st:F5):F2 st i.op=F:=by
 have h1:=(Gk h).1;cases hop:i.op<;>rw [hop] at h1<;>first|rfl|(cases h1)
def mM {i:x9}{dst:Option Nat}{u:c7}(hd:∀s,i.dst=J s->dst≠J s)(hW:B1 E j8 z6 k i.op (Q2 st dst u)=(B1 E j8 z6 k i.op st).map λp=>(Q2 p.1 dst u,p.2)) :
  x8 E j8 z6 k i (Q2 st dst u)=(x8 E j8 z6 k i st).map λp=>(Q2 p.1 dst u,p.2):=by
 unfold x8;rw [wq,hW];split
 .cases hp:B1 E j8 z6 k i.op st with
  |none=>rfl
  |some p =>
   obtain ⟨s1,rs⟩:=p;simp only [B6];rw [sX hd];cases s8 z6 s1 k i.dst<;>rfl
 .have e4:put (Q2 st dst u) k (.tuple [])=Q2 (put st k (.tuple [])) dst u:=by cases dst<;>rfl
  rw [e4,sX hd];cases s8 z6 (put st k (.tuple [])) k i.dst<;>rfl
 .rfl
def HU {sz bytes j:Nat}{x y:A3}{dst:Option Nat}{u:c7}{a:x9}(hxj:x= .loc j)(ha:j8[j]? =J a)(hn:∀l st,eG l st a.op=F)(hy:F1 (Q2 st dst u).T (Q2 st dst u).L y=F1 st.T st.L y) :
  B9 E j8 z6 k (Q2 st dst u) (.M3 sz bytes x y)=(B9 E j8 z6 k st (.M3 sz bytes x y)).map λs=>Q2 s dst u:=by
 subst hxj;have e:F1 (Q2 st dst u).T (Q2 st dst u).L (.loc j)=F1 st.T st.L (.loc j):=by simp only [F1,wq]
 simp only [B9,e,hy];have key:∀r r2:Option F5,r2=r.map (λs=>Q2 s dst u)->dm (Q2 st dst u) r2=(dm st r).map λs=>Q2 s dst u:=by
  rintro r _ rfl;cases r with
  |none=>rfl
  |some s=>cases dst<;>rfl
 refine key _ _ ?_;have e2:newId (Q2 st dst u) K=newId st K:=by simp only [newId,qX]
 split
 next id z lo len hx=>
  refine iH _ ?_;unfold Q0;rw [qX,e2];refine iH _ ?_;cases h1:st.H[id]? with
  |none=>rfl
  |some ob =>
   cases ob with
   |cells l =>
    cases h2:B4 st.H sz (F1 st.T st.L y) with
    |none=>rfl
    |some p =>
     refine iH _ ?_;cases dst<;>rfl
   |_=>rfl
 .unfold J1
  rw [qX,yL (st:=st) (st2:=Q2 st dst u) ha hn (by rw [wq])];cases h2:B4 st.H sz (F1 st.T st.L y) with
  |none=>rfl
  |some p =>
   obtain ⟨m',cs⟩:=p;simp only [if_true]
   by_cases hc:isNil E.lim j8 st (.loc j)=W/\roomFor m' bytes=W/\0<sz
   case neg=>simp only [hc,if_false,Option.map_none]
   simp only [hc,and_self,if_true]
   by_cases h0:m' =0
   .simp only [h0,if_true];cases dst<;>rfl
   .simp only [h0,if_false];cases dst<;>rfl
def sQ {i:x9}{dst:Option Nat}{u:c7}(hc:ot j8 i=W)(hu:∀t,dst=J t->t∉cn i)(hd:∀s,i.dst=J s->dst≠J s) :
  x8 E j8 z6 k i (Q2 st dst u)=(x8 E j8 z6 k i st).map λp=>(Q2 p.1 dst u,p.2):=by
 obtain ⟨sz,zU,j,y,a,hop,ha,hn⟩:=uF hc;refine mM hd ?_;have hy:F1 (Q2 st dst u).T (Q2 st dst u).L y=F1 st.T st.L y:=by
  refine kQ λt ht hs=>hu t ht ?_
  unfold cn;exact List.mem_flatMap.2 ⟨y,by rw [hop];simp [F0.M9],hs⟩
 rw [hop];simp only [B1,F0.A9,if_true];rw [HU rfl ha hn hy];cases B9 E j8 z6 k st (.M3 sz zU (.loc j) y)<;>rfl
def nP {i:x9}{dst:Option Nat}{u:c7}(hc:mg i=W\/xw i=W)(hu:∀t,dst=J t->t∉cn i)(hd:∀s,i.dst=J s->dst≠J s) :
  x8 E j8 z6 k i (Q2 st dst u)=(x8 E j8 z6 k i st).map λp=>(Q2 p.1 dst u,p.2):=by
 have hρ:∀x,x∈i.op.M9->F1 (Q2 st dst u).T (Q2 st dst u).L x=F1 st.T st.L x:=by
  intro x hx;refine kQ λt ht hs=>hu t ht ?_
  unfold cn;exact List.mem_flatMap.2 ⟨x,hx,hs⟩
 have hW:B1 E j8 z6 k i.op (Q2 st dst u)=(B1 E j8 z6 k i.op st).map λp=>(Q2 p.1 dst u,p.2):=by
  rcases B3 (xw i) with hd1|hd1
  .obtain ⟨h1,h2⟩:=Gk hd1
   rw [wE h1 h2,wE h1 h2,jo hρ,qX];have e4:∀v,put (Q2 st dst u) k v=Q2 (put st k v) dst u:=λv=>by cases dst<;>rfl
   cases l5 (F1 st.T st.L) st.H i.op with
   |none=>rfl
   |some p=>simp only [B6,e4]
  replace hc:mg i=W:=hc.resolve_right (by rw [hd1];simp)
  unfold mg at hc;unfold B1;split at hc
  next f xs hop=>
   rw [hop] at hρ ⊢;simp only [F0.A9,if_true,B9];rw [Q9 (l:=xs) λy hy=>hρ y (by simp [F0.M9,hy]),om];cases B7 E k f (xs.map (F1 st.T st.L)) st<;>rfl
  next x xs hop=>
   rw [hop] at hρ ⊢;simp only [F0.A9,if_true,B9];rw [hρ x (by simp [F0.M9]),Q9 (l:=xs) λy hy=>hρ y (by simp [F0.M9,hy])];cases hx:F1 st.T st.L x with
   |func f first caps =>
    simp only;rw [om];cases B7 E k f (first++xs.map (F1 st.T st.L)++caps) st<;>rfl
   |_=>rfl
  .cases hc
 exact mM hd hW
end
end Go.y9
namespace Go.y9
variable [D2]
def uG (i:x9):Bool:= !i.op.A9&&i.dst.isNone&&(match i.op with
 | .dJ (.loc _)=>F
 |_=>W)
def mh (i:x9):Bool:=match i.op with
 | .mW _=>W
 | .alloc _=>W
 | .box _=>W
 | .makeMap=>W
 | .gw .. =>W
 | .M8 _ _ _ _ b=>b
 |_=>F
section
variable {E:Env} {j8:List x9} {z6:Option Nat} {k q:Nat} {st st1 st2 st' :F5}
def dA {i:x9}(h:uG i=W)(st:F5):F2 st i.op=F:=by
 simp_all [uG,F0.A9,F2]<;>grind
def bO {i:x9}(h:uG i=W)(st:F5):F8 E st i.op=0:=by
 simp_all [uG,F0.A9,F8]<;>grind
def Z2 {i:x9}(h:mh i=W)(st:F5):F2 st i.op=F:=by
 grind [mh,F2]
def bN {i:x9}(h:mh i=W)(st:F5):F8 E st i.op=0:=by
 grind [mh,F8]
def dx {i:x9}(h:mh i=W):i.op.y3=W:=by
 grind [mh,F0.y3]
def HQ {i:x9}(h:mg i=W)(st:F5):F2 st i.op=F:=by
 grind [mg,F2]
theorem gI {s:F5}{dst:Option Nat}(h:dst.isNone=W):s8 z6 s k dst=J s:=by
 cases dst with
 |none=>cases z6<;>rfl
 |some _=>simp at h
def zL {i:x9}(hP:uG i=W){rs:List Nat}(h:x8 E j8 z6 k i st=J (st',rs)) :
  ∃v,st' =put st k v/\∀s2:F5,(∀x,x∈i.op.M9->F1 s2.T s2.L x=F1 st.T st.L x)->y5 s2.L i.guard=y5 st.L i.guard->(∀id,id∈rs->O1 s2.H[id]? st.H[id]?) ->
   x8 E j8 z6 k i s2=J (put s2 k v,rs):=by
 simp only [uG,c9,o3] at hP;obtain ⟨⟨h1,h2⟩,h3⟩:=hP;unfold x8 at h;split at h
 next hw=>
  split at h
  next s1 Xz hW=>
   rw [gI h2] at h;cases h;unfold B1 at hW;rw [h1] at hW;simp [j6,if_false] at hW;have other:∀{v:c7},(∀x,i.op≠ .dJ x)->l5 (F1 st.T st.L) st.H i.op=J (v,rs)->st' =put st k v->∃v,st' =put st k v/\∀s2:F5,(∀x,x∈i.op.M9->F1 s2.T s2.L x=F1 st.T st.L x)->y5 s2.L i.guard=y5 st.L i.guard->(∀id,id∈rs->O1 s2.H[id]? st.H[id]?) ->
     x8 E j8 z6 k i s2=J (put s2 k v,rs):=by
    intro v hm hp e;refine ⟨v,e,λs2 hρ VQ hr=>?_⟩;unfold x8;rw [VQ,hw];have:B1 E j8 z6 k i.op s2=J (put s2 k v,rs):=by
     unfold B1;have hp2:l5 (F1 s2.T s2.L) s2.H i.op=J (v,rs):=Dp (by simp_all [jo]) hr;simp_all
    simp_all [gI]
   split at hW
   next x hop=>
    cases hW;refine ⟨(E2 st x).1,?_,λs2 hρ VQ hr=>?_⟩
    .cases x with
     |loc j=>simp_all
     |slot s=>rfl
     |const c=>rfl
    .unfold x8
     have e1:E2 s2 x=((E2 st x).1,s2):=by
      simp_all [F0.M9,E2]<;>grind
     simp_all [B1,F0.A9,j6,if_false,gI]
   grind
  .cases h
 all_goals grind [gI,x8]
def jt (s:F5)(n:Nat):Option s6->F5
 |some o=>O3 s n o
 |none=>s
inductive NF (k n:Nat) (dst:Option Nat):(F5->F5)->Prop where
 |mk (o:Option s6) (v u:c7):NF k n dst (λs=>Q2 (put (jt s n o) k v) dst u)
inductive TT (k:Nat) (dst:Option Nat):(F5->F5)->Prop where
 |mk (v u:c7):TT k dst (λs=>Q2 (put s k v) dst u)
structure Alike (i:x9)(st s2:F5):Prop where
 T:O s2.T=O st.T
 L:O s2.L=O st.L
 l6:∀s,i.dst=J s->s2.l6.any (Touch.P9 s)=W
def DS {s:F5}{v:c7}{dst:Option Nat}(hv:∀z n c,v≠ .own z n c){s' :F5}(h:Q4 (put s k v) k dst=J s') :
  ∃u,s' =Q2 (put s k v) dst u/\∀s2:F5,O s2.T=O s.T->O s2.L=O s.L->(∀t,dst=J t->s2.l6.any (Touch.P9 t)=W)->Q4 (put s2 k v) k dst=J (Q2 (put s2 k v) dst u):=by
 cases dst with
 |none=>cases h;exact ⟨.any,rfl,λs2 _ _ _=>rfl⟩
 |some t =>
  have hx:∀s:F5,E2 (put s k v) (.loc k)=((if k<O s.L then v.Jx else .any),put s k v):=by
   simp_all [E2,put,F1,List.getD,c7.I7,c7.Jx,absurd]<;>grind
  simp only [Q4,hx] at h;split at h
  next hc=>
   simp [c9,decide_eq_true_eq] at hc;cases h;refine ⟨_,rfl,λs2 h1 h2 h3=>?_⟩;simp only [Q4,hx];have:(decide (t<O (put s2 k v).T)&&(put s2 k v).l6.any (Touch.P9 t))=W:=by
    simp_all [c9,decide_eq_true_eq,put]
   rw [if_pos this,h2];rfl
  .cases h
def AU (s:F5)(n:Nat)(o:Option s6):(jt s n o).T=s.T:=by cases o<;>rfl
def wo (s:F5)(n:Nat)(o:Option s6):(jt s n o).L=s.L:=by cases o<;>rfl
def DC (s:F5)(n:Nat)(o:Option s6):(jt s n o).l6=s.l6:=by cases o<;>rfl
def zJ {i:x9}{n:Nat}(hN:mh i=W){rs:List Nat}(h:x8 E j8 (J n) k i st=J (st',rs)) :
  rs=[]/\∃f,NF k n i.dst f/\(i.op.makes=F->TT k i.dst f)/\st' =f st/\∀s2:F5,(∀x,x∈i.op.M9->F1 s2.T s2.L x=F1 st.T st.L x)->y5 s2.L i.guard=y5 st.L i.guard->Alike i st s2->x8 E j8 (J n) k i s2=J (f s2,[]):=by
 unfold mh at hN;have h3:=hN;have aQ4:i.op.A9=W:=by
  grind [F0.A9]
 have slot:∀(o:Option s6) (v:c7),(i.op.makes=F->o=K)->(∀z n c,v≠ .own z n c)->(∀s2:F5,(∀x,x∈i.op.M9->F1 s2.T s2.L x=F1 st.T st.L x)->y5 s2.L i.guard=y5 st.L i.guard->x8 E j8 (J n) k i s2=(Q4 (put (jt s2 n o) k v) k i.dst).map λs=>(s,[])) ->
   rs=[]/\∃f,NF k n i.dst f/\(i.op.makes=F->TT k i.dst f)/\st' =f st/\∀s2:F5,(∀x,x∈i.op.M9->F1 s2.T s2.L x=F1 st.T st.L x)->y5 s2.L i.guard=y5 st.L i.guard->Alike i st s2->x8 E j8 (J n) k i s2=J (f s2,[]):=by
  intro o v ho hv hs;rw [hs st (λ_ _=>rfl) rfl] at h;cases ht:Q4 (put (jt st n o) k v) k i.dst with
  |none=>simp_all
  |some s' =>
   rw [ht] at h;obtain ⟨rfl,rfl⟩:=h;obtain ⟨u,h4,h5⟩:=DS hv ht;refine ⟨rfl,_,NF.mk o v u,λhm=>by rw [ho hm];exact TT.mk v u,h4,λs2 hρ hw ha=>?_⟩;rw [hs s2 hρ hw,h5 (jt s2 n o) (by rw [AU,AU];exact ha.T) (by rw [wo,wo];exact ha.L) (λt ht=>by rw [DC];exact ha.l6 t ht)];rfl
 obtain ⟨wd,hw⟩:∃wd,y5 st.L i.guard=wd:=⟨_,rfl⟩;cases wd with
 |none=>simp_all [x8]
 |some b =>
  cases b with
  |false =>
   refine slot K (.tuple []) (λ_=>rfl) U λs2 hρ VQ=>?_
   unfold x8
   grind [s8,jt,Q4,put]
  |true =>
   by_cases Vh:∃x,i.op= .mW x
   .obtain ⟨x,hx⟩:=Vh
    refine slot K (.d x) (λ_=>rfl) U λs2 hρ VQ=>?_
    grind [x8,B1,F0.A9,B9,s8,jt,Q4,put]
   have hmk:i.op.makes=W:=by
    cases hop:i.op<;>rw [hop] at h3<;>first|exact h3|simp_all|simp_all|rfl
   have key:∀(o:s6) (v:c7),(∀z n c,v≠ .own z n c)->(∀s2:F5,(∀x,x∈i.op.M9->F1 s2.T s2.L x=F1 st.T st.L x)->B9 E j8 (J n) k s2 i.op=J (put (O3 s2 n o) k v)) ->
     rs=[]/\∃f,NF k n i.dst f/\(i.op.makes=F->TT k i.dst f)/\st' =f st/\∀s2:F5,(∀x,x∈i.op.M9->F1 s2.T s2.L x=F1 st.T st.L x)->y5 s2.L i.guard=y5 st.L i.guard->Alike i st s2->x8 E j8 (J n) k i s2=J (f s2,[]):=by
    intro o v hv h5;refine slot (J o) v (λh=>M) hv λs2 hρ VQ=>?_
    unfold x8
    grind [B1,put,O3,s8,jt,Q4]
   obtain ⟨op,hop⟩:∃op,i.op=op:=⟨_,rfl⟩;have he:∃s1,B9 E j8 (J n) k st i.op=J s1:=by
    grind [x8,B1]
   obtain ⟨s1,he⟩:=he;have af9 :∀x,op≠ .mW x:=λx e=>Vh ⟨x,hop.trans e⟩
   cases op<;>(try (exact absurd rfl (af9 _)))<;>rw [hop] at h3<;>simp at h3<;>(try (cases h3;done))<;>rw [hop] at he<;>simp only [B9] at he
   next zero=>
    refine key (.cells zero) (.ptr n 0) U (λs2 _=>?_);rw [hop];rfl
   next x=>
    split at he
    next l hl=>
     refine key (.cells l) (.ptr n 0) U (λs2 hρ=>?_);rw [hop];simp only [B9];rw [hρ x (by simp [hop,F0.M9]),hl];rfl
    .cases he
   next sz len zero parts ob=>
    subst h3;simp only at he;split at he
    next cs hcs=>
     split at he
     next hl=>
      refine key (.cells cs) (.r7 n sz 0 len) U (λs2 hρ=>?_);rw [hop];simp only [B9];have e:(parts.map λx=>(x.1,x.2.1,F1 s2.T s2.L x.2.2))=(parts.map λx=>(x.1,x.2.1,F1 st.T st.L x.2.2)):=gD (λx hx=>hρ x (by grind [F0.M9]));have jP :T4 zero (parts.map λx=>(x.1,x.2.1,F1 st.T st.L x.2.2))=J cs:=hcs;simp only [e,jP,if_pos hl];rfl
     .cases he
    .cases he
   .refine key (.map []) (.map n) U (λs2 _=>?_)
    rw [hop];rfl
   next sz zero x y=>
    split at he
    next m hm=>
     refine key (.cells (c8 m zero).flatten) (.r7 n sz 0 m) U (λs2 hρ=>?_);rw [hop];simp only [B9];rw [hρ x (by simp [hop,F0.M9]),hρ y (by simp [hop,F0.M9]),hm];rfl
    .cases he
end
end Go.y9
namespace Go.y9
variable [D2]
def ND (i:x9):Bool:=match i.op with
 | .mW _=>W
 |_=>F
def qz {i:x9}(h:ND i=W):mh i=W/\i.op.makes=F:=by
 unfold ND at h;unfold mh;cases hop:i.op<;>rw [hop] at h<;>first|exact ⟨rfl,rfl⟩|(cases h)
def HP {j8:List x9}{i:x9}(h:ot j8 i=W)(st:F5):F2 st i.op=F:=by
 obtain ⟨sz,zU,j,y,a,hop,_⟩:=uF h;rw [hop];rfl
def dw {j8:List x9}{i:x9}(h:mg i=W\/ot j8 i=W)(st:F5):F2 st i.op=F:=h.elim (λh=>HQ h st) λh=>HP h st
def AG (j8:List x9)(j:Nat)(a:x9)(i:Nat)(b:x9):Bool :=
 !(bf j8 b).contains j&& !(bf j8 a).contains i &&
 (match b.dst with|some s=> !(cn a).contains s&&a.dst != J s|none=>W)&&(match a.dst with|some s=> !(cn b).contains s|none=>W) &&
 ((uG a&&(uG b||a.Y2.contains i))||(uG b&&b.Y2.contains j)||(mh a&&mh b)||(mh a&&(mg b||ot j8 b)&&a.Y2.contains i)||((mg a||ot j8 a)&&mh b&&b.Y2.contains j)||(ND a&&xw b)||(xw a&&ND b))
def FY (E:Env)(j8:List x9)(R9:Nat->Option Nat)(lg:Nat->cT)(k:Nat)(st st' :F5):Prop :=
 ∃i,j8[k]? =J i/\eS E j8 (R9 k) k i st=J (st',lg k)
structure HF (j8:List x9)(R9:Nat->Option Nat):Prop where
 alloc:∀(k:Nat) i,j8[k]? =J i->(R9 k).isSome=i.op.y3
 inj:∀j k n,R9 j=J n->R9 k=J n->j=k
def FW (j8:List x9)(lg:Nat->cT):Prop :=
 ∀(k:Nat) i e,j8[k]? =J i->e∈i.Y2->E6 (lg e).Co (lg k).reads=F/\(i.op.makes=W->(lg e).Je<=(lg k).id)
section
variable {E:Env} {j8:List x9} {z6:Option Nat} {k q:Nat} {v:c7} {st st1 st2 st' :F5}
def Z5 {i:x9}{l:cT}:eS E j8 z6 k i st=J (st',l)↔(F2 st i.op&&j8.any λa=>a.Y2.contains k&& !calm st i.op a)=F/\∃rs,x8 E j8 z6 k i st=J (st',rs)/\l=T0 E i z6 st st' rs:=by
 grind [eS]
def aZ {i:x9}{l:cT}(h:F2 st i.op=F/\∃rs,x8 E j8 z6 k i st=J (st',rs)/\l=T0 E i z6 st st' rs):eS E j8 z6 k i st=J (st',l) :=
 Z5.2 ⟨by rw [h.1];rfl,h.2⟩
def GX {j:Nat}{i b:x9}{q:Nat}(h:(F2 st i.op&&j8.any λa=>a.Y2.contains j&& !calm st i.op a)=F)(hk:F2 st i.op=W)(hb:j8[q]? =J b)(hu:j∈b.Y2):calm st i.op b=W:=by
 grind
def BI {op:F0}{a:x9}(h:calm st op a=W):∃sz zU ob x y s id z lo n j o,op= .append sz zU ob x y/\a.op= .dJ (.slot s)/\a.dst=K/\a.guard=K/\F1 st.T st.L x= .r7 id z lo n/\st.T[s]? =J (.ptr j o)/\j≠id:=by
 unfold calm at h;split at h
 next sz zU ob x y s ho=>
  simp [c9,Option.isNone_iff_eq_none] at h;obtain ⟨⟨h1,h2⟩,h3⟩:=h;split at h3
  next id z lo n j o h4 h5=>
   exact ⟨_,_,_,_,_,_,_,_,_,_,_,_,rfl,ho,h1,h2,h4,h5,λe=>M⟩
  .cases h3
 .cases h
def uy {s2:F5}{op:F0}{a:x9}(h:∀x,x∈op.M9->F1 s2.T s2.L x=F1 st.T st.L x)(hT:s2.T=st.T):calm s2 op a=calm st op a:=by
 unfold calm
 grind [F0.M9]
def BJ {sz zU :Nat}{ob:Bool}{x y:A3}{id z lo n j o:Nat}(h:F1 st.T st.L x= .r7 id z lo n)(hj:j≠id):Br st (.append sz zU ob x y) (.ptr j o):=λ_ _ _ x' _ id' _ _ _ e hx=>by
 simp_all [c7.kill]
def oS {a:x9}{s j o:Nat}(h1:a.op= .dJ (.slot s))(h2:a.dst=K)(h3:a.guard=K)(h:st.T[s]? =J (.ptr j o)):x8 E j8 z6 k a st=J (put st k (.ptr j o),[]):=by
 have e:(E2 st (.slot s))=(.ptr j o,st):=by simp [E2,F1,h,c7.I7]
 simp [x8,h3,B1,h1,e,h2];cases z6<;>rfl
def Bx {i:x9}{sz zU :Nat}{ob:Bool}{x y:A3}{id z lo n s j o:Nat}{rs:List Nat}(hop:i.op= .append sz zU ob x y)(hx:F1 st.T st.L x= .r7 id z lo n)(h:x8 E j8 z6 k i st=J (st',rs))(hs:i.dst≠J s)(hT:st.T[s]? =J (.ptr j o))(hj:j≠id):st'.T[s]? =J (.ptr j o):=by
 have slot:∀s1 s2:F5,s8 z6 s1 k i.dst=J s2->s1.T[s]? =J (.ptr j o)->s2.T[s]? =J (.ptr j o):=by
  intro s1 s2 h h1;cases hd:i.dst with
  |none=>rw [hd] at h;cases z6<;>cases h<;>exact h1
  |some t =>
   cases z6<;>simp only [s8,C9,Q4] at h<;>split at h<;>first|grind|grind
 unfold x8 at h;split at h
 .split at h
  next s1 Xz h1=>
   split at h
   next s2 h2=>
    cases h;refine slot _ _ h2 ?_;simp [B1,hop,F0.A9,if_true,B9,hx] at h1;split at h1
    next s3 h3=>
     cases h1;split at h3
     .unfold S0 at h3
      split at h3
      .split at h3
       .split at h3
        .cases h3
         have e:∀(l:List c7) (s:Nat),l[s]? =J (.ptr j o)->(K8 id l)[s]? =J (.ptr j o):=by
          intro l
          induction l with
          |nil=>simp_all
          |cons a l ih =>
           grind [K8,c7.kill]
         exact e _ _ hT
        .cases h3
       .cases h3
      .cases h3
     .cases h3
    .cases h1
   .cases h
  .cases h
 .split at h
  next s2 h2=>
   cases h;exact slot _ _ h2 hT
  .cases h
 .cases h
def dU {s2:F5}{op:F0}(h:∀x,x∈op.M9->F1 s2.T s2.L x=F1 st.T st.L x):F2 s2 op=F2 st op:=by
 cases op<;>simp [F2];simp_all [F0.M9]
def dL {s2:F5}{op:F0}(h:∀x,x∈op.M9->F1 s2.T s2.L x=F1 st.T st.L x)(hH:s2.H=st.H):F8 E s2 op=F8 E st op:=by
 cases op<;>simp only [F8,F0.M9] at h ⊢
 case call f xs=>rw [hH,Q9 h]
 case bJ x xs=>rw [hH,h x U,Q9 (l:=xs) λy hy=>h y (by simp [hy])]
 case M3 sz zU x y=>rw [h x U,h y U]
def R5 {i:x9}(hu:q∉bf j8 i):∀x,x∈i.op.M9->F1 (put st q v).T (put st q v).L x=F1 st.T st.L x :=
 λ_ hx=>lP (L7 hx hu)
theorem NF.F1 {n:Nat}{dst:Option Nat}{f:F5->F5}(hf:NF k n dst f){x:A3}(h:k∉x.aQ)(ht:∀t,dst=J t->t∉x.slots)(s:F5):F1 (f s).T (f s).L x=F1 s.T s.L x:=by
 cases hf with
 |mk o v u =>
  simp_all [kQ,lP,AU,wo]
def NF.wanted {n:Nat}{dst:Option Nat}{f:F5->F5}(hf:NF k n dst f){g:Option (Nat×Bool)}(h:∀j b,g=J (j,b)->j≠k)(s:F5):y5 (f s).L g=y5 s.L g:=by
 cases hf with
 |mk o v u =>
  simp_all [wq,wanted_put,wo]
theorem NF.l6 {n:Nat}{dst:Option Nat}{f:F5->F5}(hf:NF k n dst f)(s:F5):(f s).l6=s.l6:=by
 cases hf with
 |mk o v u =>
  rw [Mx];exact DC _ _ _
def NF.U2 {n:Nat}{dst:Option Nat}{f:F5->F5}(hf:NF k n dst f)(s:F5):O (f s).T=O s.T:=by
 cases hf with
 |mk o v u =>
  rw [zv];show O (jt s n o).T=_
  rw [AU]
def NF.fO {n:Nat}{dst:Option Nat}{f:F5->F5}(hf:NF k n dst f)(s:F5):O (f s).L=O s.L:=by
 cases hf with
 |mk o v u =>
  simp_all [wq,put,wo]
def NF.comm {n m j i:Nat}{d e:Option Nat}{f g:F5->F5}(hf:NF j n d f)(hg:NF i m e g)(hji:j≠i)(hnm:n≠m)(hde:∀s,e=J s->d≠J s)(s:F5):f (g s)=g (f s):=by
 cases hf with
 |mk o v u =>
  cases hg with
  |mk o' v' u' =>
   have mz:∀(l:List s6) (a b:s6),(l.set m b).set n a=(l.set n a).set m b:=λl a b=>List.set_comm _ _ (λe=>hnm e.symm)
   have hL:∀(l:List c7) (a b:c7),(l.set i b).set j a=(l.set j a).set i b:=λl a b=>List.set_comm _ _ (λe=>hji e.symm)
   cases o<;>cases o' <;>cases d<;>cases e<;>simp [Q2,jt,O3,put,hL]
   all_goals grind [set,List.set_comm]
def FD {i:x9}{m:Nat}{o:s6}(hs:F8 E st i.op<=m):F8 E (O3 st m o) i.op=F8 E st i.op:=by
 have e:∀x,F1 (O3 st m o).T (O3 st m o).L x=F1 st.T st.L x:=λ_=>rfl
 have e1:(O3 st m o).H=st.H.set m o:=rfl;have e2:∀xs,List.map (F1 (O3 st m o).T (O3 st m o).L) xs=List.map (F1 st.T st.L) xs:=λ_=>rfl
 cases hop:i.op<;>rw [hop] at hs<;>simp only [F8] at hs ⊢
 case call f xs =>
  simp only [e1,e2,List.length_set]
  by_cases hp:E.prom f=W
  .rw [if_pos hp,if_pos hp]
  .rw [if_neg hp] at hs ⊢
   rw [if_neg hp];exact fH _ _ _ _ _ _ hs
 case bJ x xs =>
  simp only [e x,e1,e2,List.length_set];split at hs
  next f first caps hx=>
   by_cases hp:E.prom f=W
   .simp only [hp,if_true]
   .rw [if_neg hp] at hs ⊢
    rw [if_neg hp];exact fH _ _ _ _ _ _ hs
  .rfl
 case M3=>rfl
def NF.Je {n j:Nat}{dst:Option Nat}{f:F5->F5}(hf:NF j n dst f){i:x9}(hu:j∉bf j8 i)(ht:∀t,dst=J t->t∉cn i) :
  ∃o:Option s6,F8 E (f st) i.op=F8 E (jt st n o) i.op:=by
 cases hf with
 |mk o v u =>
  refine ⟨o,?_⟩;refine dL (λx hx=>?_) ?_
  .grind [kQ,lP,L7,cn]
  .simp [qX]
   rfl
def Uv {i:x9}{n j:Nat}{dst:Option Nat}{f:F5->F5}(hf:NF j n dst f)(hC:mg i=W\/ot j8 i=W)(hjk:j≠k)(hu:j∉bf j8 i)(ht:∀t,dst=J t->t∉cn i)(hd:∀s,i.dst=J s->dst≠J s)(hn:n<O st.H)(hs:F8 E st i.op<=n) :
  x8 E j8 z6 k i (f st)=(x8 E j8 z6 k i st).map (λp=>(f p.1,p.2))/\F8 E (f st) i.op=F8 E st i.op:=by
 refine ⟨?_,?_⟩
 .cases hf with
  |mk o v u =>
   have h1:=hC.elim (λhC=>nP (E:=E) (j8:=j8) (z6:=z6) (k:=k) (st:=put (jt st n o) j v) (u:=u) (.inl hC) ht hd) λhC=>sQ (E:=E) (j8:=j8) (z6:=z6) (k:=k) (st:=put (jt st n o) j v) (u:=u) hC ht hd
   have h2:=fC (E:=E) (z6:=z6) (v:=v) (st:=jt st n o) hjk hu (.of (dw hC _));have h3:x8 E j8 z6 k i (jt st n o)=(x8 E j8 z6 k i st).map (λp=>(jt p.1 n o,p.2)):=by
    cases o with
    |none=>simp only [jt];cases x8 E j8 z6 k i st<;>rfl
    |some o=>exact hC.elim (λhC=>FJ hC hn hs) λhC=>DH hC hn hs
   simp only;rw [h1,h2,h3];cases x8 E j8 z6 k i st<;>rfl
 .obtain ⟨o,ho⟩:=hf.Je (E:=E) (st:=st) hu ht
  rw [ho];cases o with
  |none=>rfl
  |some o=>exact FD hs
def PO {i:x9}{j:Nat}{dst:Option Nat}{f:F5->F5}(hf:TT j dst f)(hC:(mg i=W\/ot j8 i=W)\/xw i=W)(hjk:j≠k)(hu:j∉bf j8 i)(ht:∀t,dst=J t->t∉cn i)(hd:∀s,i.dst=J s->dst≠J s) :
  x8 E j8 z6 k i (f st)=(x8 E j8 z6 k i st).map (λp=>(f p.1,p.2))/\F8 E (f st) i.op=F8 E st i.op:=by
 cases hf with
 |mk v u =>
  have h1:x8 E j8 z6 k i (Q2 (put st j v) dst u)=(x8 E j8 z6 k i (put st j v)).map λp=>(Q2 p.1 dst u,p.2):=by
   rcases hC with (hC|hC)|hC
   .exact nP (.inl hC) ht hd
   .exact sQ hC ht hd
   .exact nP (.inr hC) ht hd
  have h2:=fC (E:=E) (z6:=z6) (v:=v) (st:=st) hjk hu (.of (hC.elim (λh=>dw h _) (λh=>ij h _)));refine ⟨?_,?_⟩
  .simp only
   rw [h1,h2];cases x8 E j8 z6 k i st<;>rfl
  .refine dL (λx hx=>?_) (by rw [qX];rfl)
   rw [kQ (λt ht' =>λhs=>ht t ht' (by unfold cn;exact List.mem_flatMap.2 ⟨x,hx,hs⟩)),lP (L7 hx hu)]
def Hz {i:x9}{n j:Nat}{dst:Option Nat}{f:F5->F5}(hf:NF j n dst f)(hu:j∉bf j8 i)(ht:∀t,dst=J t->t∉cn i)(hs:F8 E (f st) i.op<=n):F8 E st i.op=F8 E (f st) i.op:=by
 obtain ⟨o,ho⟩:=hf.Je (E:=E) (st:=st) hu ht;rw [ho] at hs ⊢;cases o with
 |none=>rfl
 |some o=>exact Jf hs
def iF {i:x9}{s s2 s' s2' :F5}{rs:List Nat}(h1:s2.l6=s.l6)(h2:s2'.l6=s'.l6)(h3:F8 E s2 i.op=F8 E s i.op):T0 E i z6 s2 s2' rs=T0 E i z6 s s' rs:=by
 simp_all [T0]
def bV {i:x9}{s s2 s' s2' :F5}{rs:List Nat}(h1:s2'.l6.take (O s2'.l6 - O s2.l6)=s'.l6.take (O s'.l6 - O s.l6))(h3:F8 E s2 i.op=F8 E s i.op):T0 E i z6 s2 s2' rs=T0 E i z6 s s' rs:=by
 simp_all [T0]
def Still.AQ {i b:x9}{d:List Touch}{tE:Option Nat}{kb:Nat}(h:Still kb b.dst tE d st st')(hl:kb∉bf j8 i)(ht:∀s,b.dst=J s->s∉cn i):∀x,x∈i.op.M9->y9.F1 st'.T st'.L x=y9.F1 st.T st.L x:=by
 intro x hx;refine h.F1 (L7 hx hl) λs hs e=>ht s e ?_
 simp_all [cn,List.mem_flatMap]
def Still.lZ {i b:x9}{d:List Touch}{tE:Option Nat}{kb:Nat}(h:Still kb b.dst tE d st st')(hl:kb∉bf j8 i):y5 st'.L i.guard=y5 st.L i.guard :=
 h.wanted λ_ _ hg=>bw hg hl
def fE (j8:List x9)(st:F5):Prop:=∀(k:Nat) i s,j8[k]? =J i->i.op.y3=W->i.dst=J s->st.l6.any (Touch.P9 s)=W
def Still.marked {kb:Nat}{dst tE:Option Nat}{d:List Touch}(h:Still kb dst tE d st st')(hm:fE j8 st):fE j8 st' :=by
 intro k i s hi ha hd;rw [h.l6,List.any_append,hm k i s hi ha hd];simp
def rA {i:x9}{rs:List Nat}(hn:z6.isSome=i.op.y3)(h:x8 E j8 z6 k i st=J (st',rs)):O st.H<=O st'.H/\∃d,st'.l6=d++st.l6:=by
 cases hk:F2 st i.op with
 |false =>
  obtain ⟨d,hd⟩:=Still.x8 hk hn h;exact ⟨hd.Fl,d,hd.l6⟩
 |true =>
  have slot:∀{s s2:F5} {dst:Option Nat},s8 z6 s k dst=J s2->O s.H=O s2.H/\∃d,s2.l6=d++s.l6:=by
   intro s s2 dst h;have hx:(E2 s (.loc k)).2.H=s.H/\(E2 s (.loc k)).2.l6=s.l6:=by
    simp only [E2];split<;>exact ⟨rfl,rfl⟩
   cases dst with
   |none=>cases z6<;>simp only [s8,C9,Q4,Option.some.injEq] at h<;>subst h<;>exact ⟨rfl,[],rfl⟩
   |some t =>
    cases z6<;>simp only [s8,C9,Q4] at h
    .split at h
     .cases h;exact ⟨by simp only [hx.1],[_],rfl⟩
     .cases h
    .split at h
     .cases h;exact ⟨by simp only [hx.1],[],by simp only [hx.2];rfl⟩
     .cases h
  have at3:∀{v:c7} {s2:F5},s8 z6 (put st k v) k i.dst=J s2->O st.H<=O s2.H/\∃d,s2.l6=d++st.l6:=by
   intro v s2 h;obtain ⟨h1,d,h2⟩:=slot h;exact ⟨Nat.le_of_eq h1,d,h2⟩
  simp only [x8] at h;split at h
  .split at h
   next s1 Xz h1=>
    split at h
    next s2 h2=>
     cases h;obtain ⟨e1,d,e2⟩:=slot h2;have hw:O st.H<=O s1.H/\∃d,s1.l6=d++st.l6:=by
      cases hop:i.op<;>rw [hop] at hk h1<;>simp only [F2,j6] at hk
      next sz bytes ob x y=>
       simp only [B1,F0.A9,if_true] at h1;split at h1
       next s3 h3=>
        cases h1;simp only [B9] at h3;split at hk
        next id z lo len hr=>
         rw [hr] at h3;simp only at h3;split at h3
         .simp only [S0] at h3
          split at h3
          .split at h3
           .split at h3
            .cases h3
             refine ⟨by simp [put];omega,[_],rfl⟩
            .cases h3
           .cases h3
          .cases h3
         .cases h3
        .cases hk
       .cases h1
     obtain ⟨e3,d2,e4⟩:=hw;exact ⟨V,d++d2,by rw [e2,e4,G8]⟩
    .cases h
   .cases h
  .split at h
   next s2 h2=>
    cases h;exact at3 h2
   .cases h
  .cases h
theorem fE.ext (hm:fE j8 st)(h:∃d,st'.l6=d++st.l6):fE j8 st' :=by
 obtain ⟨d,h⟩:=h;intro k i s hi ha hd;rw [h,List.any_append,hm k i s hi ha hd];simp
def swap {R9:Nat->Option Nat}{lg:Nat->cT}(hn:HF j8 R9)(Ob:FW j8 lg){j i:Nat}{a b:x9}(hp:AG j8 j a i b=W)(ha:j8[j]? =J a)(hb:j8[i]? =J b)(hji:j≠i)
  (hin:∀k n,R9 k=J n->n<O st.H) (qo:fE j8 st) (h1:FY E j8 R9 lg j st st1) (h2:FY E j8 R9 lg i st1 st2):∃DF,FY E j8 R9 lg i st DF /\FY E j8 R9 lg j DF st2:=by
 obtain ⟨a',TZ,h1⟩:=h1;rw [ha] at TZ;cases TZ;obtain ⟨b',hb',h2⟩:=h2;rw [hb] at hb';cases hb';obtain ⟨ka0,Un,sa,la⟩:=Z5.1 h1;obtain ⟨kb0,rsb,sb,lb⟩:=Z5.1 h2;simp only [AG,c9,o3,List.contains_eq_mem,decide_eq_false_iff_not] at hp;obtain ⟨⟨⟨⟨u1,u2⟩,t1⟩,t2⟩,cr⟩:=hp;have Uo :∀s,b.dst=J s->s∉cn a:=by
  intro s hs;rw [hs] at t1;simp at t1;exact t1.1
 have t3:∀s,b.dst=J s->a.dst≠J s:=by
  intro s hs;rw [hs] at t1;simp at t1;exact t1.2
 have t4:∀s,a.dst=J s->b.dst≠J s:=λs hs h=>t3 s h hs
 have TF :∀s,a.dst=J s->s∉cn b:=by
  intro s hs;rw [hs] at t2;simpa using t2
 have LH:=hn.alloc j a ha;have tE:=hn.alloc i b hb;simp only [Bool.or_eq_true,c9,decide_eq_true_eq] at cr;cases kb:F2 st1 b.op with
 |true =>
  have hu:uG a=W/\i∈a.Y2:=by
   rcases cr with (((((h|h)|h)|h)|h)|h)|h
   .rcases h.2 with h2|h2
    .rw [dA h2] at kb;cases kb
    .exact ⟨h.1,h2⟩
   .rw [dA h.1] at kb;cases kb
   .rw [Z2 h.2] at kb;cases kb
   .rw [dw h.1.2] at kb;cases kb
   .rw [Z2 h.1.2] at kb;cases kb
   .rw [ij h.2] at kb;cases kb
   .rw [Z2 (qz h.2).1] at kb;cases kb
  obtain ⟨sz,zU,ob,x,y,s,id,z,lo,n,jd,o,hop,KY,hd,hg,hx,hT,hne⟩:=BI (GX kb0 kb ha hu.2);obtain ⟨v,e0,_⟩:=zL hu.1 sa;have hT0:st.T[s]? =J (.ptr jd o):=by rw [e0] at hT;exact hT
  rw [oS KY hd hg hT0] at sa;obtain ⟨rfl,rfl⟩:put st j (.ptr jd o)=st1/\[]=Un:=by simpa using sa
  have hx0:F1 st.T st.L x= .r7 id z lo n:=by rw [<- R5 u1 x (by simp [hop,F0.M9])];exact hx
  rw [fC hji u1 (by rw [hop];exact BJ hx0 hne)] at sb;cases vp:x8 E j8 (R9 i) i b st with
  |none=>rw [vp] at sb;cases sb
  |some p =>
   obtain ⟨s',rs'⟩:=p;rw [vp] at sb;simp only [B6,Option.some.injEq,Prod.mk.injEq] at sb;obtain ⟨rfl,rfl⟩:=sb;have Va:=Bx hop hx0 vp (λe=>Uo s e (by simp [cn,KY,F0.M9,A3.slots])) hT0 hne;refine ⟨s',⟨b,hb,Z5.2 ⟨?_,rs',vp,?_⟩⟩,a,ha,Z5.2 ⟨by rw [dA hu.1];rfl,[],oS KY hd hg Va,?_⟩⟩
   .rw [<- kb0,dU (R5 u1)]
    simp only [uy (R5 u1) (show (put st j (.ptr jd o)).T=st.T from rfl)]
   .rw [lb];exact iF rfl rfl (dL (R5 u1) rfl)
   .rw [la];exact (bV (by simp [put]) (by rw [bO hu.1,bO hu.1])).symm
 |false =>
 cases ka:F2 st a.op with
 |true =>
  have hu:uG b=W/\j∈b.Y2:=by
   rcases cr with (((((h|h)|h)|h)|h)|h)|h
   .rw [dA h.1] at ka;cases ka
   .exact ⟨h.1,h.2⟩
   .rw [Z2 h.1] at ka;cases ka
   .rw [Z2 h.1.1] at ka;cases ka
   .rw [dw h.1.1] at ka;cases ka
   .rw [Z2 (qz h.1).1] at ka;cases ka
   .rw [ij h.1] at ka;cases ka
  obtain ⟨sz,zU,ob,x,y,s,id,z,lo,n,jd,o,hop,KY,hd,hg,hx,hT,hne⟩:=BI (GX ka0 ka hb hu.2);have hT1:=Bx hop hx sa (λe=>TF s e (by simp [cn,KY,F0.M9,A3.slots])) hT hne;rw [oS KY hd hg hT1] at sb;obtain ⟨rfl,rfl⟩:put st1 i (.ptr jd o)=st2/\[]=rsb:=by simpa using sb
  refine ⟨put st i (.ptr jd o),⟨b,hb,Z5.2 ⟨by rw [dA hu.1];rfl,[],oS KY hd hg hT,?_⟩⟩,a,ha,Z5.2 ⟨?_,Un,?_,?_⟩⟩
  .rw [lb];exact bV (by simp [put]) (by rw [bO hu.1,bO hu.1])
  .rw [<- ka0,dU (R5 u2)]
   simp only [uy (R5 u2) (show (put st i (.ptr jd o)).T=st.T from rfl)]
  .rw [fC (λe=>hji e.symm) u2 (by rw [hop];exact BJ hx hne),sa]
   rfl
  .rw [la];exact (iF (s:=st) (s2:=put st i (.ptr jd o)) (s' :=st1) (s2' :=put st1 i (.ptr jd o)) rfl rfl (dL (R5 u2) rfl)).symm
 |false =>
 obtain ⟨da,TD⟩:=Still.x8 ka LH sa;have SC:mh a=W->((mg b=W\/ot j8 b=W)\/xw b=W)->(a.op.makes=W->(mg b=W\/ot j8 b=W)/\i∈a.Y2)->∃DF,FY E j8 R9 lg i st DF /\FY E j8 R9 lg j DF st2:=by
  intro JA UZ KX;have hkb:∀s,F2 s b.op=F:=λs=>UZ.elim (λh=>dw h s) (λh=>ij h s)
  have qG:=dx JA;rw [qG] at LH;obtain ⟨n,Qo⟩:=Option.isSome_iff_exists.1 LH;rw [Qo] at sa;obtain ⟨rfl,f,hf,hf0,rfl,Ta⟩:=zJ JA sa;obtain ⟨hs1,hs2⟩:x8 E j8 (R9 i) i b (f st)=(x8 E j8 (R9 i) i b st).map (λp=>(f p.1,p.2))/\F8 E (f st) b.op=F8 E st b.op:=by
   cases hmk:a.op.makes with
   |true =>
    have Og:F8 E (f st) b.op<=n:=by
     have:=(Ob j a i ha (KX hmk).2).2 hmk;rw [lb,la] at this;simpa [T0,Qo] using this
    have VG:=Hz hf u1 TF Og;exact Uv (E:=E) (j8:=j8) (z6:=R9 i) hf (KX hmk).1 hji u1 TF t3 (hin j n Qo) (by rw [VG];exact Og)
   |false=>exact PO (hf0 hmk) UZ hji u1 TF t3
  rw [hs1] at sb;cases vp:x8 E j8 (R9 i) i b st with
  |none=>rw [vp] at sb;cases sb
  |some p =>
   obtain ⟨s',rs'⟩:=p;rw [vp] at sb;simp only [B6,Option.some.injEq,Prod.mk.injEq] at sb;obtain ⟨rfl,rfl⟩:=sb;obtain ⟨db,PB⟩:=Still.x8 (hkb st) tE vp;refine ⟨s',⟨b,hb,aZ ⟨hkb _,rs',vp,?_⟩⟩,a,ha,aZ ⟨Z2 JA _,[],?_,?_⟩⟩
   .rw [lb]
    exact iF (hf.l6 _) (hf.l6 _) hs2
   .rw [Qo]
    exact Ta s' (PB.AQ u2 Uo) (PB.lZ u2) ⟨PB.U2,PB.fO,λs hs=>PB.marked qo j a s ha qG hs⟩
   .rw [la]
    refine bV ?_ ?_
    .simp [hf.l6]
    .rw [bN JA,bN JA]
 have SD:mh b=W->((mg a=W\/ot j8 a=W)\/xw a=W)->(b.op.makes=W->(mg a=W\/ot j8 a=W)/\j∈b.Y2)->∃DF,FY E j8 R9 lg i st DF /\FY E j8 R9 lg j DF st2:=by
  intro JB UZ KX;have hka:∀s,F2 s a.op=F:=λs=>UZ.elim (λh=>dw h s) (λh=>ij h s)
  have qG:=dx JB;rw [qG] at tE;obtain ⟨m,Eh⟩:=Option.isSome_iff_exists.1 tE;rw [Eh] at sb;obtain ⟨rfl,g,hg,Ni,rfl,Tb⟩:=zJ JB sb;obtain ⟨hs1,hs2⟩:x8 E j8 (R9 j) j a (g st)=(x8 E j8 (R9 j) j a st).map (λp=>(g p.1,p.2))/\F8 E (g st) a.op=F8 E st a.op:=by
   cases hmk:b.op.makes with
   |true =>
    have Og:F8 E st a.op<=m:=by
     have:=(Ob i b j hb (KX hmk).2).2 hmk;rw [lb,la] at this;simpa [T0,Eh] using this
    exact Uv (E:=E) (j8:=j8) (z6:=R9 j) hg (KX hmk).1 (λe=>hji e.symm) u2 Uo t4 (hin i m Eh) Og
   |false=>exact PO (Ni hmk) UZ (λe=>hji e.symm) u2 Uo t4
  have XB:x8 E j8 (J m) i b st=J (g st,[]) :=
   Tb st (λx hx=>(TD.AQ u1 TF x hx).symm) (TD.lZ u1).symm ⟨TD.U2.symm,TD.fO.symm,λs hs=>qo i b s hb qG hs⟩
  refine ⟨g st,⟨b,hb,aZ ⟨Z2 JB _,[],by rw [Eh];exact XB,?_⟩⟩,a,ha,aZ ⟨hka _,Un,?_,?_⟩⟩
  .rw [lb]
   refine bV ?_ ?_
   .simp [hg.l6]
   .rw [bN JB,bN JB]
  .rw [hs1,sa];rfl
  .rw [la]
   exact (iF (hg.l6 _) (hg.l6 _) hs2).symm
 rcases cr with (((((cr|cr)|cr)|cr)|cr)|cr)|cr
 ·
  obtain ⟨hPa,cr⟩:=cr;obtain ⟨v,rfl,Ta⟩:=zL hPa sa;have kb' :F2 st b.op=F:=by rw [<- dU (R5 u1)];exact kb
  have hs:=fC (E:=E) (z6:=R9 i) (v:=v) hji u1 (.of kb');rw [hs] at sb;cases vp:x8 E j8 (R9 i) i b st with
  |none=>rw [vp] at sb;cases sb
  |some p =>
   obtain ⟨s',rs'⟩:=p;rw [vp] at sb;simp only [B6,Option.some.injEq,Prod.mk.injEq] at sb;obtain ⟨rfl,rfl⟩:=sb;have lb' :lg i=T0 E b (R9 i) st s' rs' :=by rw [lb];exact iF rfl rfl (dL (R5 u1) rfl)
   obtain ⟨db,PB⟩:=Still.x8 kb' tE vp;refine ⟨s',⟨b,hb,aZ ⟨kb',rs',vp,lb'⟩⟩,a,ha,aZ ⟨dA hPa _,Un,?_,?_⟩⟩
   .refine Ta s' (PB.AQ u2 Uo) (PB.lZ u2) λid hid=>?_
    rcases cr with TY|hun
    .obtain ⟨u,rfl,_⟩:=zL TY vp
     exact O1.refl _
    .have:=(Ob j a i ha hun).1
     rw [lb',la] at this;exact PB.reads (E:=E) (i:=b) (rs:=rs') this hid
   .rw [la]
    refine (bV ?_ ?_).symm
    .simp [put]
    .rw [bO hPa,bO hPa]
 ·
  obtain ⟨TY,hun⟩:=cr;obtain ⟨v,rfl,Tb⟩:=zL TY sb;have XB:x8 E j8 (R9 i) i b st=J (put st i v,rsb):=by
   refine Tb st (λx hx=>(TD.AQ u1 TF x hx).symm) (TD.lZ u1).symm λid hid=>?_
   have:=(Ob i b j hb hun).1;rw [la,lb] at this;exact (TD.reads (E:=E) (i:=a) (rs:=Un) this hid).symm
  refine ⟨put st i v,⟨b,hb,aZ ⟨dA TY _,rsb,XB,?_⟩⟩,a,ha,aZ ⟨by rw [dU (R5 u2)];exact ka,Un,?_,?_⟩⟩
  .rw [lb]
   refine (bV ?_ ?_)
   .simp [put]
   .rw [bO TY,bO TY]
  .rw [fC (λe=>hji e.symm) u2 (.of ka),sa]
   rfl
  .rw [la]
   exact (iF (s:=st) (s2:=put st i v) (s' :=st1) (s2' :=put st1 i v) rfl rfl (dL (R5 u2) rfl)).symm
 ·
  obtain ⟨JA,JB⟩:=cr;rw [dx JA] at LH;rw [dx JB] at tE;obtain ⟨n,Qo⟩:=Option.isSome_iff_exists.1 LH;obtain ⟨m,Eh⟩:=Option.isSome_iff_exists.1 tE;rw [Qo] at sa;rw [Eh] at sb;obtain ⟨rfl,f,hf,hf0,rfl,Ta⟩:=zJ JA sa;obtain ⟨rfl,g,hg,Ni,rfl,Tb⟩:=zJ JB sb;have hnm:n≠m:=by
   rintro rfl;exact hji (hn.inj j i n Qo Eh)
  have ut:∀{c:x9} {x:A3} {t:Nat},x∈c.op.M9->t∉cn c->t∉x.slots:=by
   intro c x t hx ht h;apply ht;unfold cn;exact List.mem_flatMap.2 ⟨x,hx,h⟩
  have XB:x8 E j8 (J m) i b st=J (g st,[]) :=
   Tb st (λx hx=>(hf.F1 (L7 hx u1) (λt ht=>ut hx (TF t ht)) st).symm) (hf.wanted (λ_ _ h=>bw h u1) st).symm ⟨(hf.U2 st).symm,(hf.fO st).symm,λs hs=>qo i b s hb (dx JB) hs⟩
  have sa0:x8 E j8 (J n) j a (g st)=J (f (g st),[]) :=
   Ta (g st) (λx hx=>hg.F1 (L7 hx u2) (λt ht=>ut hx (Uo t ht)) st) (hg.wanted (λ_ _ h=>bw h u2) st) ⟨hg.U2 st,hg.fO st,λs hs=>by rw [hg.l6];exact qo j a s ha (dx JA) hs⟩
  refine ⟨g st,⟨b,hb,aZ ⟨Z2 JB _,[],by rw [Eh];exact XB,?_⟩⟩,a,ha,aZ ⟨Z2 JA _,[],by rw [Qo,sa0,hf.comm hg hji hnm t3],?_⟩⟩
  .rw [lb]
   refine bV ?_ ?_
   .simp [hf.l6,hg.l6]
   .rw [bN JB,bN JB]
  .rw [la]
   refine (bV ?_ ?_)
   .simp [hf.l6,hg.l6]
   .rw [bN JA,bN JA]
 .exact SC cr.1.1 (.inl cr.1.2) λ_=>⟨cr.1.2,cr.2⟩
 .exact SD cr.1.2 (.inl cr.1.1) λ_=>⟨cr.1.1,cr.2⟩
 .exact SC (qz cr.1).1 (.inr cr.2) λh=>by rw [(qz cr.1).2] at h;cases h
 .exact SD (qz cr.2).1 (.inr cr.1) λh=>by rw [(qz cr.2).2] at h;cases h
end
end Go.y9
namespace Go.y9
variable [D2]
inductive nX (E:Env) (j8:List x9) (R9:Nat->Option Nat) (lg:Nat->cT):List Nat->F5->F5->Prop where
 |nil (st:F5):nX E j8 R9 lg [] st st
 |cons {k:Nat} {ks:List Nat} {st st1 st2:F5}:FY E j8 R9 lg k st st1->nX E j8 R9 lg ks st1 st2->nX E j8 R9 lg (k::ks) st st2
section
variable {E:Env} {j8:List x9} {R9:Nat->Option Nat} {lg:Nat->cT} {st st1 st2 fin:F5}
theorem FY.len (hn:HF j8 R9){k:Nat}(h:FY E j8 R9 lg k st st1):O st.H<=O st1.H:=by
 obtain ⟨i,hi,h⟩:=h;obtain ⟨hk,rs,hs,_⟩:=Z5.1 h;exact (rA (hn.alloc k i hi) hs).1
def FY.marked (hn:HF j8 R9){k:Nat}(h:FY E j8 R9 lg k st st1)(hm:fE j8 st):fE j8 st1:=by
 obtain ⟨i,hi,h⟩:=h;obtain ⟨hk,rs,hs,_⟩:=Z5.1 h;exact hm.ext (rA (hn.alloc k i hi) hs).2
theorem nX.front (hn:HF j8 R9)(Ob:FW j8 lg){i:Nat}{b:x9}(hb:j8[i]? =J b){rest:List Nat} :
  ∀(js:List Nat) (st:F5),(∀j,j∈js->j≠i/\∃a,j8[j]? =J a/\AG j8 j a i b=W)->(∀k n,R9 k=J n->n<O st.H)->fE j8 st->nX E j8 R9 lg (js++i::rest) st fin ->
   ∃st',FY E j8 R9 lg i st st' /\nX E j8 R9 lg (js++rest) st' fin
 |[],st,_,_,_,h=>by
  cases h with
  |cons h1 h2=>grind
 |j::js,st,hj,hin,qo,h=>by
  cases h with
  |cons h1 h2 =>
   obtain ⟨s2,g1,g2⟩:=nX.front hn Ob hb js _ (λj' hj' =>hj j' (by simp [hj'])) (λk n hk=>Nat.lt_of_lt_of_le (hin k n hk) (h1.len hn)) (h1.marked hn qo) h2;obtain ⟨hne,a,ha,hp⟩:=hj j U;obtain ⟨s1,e1,e2⟩:=swap hn Ob hp ha hb hne hin qo h1 g1;exact ⟨s1,e1,nX.cons e2 g2⟩
end
def direct (o:Oper):List Nat:=(o.after.toList.filter (Region.binds .any)).map (·.on)
def Eu:List Oper->List (List Nat)->List (List Nat)
 |[],acc=>acc
 |o::os,acc=>Eu os (acc++[((direct o).flatMap λe=>e::acc.getD e []).eraseDups])
def De (M6:List (List Nat))(k:Nat)(o:Oper):Bool :=
 (M6.getD k []).all λj=>(direct o).contains j||(direct o).any λe=>(M6.getD e []).contains j
def uC (j8:List x9)(M6:List (List Nat))(i:Nat)(b:x9):Bool :=
 (List.range i).all λj=>(M6.getD i []).contains j||(match j8[j]? with
  |some a=>AG j8 j a i b
  |none=>F)
def kg (X:Cx)(j8:List x9)(M6:List (List Nat)):List x9->Nat->Bool
 |[],k=>X.ops.size==k
 |i::is,k=>(match X.ops[k]? with
  |some o=>De M6 k o&&(direct o).all (λe=>decide (e<k))&&mV X (λj=>(M6.getD k []).contains j) o i&&uC j8 M6 k i
  |none=>F)&&kg X j8 M6 is (k+1)
theorem uA {X:Cx}{j8:List x9}{M6:List (List Nat)}:∀(is:List x9) (k:Nat),j8.drop k=is->kg X j8 M6 is k=W->∀(m:Nat) b,k<=m->j8[m]? =J b ->
  ∃o,X.ops[m]? =J o/\De M6 m o=W/\(∀e,e∈direct o->e<m)/\mV X (λj=>(M6.getD m []).contains j) o b=W/\uC j8 M6 m b=W
 |[],k,hd,_,m,b,hkm,hb=>by
  simp_all [List.length]<;>grind
 |i::is,k,hd,h,m,b,hkm,hb=>by
  simp only [kg,c9] at h
  by_cases e:m=k
  .subst e
   have hi:j8[m]? =J i:=by
    have:(j8.drop m)[0]? =J i:=by rw [hd];rfl
    grind
   grind
  .have hd' :j8.drop (k+1)=is:=by
    have:=congrArg (List.drop 1) hd
    grind [List.drop_drop]
   exact uA is (k+1) hd' h.2 m b V hb
theorem ki {X:Cx}{j8:List x9}{M6:List (List Nat)}:∀(is:List x9) (k:Nat),kg X j8 M6 is k=W->X.ops.size=k+O is
 |[],k,h=>by grind [kg]
 |i::is,k,h=>by
  simp [kg,c9] at h;have:=ki is (k+1) h.2
  grind
def JL (X:Cx)(S:Nat->Prop):Prop:=∀(k:Nat) o,S k->X.ops[k]? =J o->∀e,e∈direct o->S e
def Ev {X:Cx}{M6:List (List Nat)}{S:Nat->Prop}(hc:JL X S)(hok:∀(k:Nat) o,X.ops[k]? =J o->De M6 k o=W/\∀e,e∈direct o->e<k)(hout:∀k,X.ops.size<=k->M6.getD k []=[]) :
  ∀(n k:Nat),k<=n->∀o,X.ops[k]? =J o->(∀e,e∈direct o->S e)->∀j,j∈M6.getD k []->S j:=by
 intro n
 induction n with
 |zero =>
  grind [De]
 |succ n ih =>
  intro k hk o ho hd j hj;obtain ⟨h1,h2⟩:=hok k o ho;have:=List.all_eq_true.1 h1 j hj;simp [Bool.or_eq_true,List.contains_eq_mem,decide_eq_true_eq,List.any_eq_true] at this
  rcases this with h|⟨e,he,hej⟩
  .exact hd j h
  .have hlt:=h2 e he
   cases hoe:X.ops[e]? with
   |none =>
    simp_all
   |some oe=>exact ih e V oe hoe (hc e oe (hd e he) hoe) j hej
def aW (n:Nat)(listed:Array Bool):List Nat:=(List.range n).filter λj=> !listed.getD j F
def Dw {n i:Nat}{listed:Array Bool}(hi:i<n)(hu:listed.getD i F=F)(hs:listed.size=n) :
  ∃js rest,aW n listed=js++i::rest/\aW n (listed.setIfInBounds i W)=js++rest/\∀j,j∈js->j<i/\listed.getD j F=F:=by
 refine ⟨(List.range i).filter λj=> !listed.getD j F,(List.range' (i+1) (n - i - 1)).filter λj=> !listed.getD j F,?_,?_,?_⟩
 .unfold aW
  have:List.range n=List.range i++i::List.range' (i+1) (n - i - 1):=by
   have h:=List.range'_append_1 (s:=0) (m:=i) (n:=n - i - 1+1)
   grind [List.range_eq_range',List.range'_succ]
  simp_all
 .unfold aW
  have:List.range n=List.range i++i::List.range' (i+1) (n - i - 1):=by
   have h:=List.range'_append_1 (s:=0) (m:=i) (n:=n - i - 1+1)
   grind [List.range_eq_range',List.range'_succ]
  rw [this,List.filter_append,List.filter_cons];have e1:(!(listed.setIfInBounds i W).getD i F)=F:=by simp [hs,hi]
  rw [e1]
  congr 1
  .refine List.filter_congr λj hj=>?_
   simp_all<;>grind
  .refine List.filter_congr λj hj=>?_
   simp_all<;>grind
 simp_all
section
variable {X:Cx} {j8:List x9} {E:Env} {nt:Nat} {R9:Nat->Option Nat} {lg:Nat->cT} {fin:F5} {M6:List (List Nat)}
def HK (hst:Stat X nt)(GG:jR X.P E.cf E.prom)(de:∀f args H lm r,E.cf f args H lm=J r->P5 X.P f=W)(hs:E.lim.strict<=E.lim.base)(RW:E.lim.base<=E.entry)(Q:Exit->Act->World->Prop)
  (Cm:kg X j8 M6 j8 0=W) (hout:∀k,X.ops.size<=k->M6.getD k []=[]) (hn:HF j8 R9) (hne:∀k n,R9 k=J n->E.entry<=n) (Ob:FW j8 lg) :
  ∀(fuel:Nat) (listed:Array Bool) (st:F5) (a:Act) (w:World) (G:Gh) (I:O5) (N:Nat->Prop),Rg X j8 E nt (λj=>listed.getD j F=W) st a w G I N->listed.size=O j8->JL X (λj=>listed.getD j F=W) ->
   (∀k n,R9 k=J n->n<O st.H)->fE j8 st->(∀k n,R9 k=J n->listed.getD k F=F->¬ N n)->nX E j8 R9 lg (aW (O j8) listed) st fin->O (aW (O j8) listed)<=fuel ->
   (∀a' w' G' I' N',Fin X j8 E nt st w G I N fin a' w' G' I' N' ->Q .normal a' w')->wpAny X.P .any X.ops Q fuel listed a w:=by
 have hsize:X.ops.size=O j8:=by grind [ki]
 have tv:=λ(m:Nat) b hb=>uA j8 0 U Cm m b (x3 _) hb
 have KZ:∀(k:Nat) o,X.ops[k]? =J o->De M6 k o=W/\∀e,e∈direct o->e<k:=by
  intro k o ho;have hk:k<O j8:=by
   grind
  obtain ⟨o',h1,h2,h3,_⟩:=tv k j8[k] (n9 hk);simp_all
 have hdone:∀(listed:Array Bool),listed.size=O j8->Region.ready .any X.ops listed=[]->aW (O j8) listed=[]:=by
  intro listed hls hr;cases La:aW (O j8) listed with
  |nil=>rfl
  |cons i rest =>
   exfalso;have hi:i<O j8/\listed.getD i F=F/\∀j,j<i->listed.getD j F=W:=by
    have hm:i∈aW (O j8) listed:=M
    unfold aW at hm;simp only [List.mem_filter,List.mem_range,o3] at hm;refine ⟨hm.1,hm.2,λj hj=>?_⟩;cases hlj:listed.getD j F with
    |true=>rfl
    |false =>
     have hjm:j∈aW (O j8) listed:=by
      grind [aW,o3]
     have Yi:(aW (O j8) listed).Pairwise (·<·):=List.Pairwise.filter _ List.pairwise_lt_range
     grind [L2]
   obtain ⟨o,ho,_,hlt,_⟩:=tv i j8[i] (n9 hi.1);have:i∈Region.ready .any X.ops listed:=by
    grind [mem_ready,direct]
   simp_all
 have hend:∀(listed:Array Bool) (st:F5) (a:Act) (w:World) (G:Gh) (I:O5) (N:Nat->Prop),Rg X j8 E nt (λj=>listed.getD j F=W) st a w G I N->listed.size=O j8->nX E j8 R9 lg (aW (O j8) listed) st fin->aW (O j8) listed=[] ->
   Fin X j8 E nt st w G I N fin a w G I N:=by
  intro listed st a w G I N hR hls hrun La;rw [La] at hrun;cases hrun;refine ⟨hR.congr λj=>?_,W2.refl _ _ _ _ _ _⟩;constructor
  .grind
  simp_all [aW,List.mem_filter,List.mem_range,o3]
 intro fuel
 induction fuel with
 |zero =>
  intro listed st a w G I N hR hls hcl hin qo hfr hrun hfl hQ;have La:aW (O j8) listed=[]:=List.length_eq_zero_iff.1 V;refine ⟨?_,hQ _ _ _ _ _ (hend listed st a w G I N hR hls hrun La)⟩;cases hr:Region.ready .any X.ops listed with
  |nil=>rfl
  |cons i rest =>
   exfalso;have:i∈Region.ready .any X.ops listed:=by rw [hr];simp
   obtain ⟨h0,o,ho,_⟩:=mem_ready.1 this;have hi:i<O j8:=by grind
   have sr:i<listed.size:=V
   have:i∈aW (O j8) listed:=by
    grind [aW,o3]
   grind
 |succ fuel ih =>
  intro listed st a w G I N hR hls hcl hin qo hfr hrun hfl hQ;refine ⟨λhr=>hQ _ _ _ _ _ (hend listed st a w G I N hR hls hrun (hdone listed hls hr)),λi hi=>?_⟩;obtain ⟨h0,o,ho,hall⟩:=mem_ready.1 hi;have hia:i<O j8:=by grind
  have sr:i<listed.size:=V
  have hun:listed.getD i F=F:=by
   grind
  obtain ⟨b,hb⟩:∃b,j8[i]? =J b:=⟨_,n9 hia⟩;obtain ⟨o',ho',hoa,hlt,hci,ee⟩:=tv i b hb;rw [ho] at ho';cases ho';have ag3:∀e,e∈direct o->listed.getD e F=W:=by
   grind [direct]
  have af6:=Ev hcl KZ hout i i (j9 _) o ho ag3;obtain ⟨js,rest,VB,Fb,hjs⟩:=Dw hia hun hls;rw [VB] at hrun;obtain ⟨st1,aj4,aB9⟩:=nX.front hn Ob hb js st (λj hj=>by
   obtain ⟨hji,hju⟩:=hjs j hj
   grind [uC]) hin qo hrun
  obtain ⟨b',hb',hD⟩:=aj4;rw [hb] at hb';cases hb';obtain ⟨hk,rs,hstep,aR7⟩:=Z5.1 hD;have hstill:=(rA (hn.alloc i b hb) hstep).2;refine sS hst GG de hs RW hR (d9:=λj=>(M6.getD i []).contains j) (λj hj=>af6 j (by simpa using hj)) (by grind) ho hb hci (z6:=R9 i) (λqG=>?_) (λn hni=>⟨hne i n hni,hin i n hni⟩) hstep _ _ ?_
  .have:=hn.alloc i b hb
   rw [qG] at this;obtain ⟨n,hni⟩:=Option.isSome_iff_exists.1 this;rw [hni];have h1:=hne i n hni;exact ⟨hfr i n hni hun,(λm hm=>by grind),by grind [newId],by grind [newId]⟩
  .intro a' w' G' I' N' hdn
   have mz:∀j,(listed.setIfInBounds i W).getD j F=W↔(listed.getD j F=W\/j=i):=by
    intro j
    by_cases e:j=i
    .subst e;simp [sr]
    .rw [Go.getD_set_ne F (λh=>e h.symm)]
     simp [e]
   refine ih (listed.setIfInBounds i W) st1 a' w' G' I' N' (hdn.rg.congr λj=>(mz j).symm) (by simp [hls]) ?_ (λk n hk=>Nat.lt_of_lt_of_le (hin k n hk) hdn.len) (qo.ext hstill) ?_ (by grind) ?_ ?_
   .intro k ok hk hok e he
    rw [mz] at hk ⊢
    rcases hk with hk|rfl
    .exact Or.inl (hcl k ok hk hok e he)
    grind
   .intro k n hk hku hN
    have ah5 :listed.getD k F=F/\k≠i:=by
     grind
    rcases hdn.old n (hin k n hk) hN with h|h
    .grind
    .exact ah5.2 (hn.inj k i n hk h)
   .grind
   .intro a'' w'' Ux I'' N'' hf
    exact hQ _ _ _ _ _ ⟨hf.rg,hdn.since.trans hf.since⟩
def mK (j8:List x9)(base:Nat)(k:Nat):Option Nat :=
 match j8[k]? with
 |some i=>if i.op.y3 then J (base+O ((j8.take k).filter (·.op.y3))) else K
 |none=>K
def OF (j8:List x9)(base:Nat):HF j8 (mK j8 base):=by
 refine ⟨λk i hi=>?_,λj k n hj hk=>?_⟩
 .grind [mK]
 .have key:∀a b n,a<b->mK j8 base a=J n->mK j8 base b=J n->False:=by
   intro a b n hab ha hb;unfold mK at ha hb;split at ha
   .split at ha
    .split at hb
     .split at hb
      .have h1:O ((j8.take (a+1)).filter (·.op.y3))=O ((j8.take a).filter (·.op.y3))+1:=by
        simp_all [List.take_add_one,List.filter_append]
       grind [List.Sublist.length_le,List.Sublist.filter,List.take_sublist_take_left]
      .cases hb
     .cases hb
    .cases ha
   .cases ha
  grind
theorem sN {base:Nat}:∀(is:List x9) (k:Nat) (na:Nat) (st st2:F5) (Fm:List cT) (VY:Nat->cT),j8.drop k=is->na=base+O ((j8.take k).filter (·.op.y3))->M4 E j8 is k na st=J (st2,Fm) ->
  (∀m,m<O is->VY (k+m)=Fm.getD m ⟨[],[],0,0⟩)->O Fm=O is/\nX E j8 (mK j8 base) VY (List.range' k (O is)) st st2
 |[],k,na,st,st2,Fm,VY,hd,hna,h,hl=>by
  cases h;exact ⟨rfl,nX.nil _⟩
 |i::is,k,na,st,st2,Fm,VY,hd,hna,h,hl=>by
  have hi:j8[k]? =J i:=by
   have:(j8.drop k)[0]? =J i:=by rw [hd];rfl
   grind
  have hd' :j8.drop (k+1)=is:=by
   have:=congrArg (List.drop 1) hd
   grind [List.drop_drop]
  simp [M4] at h;split at h
  next st1 l hstep=>
   split at h
   next TC lg3 hrun=>
    cases h;have ah8 :(if i.op.y3=W then na+1 else na)=base+O ((j8.take (k+1)).filter (·.op.y3)):=by
     grind
    obtain ⟨g1,g2⟩:=sN is (k+1) _ st1 st2 lg3 VY hd' ah8 hrun (λm hm=>by
     simp_all<;>grind)
    refine ⟨by simp [g1],?_⟩;refine nX.cons ⟨i,hi,?_⟩ g2
    grind [mK]
   .cases h
  .cases h
def IS {Fm:List cT}(hlen:O Fm=O j8)(h:aT j8 Fm=W):FW j8 (λk=>Fm.getD k ⟨[],[],0,0⟩):=by
 intro k i e hi he;unfold aT at h;have hk:=y8 hi;have hz:(i,Fm.getD k ⟨[],[],0,0⟩)∈j8.zip Fm:=by
  refine List.mem_of_getElem? (i:=k) ?_;simp_all
 grind
end
end Go.y9
namespace Go.y9
variable [D2]
structure Cd (P:Program)(names:List Tmp)(E:Env)(nt:Nat)(st:St)(a:Act)(w:World)(G:Gh)(I:O5)(N:Nat->Prop):Prop where
 T:∀(s:Nat) t,names[s]? =J t->VR G I N w (.slot s) (st.T.getD s .any) (a.tmps.getD t undef)
 H:HR G I N w st.H
 wf:WF G w
 Q7:HA E.lim st.H
 U2:O st.T=O names
 Y8:∀id,N id->id<O st.H
 Aj:E.entry<=O st.H
 size:a.tmps.size=nt
 idle:∀d,d∈a.defers->Bs P E.idle d
def nc (names:List Tmp):List (Option Tmp)->Bool
 |[]=>W
 |none::r=>nc names r
 |some d::r=>(names.contains d|| !r.contains (J d))&&nc names r
def gA:List Tmp->Bool
 |[]=>W
 |x::xs=> !xs.contains x&&gA xs
theorem mJ:∀(l:List Tmp),gA l=W->∀(s s' :Nat) t,l[s]? =J t->l[s']? =J t->s=s'
 |[],_,s,s',t,h,_=>by simp at h
 |x::xs,hok,s,s',t,h,h' =>by
  simp [gA,c9,List.contains_eq_mem] at hok;cases s with
  |zero =>
   grind
  |succ s =>
   cases s' with
   |zero =>
    grind
   |succ s' =>rw [mJ xs hok.2 s s' t (by simpa using h) M]
theorem oB (names:List Tmp):∀(l:List (Option Tmp)),nc names l=W->∀(i j:Nat) d,l[i]? =J (J d)->l[j]? =J (J d)->names.contains d=F->i=j
 |[],_,i,j,d,h,_,_=>by simp at h
 |x::xs,hok,i,j,d,h,h',hn=>by
  have oK:nc names xs=W:=by
   cases x with
   |none=>exact hok
   |some d' =>simp_all [nc,c9]
  have hnot:x=J d->J d∉xs:=by
   grind [nc,absurd]
  cases i with
  |zero =>
   grind
  |succ i =>
   cases j with
   |zero =>
    grind
   |succ j=>rw [oB names xs oK i j d (by simpa using h) M hn]
def bM (P:Program)(names:List Tmp)(nt:Nat)(ops:Array Oper)(j8:List x9)(draw:Bool):Bool :=
 nc names (ops.toList.map (·.dst))&&(ops.toList.all λo=>match o.dst with|some d=>decide (d<nt)|none=>W) &&
 (if draw then
   let M6:=Eu ops.toList []
   decide (O M6<=ops.size)&&kg ⟨P,names,ops⟩ j8 M6 j8 0&&P.follows .mixedOrders
  else iW ⟨P,names,ops⟩ j8 0)
def PC {P:Program}{names:List Tmp}{nt:Nat}{ops:Array Oper}{j8:List x9}{draw:Bool}(hn:gA names=W)(h:bM P names nt ops j8 draw=W):Stat ⟨P,names,ops⟩ nt:=by
 simp [bM,c9] at h;obtain ⟨⟨h1,h2⟩,_⟩:=h;have get:∀(i:Nat) d,(ops[i]?).bind (·.dst)=J d->(ops.toList.map (·.dst))[i]? =J (J d):=by
  simp_all<;>grind
 refine ⟨λi j d hi hj hc=>oB names _ h1 i j d (get i d hi) (get j d hj) hc,λi d hd=>?_,λs s' t=>mJ names hn s s' t⟩
 grind
section
variable {P:Program} {names:List Tmp} {E:Env} {nt:Nat} {st:St} {a:Act} {w:World} {G:Gh} {I:O5} {N:Nat->Prop} {ops:Array Oper} {j8:List x9}
def Cd.start (h:Cd P names E nt st a w G I N)(X:Cx)(hX:X=⟨P,names,ops⟩){S:Nat->Prop}(hS:∀j,¬ S j){H' :k9}(ext:k9)(hH:H' =st.H++ext)(Vm:∀o,o∈ext->o= .dead){L:List c7}(hL:O L=O j8)(l6:List Touch) :
  Rg X j8 E nt S ⟨st.T,H',L,l6⟩ a w G I N:=by
 subst hX;subst hH;have get:∀(id:Nat) o,(st.H++ext)[id]? =J o->st.H[id]? =J o\/o= .dead:=by
  intro id o ho
  rcases y7 id (O st.H) with hlt|hge
  .grind
  .rw [s5 hge] at ho
   exact Or.inr (Vm o (List.mem_of_getElem? ho))
 refine ⟨⟨h.T,λj hj=>absurd hj (hS j),λid o ho=>?_,h.wf,λid o ho=>?_⟩,⟨λj _ _ _ _ hj=>absurd hj (hS j),λj _ _ _ _ _ _ hj=>absurd hj (hS j)⟩,λj _ _ hj=>absurd hj (hS j),h.U2,hL,λid hid=>?_,?_,h.size,h.idle⟩
 .rcases get id o ho with h1|rfl
  .exact h.H id o h1
  .simp [OR]
 .rcases get id o ho with h1|rfl
  .exact h.Q7 id o h1
  .simp [s6.F4]
 .have:=h.Y8 id hid;simp;omega
 .have:=h.Aj;simp;omega
theorem Cd.drew (h:Cd P names E nt st a w G I N)(n:Nat)(hn:w.drawn<=n):Cd P names E nt st a { w with drawn:=n } G I N/\W2 E st.H w G I N st.H { w with drawn:=n } G I N:=by
 have hx:Ext G w G { w with drawn:=n }:=(Ext.refl G w).drew n hn;have hk:∀pl,X7 pl G w G { w with drawn:=n }:=λ_ _ _ h=>⟨h,rfl⟩
 refine ⟨⟨λs t ht=>VR.mono hx (λ_ _=>rfl) (λ_ h=>h) _ _ _ (Or.inr (hk _)) (h.T s t ht),λid o ho=>OR.mono (w:=w) hx.sub (λ_ _=>rfl) (λ_ h=>h) id o (λh=>⟨h,rfl⟩) (λ_=>hk _) (h.H id o ho),h.wf,h.Q7,h.U2,h.Y8,h.Aj,h.size,h.idle⟩,?_⟩;exact ⟨hx,λid _=>⟨λ_ h=>⟨h,rfl⟩,λ_=>hk _⟩,λ_ _ _=>rfl,λ_ _ h=>h,λ_ _ h=>h,λ_ o _ h=>Or.inr ⟨o,h,j9 _⟩⟩
def Cd.done {X:Cx}(hX:X=⟨P,names,ops⟩){S:Nat->Prop}{r:F5}(h:Rg X j8 E nt S r a w G I N):Cd P names E nt ⟨r.T,r.H⟩ a w G I N:=by
 subst hX;exact ⟨h.ri.T,h.ri.H,h.ri.wf,h.ri.Q7,h.U2,h.Y8,h.Aj,h.size,h.idle⟩
structure FT (P:Program)(E:Env):Prop where
 cf:jR P E.cf E.prom
 can:∀f args H lm r,E.cf f args H lm=J r->P5 P f=W
 strict:E.lim.strict<=E.lim.base
 base:E.lim.base<=E.entry
def W2.ad7 {H0 ext H:k9}{w0 w:World}{G0 G:Gh}{I0 I:O5}{N0 N:Nat->Prop}(hb:E.lim.base<=O H0)(h:W2 E (H0++ext) w0 G0 I0 N0 H w G I N):W2 E H0 w0 G0 I0 N0 H w G I N:=by
 refine ⟨h.ext,h.aV,h.inj,h.mono,h.old,λid o' hid ho=>?_⟩
 rcases h.hle id o' hid ho with h1|⟨o,h1,h2⟩
 all_goals grind
def pG (hE:FT P E)(hn:gA names=W){draw:Bool}(hc:bM P names nt ops j8 draw=W)(h:Cd P names E nt st a w G I N){r:F5}(hr:P0 E j8 draw st.T st.H=J r)(id:Nat)(Q:Exit->Act->World->Prop)
  (hQ:∀a' w' G' I' N',Rg ⟨P,names,ops⟩ j8 E nt (λj=>j<O j8) r a' w' G' I' N' ->W2 E st.H w G I N r.H w' G' I' N' ->Q .normal a' w'):(Code.region id ops draw).wp P Q a w:=by
 have hst:=PC hn hc;simp only [bM,c9] at hc;obtain ⟨_,hc⟩:=hc;unfold P0 at hr;cases draw with
 |false =>
  refine wp_region ?_;have hsz:ops.size=O j8:=by
   have:∀(is:List x9) (k:Nat),iW ⟨P,names,ops⟩ is k=W->ops.size=k+O is:=by
    intro is
    induction is with
    |nil=>simp_all [iW]
    |cons i is ih =>
     grind [iW]
   grind
  rw [hsz,List.range_eq_range'];have hR:Rg ⟨P,names,ops⟩ j8 E nt (λj=>j<0) ⟨st.T,st.H,c8 (O j8) .any,[]⟩ a w G I N :=
   h.start _ rfl (λj=>U) [] U U U []
  refine AS (X:=⟨P,names,ops⟩) hst hE.cf hE.can hE.strict hE.base Q j8 0 U U hc _ a w G I N r hR hr ?_;intro a' w' G' I' N' hf;exact hQ a' w' G' I' N' hf.rg hf.since
 |true =>
  simp only [if_true,c9,decide_eq_true_eq] at hr hc;obtain ⟨⟨Ar,Vd⟩,ah7⟩:=hc;split at hr
  next r' Fm hrun=>
   split at hr
   next hok=>
    cases hr;refine wp_region_any ah7 ?_;obtain ⟨h2,Ss⟩:=h.drew (w.drawn+1) (Nat.le_succ _);have hR:Rg ⟨P,names,ops⟩ j8 E nt (λj=>(Array.replicate ops.size F).getD j F=W) ⟨st.T,st.H++S8 j8,c8 (O j8) .any,slotsOf j8⟩ a { w with drawn:=w.drawn+1 } G I N :=
     h2.start _ rfl (λj=>by
      simp_all<;>grind) (S8 j8) rfl (by
      simp_all [S8]) U (slotsOf j8)
    have Vy:fE j8 ⟨st.T,st.H++S8 j8,c8 (O j8) .any,slotsOf j8⟩:=by
     intro k i s hi ha hd;simp_all [Touch.P9,slotsOf]<;>grind
    have hsize:ops.size=O j8:=by
     have:=ki (X:=⟨P,names,ops⟩) j8 0 Vd;simp_all
    obtain ⟨hlen,aO0⟩:=sN (base:=O st.H) j8 0 (O st.H) _ r Fm (λk=>Fm.getD k ⟨[],[],0,0⟩) U U hrun (λm _=>U);have La:aW (O j8) (Array.replicate ops.size F)=List.range' 0 (O j8):=by
     simp_all [aW,List.filter_eq_self,List.range_eq_range']
    have hlt:∀k n,mK j8 (O st.H) k=J n->O st.H<=n/\n<O (st.H++S8 j8):=by
     intro k n hk;unfold mK at hk;split at hk
     .split at hk
      .have h1:O ((j8.take (k+1)).filter (·.op.y3))=O ((j8.take k).filter (·.op.y3))+1:=by
        simp_all [List.take_add_one,List.filter_append]
       grind [List.Sublist.length_le,List.Sublist.filter,List.take_sublist,S8]
      .cases hk
     .cases hk
    refine HK (X:=⟨P,names,ops⟩) (M6:=Eu ops.toList []) (R9:=mK j8 (O st.H)) (lg:=λk=>Fm.getD k ⟨[],[],0,0⟩) (fin:=r) hst hE.cf hE.can hE.strict hE.base Q Vd (λk hk=>?_) (OF j8 _) (λk n hk=>?_) (IS hlen hok)
     ops.size (Array.replicate ops.size F) _ a _ G I N hR (by simp [hsize]) ?_ (λk n hk=>(hlt k n hk).2) Vy (λk n hk _ hN=>?_) M M ?_
    .grind
    .have:=(hlt k n hk).1;have:=h.Aj;omega
    .intro k o hk
     simp_all<;>grind
    .have h1:=h.Y8 n hN;grind
    .intro a' w' G' I' N' hf
     have hb:E.lim.base<=O st.H:=p7 hE.base h.Aj;exact hQ a' w' G' I' N' hf.rg (Ss.trans (hf.since.ad7 hb))
   .cases hr
  .cases hr
end
end Go.y9
namespace Go.y9
variable [D2]
section
variable {P:Program} {names:List Tmp} {E:Env} {nt:Nat} {st st' :St} {a:Act} {w:World} {G:Gh} {I:O5} {N:Nat->Prop}
theorem sM:∀(cs:List c7) (k i id sz lo len:Nat),pE cs k=J (i,id,sz,lo,len)->∃j,i=k+j/\cs[j]? =J (.r7 id sz lo len)
 |[],_,_,_,_,_,_,h=>by simp [pE] at h
 |c::cs,k,i,id,sz,lo,len,h=>by
  cases c
  case r7 id' sz' lo' len' =>
   simp_all [pE,Option.some.injEq,Prod.mk.injEq]
  all_goals
   obtain ⟨j,h1,h2⟩:=sM cs (k+1) i id sz lo len (by simp_all [pE]);simp_all<;>grind
def EM {pl:Place}{v:c7}{d:Data}{x:Value}(hd:v.data? =J d)(h:VR G I N w pl v x):DR G w d x:=by
 have h2:VR G I N w pl v.I7 x:=h.I7;cases v<;>simp [c7.data?] at hd<;>first|cases hd|skip
 all_goals simp_all [c7.I7,VR]
theorem Ks (b:Nat)(Sg:∀o,eT G b o):∀(vs:List c7) (xs:List Data) (o:Nat),H7 vs=J xs->(∀j v,vs[j]? =J v->∃u,w.cell? (ad b (o+j))=J u/\∀d,v.data? =J d->DR G w d u)->cS G w b o xs
 |[],xs,o,h,_=>by simp_all [H7,cS]
 |v::vs,xs,o,h,hv=>by
  unfold H7 at h;cases hd:v.data? with
  |none=>simp_all
  |some d =>
   rw [hd] at h;cases hds:H7 vs with
   |none=>simp_all
   |some ds =>
    rw [hds] at h;cases h;obtain ⟨u,h1,h2⟩:=hv 0 v rfl;refine ⟨Sg o,⟨u,V,h2 d hd⟩,Ks b Sg vs ds (o+1) hds λj v' hj=>?_⟩;obtain ⟨u',g1,g2⟩:=hv (j+1) v' M
    grind
def KP (h:Cd P names E nt st a w G I N){s:Nat}(hr:oF E.lim E.entry s st=J st'):∃G' N',Cd P names E nt st' a w G' I N' /\W2 E st.H w G I N st'.H w G' I N' :=by
 unfold oF at hr;split at hr
 next b hT=>
  split at hr
  next cs hb=>
   split at hr
   next i id sz lo len ai9=>
    split at hr
    next vs hvs=>
     split at hr
     next xs hxs=>
      split at hr
      next V7=>
       cases hr;obtain ⟨hbase,EY,hmay,hbb,hne⟩:=V7;obtain ⟨j,hj,XX⟩:=sM cs 0 i id sz lo len ai9;obtain rfl:i=j:=V
       obtain ⟨old,hold,hlen,ak4⟩:∃old,st.H[id]? =J (.cells old)/\lo+len * sz<=O old/\vs=(old.drop lo).take (len * sz):=by
        grind [rd]
       have hO:=h.H id _ hold;simp only [OR] at hO;obtain ⟨hN,c,e,f,g1,g2,g3,g4,g5⟩:=hO;have hlt:(I id).1<w.heap.size:=by
        grind
       have Oa:=y8 hold;have hx:Ext G w (dc G (I id).1 .gO) w:=by
        refine ⟨rfl,rfl,rfl,λ_=>j9 _,j9 _,λb' o hi=>⟨?_,rfl⟩,λb' hb' =>⟨?_,rfl⟩,λ_ c _ _ hc=>⟨c,hc,rfl⟩⟩
        all_goals grind [eT,lz,G5]
       have hkp:∀q,X7 q G w (dc G (I id).1 .gO) w:=λq b' n hb' =>⟨by grind [G5],rfl⟩
       have Is:∀id',id' ≠id->∀b',G b' = .obj id' ->(dc G (I id).1 .gO) b' = .obj id' /\w.heap[b']? =w.heap[b']? :=λid' hid b' hb' =>⟨by grind [G5],rfl⟩
       have vr:∀{pl:Place} {v:c7} {u:Value},VR G I N w pl v u->VR (dc G (I id).1 .gO) I (λi=>N i/\i≠id) w pl (v.kill id) u :=
        λhv=>VR.mono hx (λ_ _=>rfl) (λ_ h=>h) _ _ _ (Or.inr (hkp _)) (VR.kill id _ _ _ hv)
       have mz:∀(id' :Nat) (o' :s6),(((st.H.take E.lim.base++(st.H.drop E.lim.base).map (s6.kill id)).set id .dead).set b (.cells ((K8 id cs).set i (.d (.slice len xs)))))[id']? =J o' ->
         (id' =b/\o' = .cells ((K8 id cs).set i (.d (.slice len xs))))\/(id' ≠b/\id' =id/\o' = .dead)\/(id' ≠b/\id' ≠id/\id' <E.lim.base/\st.H[id']? =J o')\/(id' ≠b/\id' ≠id/\E.lim.base<=id' /\∃o1,st.H[id']? =J o1/\o' =o1.kill id):=by
        intro id' o' ho'
        by_cases e1:id' =b
        .grind
        .rw [x5 (λe=>e1 e.symm)] at ho'
         grind
       have qH:A2 ((K8 id cs).set i (.d (.slice len xs)))<=A2 cs:=p7 (iU _ _ _) (bI id cs);refine ⟨dc G (I id).1 .gO,λi=>N i/\i≠id,⟨?_,?_,?_,?_,?_,?_,?_,h.size,h.idle⟩,⟨hx,?_,λ_ _ _=>rfl,?_,λ_ _ hn=>hn.1,?_⟩⟩
       .intro s' t ht
        simp only [qE];exact vr (h.T s' t ht)
       .intro id' o' ho'
        rcases mz id' o' ho' with ⟨rfl,rfl⟩|⟨_,rfl,rfl⟩|⟨e1,e2,e3,e4⟩|⟨e1,e2,e3,o1,e4,rfl⟩
        .have hk:=OR.kill id (λe=>hne e.symm) _ (h.H id' _ hb)
         have hk:=OR.mono hx (λ_ _=>rfl) (λ_ h=>h) id' _ (λhb' =>Is id' (λe=>hne e.symm) _ hb') (λ_=>hkp _) hk;simp only [s6.kill,OR] at hk ⊢;obtain ⟨k0,c2,e2,f2,k1,k2,k3,k4,k5⟩:=hk;refine ⟨k0,c2,e2,f2,k1,k2,k3,by grind,λi' x' hx' =>?_⟩
         by_cases ei:i' =i
         .subst ei
          have sr:i' <O (K8 id cs):=by grind
          rw [E0 sr] at hx';cases hx';have hOb:=h.H id' _ hb;simp only [OR] at hOb;obtain ⟨_,c3,e3,f3,m1,_,_,_,m5⟩:=hOb;rw [k1] at m1;cases m1;obtain ⟨u,u1,u2⟩:=m5 i' _ XX;refine ⟨u,u1,?_⟩;simp only [VR] at u2 ⊢;obtain ⟨_,cap,rfl,u3,_⟩:=u2;simp only [DR];refine Or.inr ⟨(I id).1,(I id).2+lo,cap,rfl,u3,Ks _ (λo=>by grind [eT,lz]) vs xs _ hxs λj v hj=>?_⟩;subst ak4;have hj2:j<len * sz/\old[lo+j]? =J v:=by
           grind
          obtain ⟨y,y1,y2⟩:=g5 _ _ hj2.2;refine ⟨y,?_,λd hd=>DR.mono hx.gO _ _ (EM hd y2)⟩
          grind [World.cell?,K1]
         grind
        .simp [OR]
        .have KV:=OR.low (n:=E.lim.base) e3 o' ((h.Q7 id' o' e4).2 e3) (h.H id' o' e4)
         exact OR.mono hx (λ_ _=>rfl) (λi hi=>⟨hi.1,V⟩) id' o' (λhb' =>Is id' e2 _ hb') (λ_=>hkp _) KV
        .exact OR.mono hx (λ_ _=>rfl) (λ_ h=>h) id' _ (λhb' =>Is id' e2 _ hb') (λ_=>hkp _) (OR.kill id e2 o1 (h.H id' o1 e4))
       .intro b' hb'
        rw [G5 V];exact h.wf b' hb'
       .intro id' o' ho'
        rcases mz id' o' ho' with ⟨rfl,rfl⟩|⟨_,rfl,rfl⟩|⟨e1,e2,e3,e4⟩|⟨e1,e2,e3,o1,e4,rfl⟩
        .obtain ⟨d1,d2⟩:=h.Q7 id' _ hb
         grind [s6.F4,p7]
        .simp_all [s6.F4]
        .exact h.Q7 id' o' e4
        .obtain ⟨d1,d2⟩:=h.Q7 id' o1 e4
         grind [zb,p7]
       .rw [O0];exact h.U2
       .intro id' hn
        have:=h.Y8 id' hn.1
        grind
       .grind
       .intro id' hm
        grind
       all_goals grind
      .cases hr
     .cases hr
    .cases hr
   .cases hr
  .cases hr
 .cases hr
def xe (E:Env)(H:k9)(w:World)(G:Gh)(I:O5)(N:Nat->Prop)(H' :k9)(w' :World)(G' :Gh)(I' :O5)(N' :Nat->Prop):Prop :=
 ∀H0 w0 G0 I0 N0,(E.entry=0->∀b n pl,G0 b≠ .grow n pl)->W2 E H0 w0 G0 I0 N0 H w G I N->W2 E H0 w0 G0 I0 N0 H' w' G' I' N'
def W2.XK {E:Env}{H H' :k9}{w w' :World}{G G' :Gh}{I I' :O5}{N N' :Nat->Prop}(h:W2 E H w G I N H' w' G' I' N'):xe E H w G I N H' w' G' I' N' :=
 λ_ _ _ _ _ _ h0=>h0.trans h
theorem xe.refl (E:Env)(H:k9)(w:World)(G:Gh)(I:O5)(N:Nat->Prop):xe E H w G I N H w G I N:=λ_ _ _ _ _ _ h=>h
theorem xe.trans {E:Env}{H0 H1 H2:k9}{w0 w1 w2:World}{G0 G1 G2:Gh}{I0 I1 I2:O5}{N0 N1 N2:Nat->Prop}
  (h:xe E H0 w0 G0 I0 N0 H1 w1 G1 I1 N1) (k:xe E H1 w1 G1 I1 N1 H2 w2 G2 I2 N2):xe E H0 w0 G0 I0 N0 H2 w2 G2 I2 N2 :=
 λH w G I N hg hs=>k H w G I N hg (h H w G I N hg hs)
theorem bT:∀l:List c7,O (N5 l)=O l
 |[]=>rfl
 |_::l=>by simp [N5,bT l]
theorem kD:∀(l:List c7) (i:Nat),(N5 l)[i]? =(l[i]?).map c7.forget
 |[],_=>by rfl
 |_::_,0=>by rfl
 |_::l,i+1=>by simpa [N5] using kD l i
def sj (l:List c7)(s:Nat):(N5 l).getD s .any=(l.getD s .any).forget:=by
 grind [kD,c7.forget]
section
variable {G' :Gh} {I' :O5} {N' :Nat->Prop}
mutual
theorem VR.forget (hI:∀id,N id->I' id=I id)(hN:∀id,N id->N' id):∀(pl:Place) (v:c7) (u:Value),VR G I N w pl v u->VR G' I' N' w pl v.forget u
 |_,.any,_,_=>by simp [c7.forget,VR]
 |_,.d x,_,h=>by
  cases x
  case slice n cells =>
   cases cells with
   |nil =>
    simp_all [c7.forget,VR,DR,cS]
   |cons c cs=>simp [c7.forget,VR]
  all_goals simp_all [c7.forget,VR,DR]
 |_,.ptr id off,_,h=>by
  simp_all [c7.forget,VR]
 |_,.Y4 _,_,_=>by simp [c7.forget,VR]
 |_,.r7 id sz lo len,_,h=>by
  simp_all [c7.forget,VR]
 |_,.own _ _ _,_,_=>by simp [c7.forget,VR]
 |_,.N9,_,h=>by simp_all [c7.forget,VR]
 |_,.agg l,_,h=>by
  obtain ⟨cs,h1,h2⟩:=h;exact ⟨cs,h1,H6.forget hI hN l _ h2⟩
 |_,.tuple l,_,h=>by
  obtain ⟨cs,h1,h2⟩:=h;exact ⟨cs,h1,H6.forget hI hN l _ h2⟩
 |_,.func f a b,_,h=>by
  obtain ⟨x,y,h1,h2,h3⟩:=h;exact ⟨x,y,h1,H6.forget hI hN a _ h2,H6.forget hI hN b _ h3⟩
 |_,.map id,_,h=>by
  simp_all [c7.forget,VR]
theorem H6.forget (hI:∀id,N id->I' id=I id)(hN:∀id,N id->N' id):∀(l:List c7) (vs:List Value),H6 G I N w l vs->H6 G' I' N' w (N5 l) vs
 |[],_,h=>by grind [N5,H6]
 |a::as,vs,h=>by
  obtain ⟨x,xs,h1,h2,h3⟩:=h;exact ⟨x,xs,h1,VR.forget hI hN .none a x h2,H6.forget hI hN as xs h3⟩
end
theorem ER.forget (hI:∀id,N id->I' id=I id)(hN:∀id,N id->N' id):∀(l:List (Key×c7)) (es:List MapEntry),ER G I N w l es->ER G' I' N' w (l.map λp=>(p.1,p.2.forget)) es
 |[],_,h=>by grind [ER]
 |(k,v)::r,es,h=>by
  obtain ⟨e,es',h1,h2,h3,h4⟩:=h;exact ⟨e,es',h1,h2,VR.forget hI hN _ _ _ h3,ER.forget hI hN r es' h4⟩
theorem OR.forget (hI:∀id,N id->I' id=I id)(hN:∀id,N id->N' id)(hG:∀b id,G b= .obj id->G' b= .obj id)(id:Nat)(o:s6)(h:OR G I N w id o):OR G' I' N' w id o.forget:=by
 cases o with
 |dead=>simp [s6.forget,OR]
 |cells l =>
  simp [s6.forget,OR] at h ⊢
  grind [bT,kD,VR.forget]
 |map es =>
  grind [s6.forget,OR,ER.forget]
end
theorem sH:∀(cs:List c7) (k i sz len:Nat) (xs:List Data),sG cs k=J (i,sz,len,xs)->∃j,i=k+j/\cs[j]? =J (.own sz len xs)
 |[],_,_,_,_,_,h=>by simp [sG] at h
 |c::cs,k,i,sz,len,xs,h=>by
  cases c
  case own sz' len' xs' =>
   simp_all [sG,Option.some.injEq,Prod.mk.injEq]
  all_goals
   obtain ⟨j,h1,h2⟩:=sH cs (k+1) i sz len xs (by simp_all [sG]);simp_all<;>grind
theorem Ah {b:Nat}:∀(xs:List Data) (o i:Nat) (d:Data),cS G w b o xs->xs[i]? =J d->∃x,w.cell? (ad b (o+i))=J x/\DR G w d x
 |[],_,_,_,_,h=>by simp at h
 |c::cs,o,0,d,hd,h=>by
  simp_all [cS]
 |c::cs,o,i+1,d,hd,h=>by
  obtain ⟨x,h1,h2⟩:=Ah cs (o+1) i d hd.2.2 (by simpa using h)
  grind
def Gr {G' :Gh}{d:Data}{x:Value}(hf:d.flat=W)(h:DR G w d x):DR G' w d x:=by
 cases d
 case slice n cs=>simp [Data.flat] at hf
 all_goals simp_all [DR]
def MP (_h:Cd P names E nt st a w G I N){b2 n2 m:Nat}{pl2:Place}(aH3:b2<w.heap.size)(k6:G b2= .grow n2 pl2)(hG:∀b' id,G b' = .obj id->dc G b2 (.obj m) b' = .obj id)(EY:E.entry=0)(hbase:E.lim.base=0){H' :k9}{I' :O5}{N' :Nat->Prop} :
  xe E st.H w G I N H' w (dc G b2 (.obj m)) I' N' :=by
 intro H0 w0 G0 I0 N0 hg hs;have hne:∀b',(eT G0 b' =eT G0 b')/\((G0 b' = .gO\/∃n,G0 b' = .held n)->b' ≠b2):=λb' =>⟨rfl,λhi e=>by
  subst e;have:=(hs.ext.still b' hi).1;simp_all⟩
 have Sg:∀b' o',eT G0 b' o' ->G0 b' = .gO\/∃n,G0 b' = .held n:=λb' o' hi=>by
  grind [eT,absurd]
 refine ⟨⟨hs.ext.os,hs.ext.tape,hs.ext.output,hs.ext.drawn,hs.ext.size,λb' o' hi=>?_,λb' hi=>?_,hs.ext.shape⟩,?_,?_,?_,?_,?_⟩
 .obtain ⟨q1,q2⟩:=hs.ext.gO b' o' hi
  grind [eT,G5]
 .obtain ⟨q1,q2⟩:=hs.ext.still b' hi
  simp_all [G5]
 .intro id hm
  obtain ⟨p1,p2⟩:=hs.aV id hm;refine ⟨λb' hb' =>?_,λoff b' n hb' =>absurd hb' (hg EY _ _ _)⟩;simp_all
 all_goals omega
def RE (hbase:E.lim.base=0){H' :k9}:xe E st.H w G I N H' w G I N:=λ_ _ _ _ _ _ hs=>⟨hs.ext,hs.aV,hs.inj,hs.mono,hs.old,λid o' hlt=>V⟩
def MO (h:Cd P names E nt st a w G I N){s:Nat}(hr:DQ E.lim E.entry s st=J st'):∃G' I' N',Cd P names E nt st' a w G' I' N' /\xe E st.H w G I N st'.H w G' I' N' :=by
 unfold DQ at hr;split at hr
 next b hT=>
  split at hr
  next cs hb=>
   split at hr
   next i sz len xs how=>
    split at hr
    .cases hr
     exact ⟨G,I,N,h,xe.refl _ _ _ _ _ _⟩
    split at hr
    next hl0 V7=>
     cases hr;obtain ⟨EY,hbase,Ld,GH⟩:=V7;obtain ⟨j,hj,XX⟩:=sH cs 0 i sz len xs how;obtain rfl:i=j:=V
     have hO:=h.H b _ hb;simp only [OR] at hO;obtain ⟨hN,c,e,f,g1,g2,g3,g4,g5⟩:=hO;obtain ⟨v,v1,v2⟩:=g5 i _ XX;simp only [VR] at v2;obtain ⟨hlen,v2⟩:=v2
     rcases v2 with ⟨_,v2⟩|⟨_,b2,o,cap,c2,e2,f2,rfl,k2,k3,k4,k5,k6,k7⟩
     .exact absurd v2 hl0
     have RV:b2<w.heap.size:=by
      rcases y7 b2 w.heap.size with h|h
      .exact h
      .rw [Array.getElem?_eq_none h] at k3;cases k3
     have hbl:=y8 hb;have hI:∀id,N id->(λk=>if k=O st.H then (b2,o) else I k) id=I id:=λid hid=>by
      have:=h.Y8 id hid;simp only;rw [if_neg V]
     have TX :∀id,N id->(λk=>N k\/k=O st.H) id:=λid hid=> .inl hid
     have hG:∀b' id,G b' = .obj id->dc G b2 (.obj (O st.H)) b' = .obj id:=λb' id hb' =>by
      rw [G5 (by rintro rfl;rw [k6] at hb';cases hb')];exact hb'
     have mz:∀(id' :Nat) (o' :s6),((st.H.map s6.forget).set b (.cells ((N5 cs).set i (.r7 (O st.H) sz 0 len)))++[.cells (xs.map .d)])[id']? =J o' ->
       (id' =b/\o' = .cells ((N5 cs).set i (.r7 (O st.H) sz 0 len)))\/(id' ≠b/\∃o1,st.H[id']? =J o1/\o' =o1.forget)\/(id' =O st.H/\o' = .cells (xs.map .d)):=by
      intro id' o' ho'
      rcases y7 id' (O st.H) with hlt|hge
      .rw [s9 (by simpa using hlt)] at ho'
       by_cases e1:id' =b
       .subst e1
        rw [E0 (by simpa using hlt)] at ho';cases ho';exact .inl ⟨rfl,rfl⟩
       .rw [x5 (λe=>e1 e.symm),List.getElem?_map] at ho'
        cases h1:st.H[id']? with
        |none=>rw [h1] at ho';cases ho'
        |some o1 =>
         rw [h1] at ho';cases ho';exact .inr (.inl ⟨e1,o1,rfl,rfl⟩)
      .rw [s5 (by simpa using hge)] at ho'
       have h0:id' - O ((st.H.map s6.forget).set b (.cells ((N5 cs).set i (.r7 (O st.H) sz 0 len))))=0:=by
        have:=y8 ho';simp only [D9] at this;omega
       rw [h0] at ho';simp only [List.length_set,A1] at h0;simp only [List.getElem?_cons_zero,Option.some.injEq] at ho';exact .inr (.inr ⟨V,ho'.symm⟩)
     have VH:VR (dc G b2 (.obj (O st.H))) (λk=>if k=O st.H then (b2,o) else I k) (λk=>N k\/k=O st.H) w (.cell b i) (.r7 (O st.H) sz 0 len) (.slice (J (ad b2 o)) len cap):=by
      simp only [VR,if_true,Nat.add_zero];exact ⟨.inr trivial,cap,rfl,k2,c2,e2,f2,k3,k4⟩
     refine ⟨dc G b2 (.obj (O st.H)),λk=>if k=O st.H then (b2,o) else I k,λk=>N k\/k=O st.H,⟨?_,?_,?_,?_,?_,?_,?_,h.size,h.idle⟩,?_⟩
     .intro s' t ht
      simp only [sj];exact VR.forget hI TX _ _ _ (h.T s' t ht)
     .intro id' o' ho'
      rcases mz id' o' ho' with ⟨rfl,rfl⟩|⟨_,o1,h1,rfl⟩|⟨rfl,rfl⟩
      .have hk:=OR.forget hI TX hG id' _ (h.H id' _ hb)
       simp only [s6.forget,OR] at hk ⊢;obtain ⟨q0,c3,e3,f3,q1,q2,q3,q4,q5⟩:=hk;refine ⟨q0,c3,e3,f3,q1,q2,q3,by simpa using q4,λi' x' hx' =>?_⟩
       by_cases ei:i' =i
       .subst ei
        rw [E0 (by rw [bT];exact y8 XX)] at hx';cases hx';rw [if_neg V,g1] at q1;cases q1;refine ⟨_,?_,VH⟩;rw [if_neg V];exact v1
       .rw [x5 (λe=>ei e.symm)] at hx'
        exact q5 i' x' hx'
      .exact OR.forget hI TX hG id' _ (h.H id' o1 h1)
      .simp only [OR,if_true]
       refine ⟨.inr trivial,c2,e2,f2,k3,lz _ _ _,k5,?_,λi' x' hx' =>?_⟩
       .have:=E1 sz k2
        rw [A1,hlen];omega
       .rw [List.getElem?_map] at hx'
        cases hd:xs[i']? with
        |none=>rw [hd] at hx';cases hx'
        |some d =>
         rw [hd] at hx';cases hx';obtain ⟨x,x1,x2⟩:=Ah xs o i' d k7 hd;refine ⟨x,?_,?_⟩
         .simp only [World.cell?,k3] at x1
          simpa using x1
         .simp only [VR]
          exact Gr (List.all_eq_true.1 GH d (List.mem_of_getElem? hd)) x2
     .intro b' hb'
      rw [G5 V];exact h.wf b' hb'
     .intro id' o' ho'
      exact ⟨λhh=>V,λhh=>V⟩
     .rw [bT];exact h.U2
     .intro id' hn
      rcases hn with hn|rfl
      .have:=h.Y8 id' hn
       simp;omega
      .simp
     .have:=h.Aj
      simp;omega
     .exact MP h RV k6 hG EY hbase
    .cases hr
   .cases hr
  .cases hr
 next sz len xs hT=>
  split at hr
  .cases hr
   exact ⟨G,I,N,h,xe.refl _ _ _ _ _ _⟩
  split at hr
  next hl0 V7=>
   cases hr;obtain ⟨EY,hbase,Ld,GH⟩:=V7;have qo:=y8 hT;have hlt:=h.U2;obtain ⟨t,ht⟩:∃t,names[s]? =J t:=⟨_,n9 V⟩;have v2:=h.T s t ht;rw [List.getD_eq_getElem?_getD,hT,Option.getD_some] at v2;simp only [VR] at v2;obtain ⟨hlen,v2⟩:=v2
   rcases v2 with ⟨_,v2⟩|⟨_,b2,o,cap,c2,e2,f2,hv,k2,k3,k4,k5,k6,k7⟩
   .exact absurd v2 hl0
   have RV:b2<w.heap.size:=by
    rcases y7 b2 w.heap.size with h|h
    .exact h
    .rw [Array.getElem?_eq_none h] at k3;cases k3
   have hI:∀id,N id->(λk=>if k=O st.H then (b2,o) else I k) id=I id:=λid hid=>by
    have:=h.Y8 id hid;simp only;rw [if_neg V]
   have TX :∀id,N id->(λk=>N k\/k=O st.H) id:=λid hid=> .inl hid
   have hG:∀b' id,G b' = .obj id->dc G b2 (.obj (O st.H)) b' = .obj id:=λb' id hb' =>by
    rw [G5 (by rintro rfl;rw [k6] at hb';cases hb')];exact hb'
   refine ⟨dc G b2 (.obj (O st.H)),λk=>if k=O st.H then (b2,o) else I k,λk=>N k\/k=O st.H,⟨?_,?_,?_,?_,?_,?_,?_,h.size,h.idle⟩,MP h RV k6 hG EY hbase⟩
   .intro s' t' ht'
    by_cases e:s' =s
    .subst e
     rw [ht] at ht';cases ht';rw [List.getD_eq_getElem?_getD,E0 (by rw [bT];exact qo),Option.getD_some,hv];simp only [VR,if_true,Nat.add_zero];exact ⟨.inr trivial,cap,rfl,k2,c2,e2,f2,k3,k4⟩
    .rw [List.getD_eq_getElem?_getD,x5 (λh=>e h.symm),<- List.getD_eq_getElem?_getD,sj]
     exact VR.forget hI TX _ _ _ (h.T s' t' ht')
   .intro id' o' ho'
    rcases y7 id' (O st.H) with hlt' |hge
    .rw [s9 (by simpa using hlt'),List.getElem?_map] at ho'
     cases h1:st.H[id']? with
     |none=>rw [h1] at ho';cases ho'
     |some o1 =>
      rw [h1] at ho';cases ho';exact OR.forget hI TX hG id' _ (h.H id' o1 h1)
    .rw [s5 (by simpa using hge)] at ho'
     have h0:id' - O (st.H.map s6.forget)=0:=by
      have:=y8 ho';simp only [D9] at this;omega
     rw [h0] at ho';simp only [A1] at h0;simp only [List.getElem?_cons_zero,Option.some.injEq] at ho';obtain rfl:id' =O st.H:=V
     subst ho';simp only [OR,if_true];refine ⟨.inr trivial,c2,e2,f2,k3,lz _ _ _,k5,?_,λi' x' hx' =>?_⟩
     .have:=E1 sz k2
      rw [A1,hlen];omega
     .rw [List.getElem?_map] at hx'
      cases hd:xs[i']? with
      |none=>rw [hd] at hx';cases hx'
      |some d =>
       rw [hd] at hx';cases hx';obtain ⟨x,x1,x2⟩:=Ah xs o i' d k7 hd;refine ⟨x,?_,?_⟩
       .simp only [World.cell?,k3] at x1
        simpa using x1
       .simp only [VR]
        exact Gr (List.all_eq_true.1 GH d (List.mem_of_getElem? hd)) x2
   .intro b' hb'
    rw [G5 V];exact h.wf b' hb'
   .intro id' o' ho'
    exact ⟨λhh=>V,λhh=>V⟩
   .rw [List.length_set,bT];exact h.U2
   .intro id' hn
    rcases hn with hn|rfl
    .have:=h.Y8 id' hn
     simp;omega
    .simp
   .have:=h.Aj
    simp;omega
  .cases hr
 .split at hr
  next hc=>
   cases hr;obtain ⟨_,hb,hst⟩:=hc;refine ⟨G,I,N,⟨h.T,λid' o' ho' =>?_,h.wf,λid' o' ho' =>⟨λhh=>V,λhh=>V⟩,h.U2,λid' hn=>?_,?_,h.size,h.idle⟩,RE hb⟩
   .rcases y7 id' (O st.H) with hlt|hge
    .rw [s9 hlt] at ho'
     exact h.H id' o' ho'
    .rw [s5 hge] at ho'
     have:=List.mem_of_getElem? ho';rw [L1] at this;subst this;simp only [OR]
   .have:=h.Y8 id' hn
    simp;omega
   .have:=h.Aj
    simp;omega
  .cases hr
 .cases hr
def RN (h:Cd P names E nt st a w G I N){s:Nat}(hr:jN E.lim E.entry s st=J st'):∃G' I' N',Cd P names E nt st' a w G' I' N' /\xe E st.H w G I N st'.H w G' I' N' :=by
 unfold jN at hr;split at hr
 next r h1=>
  cases hr;obtain ⟨G',N',h2,h3⟩:=KP h h1;exact ⟨G',I,N',h2,h3.XK⟩
 .exact MO h hr
end
end Go.y9


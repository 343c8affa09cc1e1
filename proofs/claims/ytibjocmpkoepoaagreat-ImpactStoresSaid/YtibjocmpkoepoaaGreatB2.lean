import Derived.Test.YtibjocmpkoepoaaGreatB0
import Derived.Orders
set_option linter.all false
open Bool renaming and_eq_true→c9,eq_false_or_eq_true→B6,false_eq_true→j6,not_eq_true'→o9,or_eq_false_iff→B2,true→W,false→F
open List renaming append_assoc→F5,getElem?_append_left→y7,getElem?_append_right→x7,getElem?_eq_getElem→o3,getElem?_set_ne→x5,getElem?_set_self→E6,getElem_of_mem→E0,length_append→j9,length_cons→n9,length_map→A3,length_nil→y4,length_singleton→E5,map_cons→G7,mem_cons→K2,pairwise_cons→F2,replicate→c8,replicate_succ→M0,set_cons_succ→o7,take_length→D3,length→O
open Nat renaming add_assoc→M6,le_refl→k9,le_trans→o5,lt_or_ge→y8,mul_le_mul_right→F8,zero_le→s8
open Option renaming map_some→B8,some→J,none→K
namespace Go.z6
variable [D6]
mutual
theorem VR.kill {G:Gh}{I:P3}{N:Nat->Prop}{w:World}(id:Nat):∀(pl:Place) (a:c7) (x:Value),VR G I N w pl a x->VR G I (λi=>N i/\i≠id) w pl (a.kill id) x
 |_,.any,_,_=>by simp [c7.kill,VR]
 |_,.d _,_,h=>by grind [c7.kill,VR]
 |_,.ptr i o,x,h=>by
  grind [c7.kill,VR]
 |_,.Z5 _,_,h=>by grind [c7.kill,VR]
 |_,.s5 i z lo n,x,h=>by
  grind [c7.kill,VR]
 |_,.own _ _ _,_,h=>by simp_all [c7.kill,VR]
 |_,.O5,_,h=>by simp_all [c7.kill,VR]
 |_,.agg l,x,h=>by
  obtain ⟨cs,h1,h2⟩:=h;exact ⟨cs,h1,I6.kill id l _ h2⟩
 |_,.tuple l,x,h=>by
  obtain ⟨cs,h1,h2⟩:=h;exact ⟨cs,h1,I6.kill id l _ h2⟩
 |_,.func f a b,x,h=>by
  obtain ⟨u,v,h1,h2,h3⟩:=h;exact ⟨u,v,h1,I6.kill id a _ h2,I6.kill id b _ h3⟩
 |_,.map i,x,h=>by
  grind [c7.kill,VR]
theorem I6.kill {G:Gh}{I:P3}{N:Nat->Prop}{w:World}(id:Nat):∀(l:List c7) (xs:List Value),I6 G I N w l xs->I6 G I (λi=>N i/\i≠id) w (L3 id l) xs
 |[],_,h=>by grind [L3,I6]
 |a::as,xs,h=>by
  obtain ⟨x,xs',h1,h2,h3⟩:=h;exact ⟨x,xs',h1,VR.kill id _ a x h2,I6.kill id as xs' h3⟩
end
mutual
theorem VR.low {G:Gh}{I:P3}{N:Nat->Prop}{w:World}(n:Nat):∀(pl:Place) (a:c7) (x:Value),a.H7<=n->VR G I N w pl a x->VR G I (λi=>N i/\i<n) w pl a x
 |_,.any,_,_,_=>by simp [VR]
 |_,.d _,_,_,h=>by grind [VR]
 |_,.ptr i o,x,hb,h=>by grind [c7.H7,VR]
 |_,.Z5 _,_,_,h=>by grind [VR]
 |_,.s5 i z lo n',x,hb,h=>by grind [c7.H7,VR]
 |_,.own _ _ _,_,_,h=>by simp_all [VR]
 |_,.O5,_,_,h=>by simp_all [VR]
 |_,.agg l,x,hb,h=>by
  obtain ⟨cs,h1,h2⟩:=h;exact ⟨cs,h1,I6.low n l _ hb h2⟩
 |_,.tuple l,x,hb,h=>by
  obtain ⟨cs,h1,h2⟩:=h;exact ⟨cs,h1,I6.low n l _ hb h2⟩
 |_,.func f a b,x,hb,h=>by
  simp [c7.H7] at hb;obtain ⟨u,v,h1,h2,h3⟩:=h;exact ⟨u,v,h1,I6.low n a _ V h2,I6.low n b _ V h3⟩
 |_,.map i,x,hb,h=>by grind [c7.H7,VR]
theorem I6.low {G:Gh}{I:P3}{N:Nat->Prop}{w:World}(n:Nat):∀(l:List c7) (xs:List Value),A2 l<=n->I6 G I N w l xs->I6 G I (λi=>N i/\i<n) w l xs
 |[],_,_,h=>by grind [I6]
 |a::as,xs,hb,h=>by
  simp [A2] at hb;obtain ⟨x,xs',h1,h2,h3⟩:=h;exact ⟨x,xs',h1,VR.low n _ a x V h2,I6.low n as xs' V h3⟩
end
section
variable {P:Program} {X:Cx} {l:G9} {S:Nat->Prop} {st:G5} {a:Act} {w w' :World} {G:Gh} {I:P3} {N:Nat->Prop} {d9:Nat->Bool} {j8:List x9}
theorem ER.kill (id:Nat):∀(es:List (Key×c7)) (xs:List MapEntry),ER G I N w es xs->ER G I (λi=>N i/\i≠id) w (es.map λp=>(p.1,p.2.kill id)) xs
 |[],_,h=>by grind [ER]
 |(k,v)::r,xs,h=>by
  obtain ⟨e,es',h1,h2,h3,h4⟩:=h;exact ⟨e,es',h1,h2,VR.kill id _ v _ h3,ER.kill id r es' h4⟩
theorem ER.low (n:Nat):∀(es:List (Key×c7)) (xs:List MapEntry),A2 (es.map (·.2))<=n->ER G I N w es xs->ER G I (λi=>N i/\i<n) w es xs
 |[],_,_,h=>by grind [ER]
 |(k,v)::r,xs,hb,h=>by
  simp [G7,A2] at hb;obtain ⟨e,es',h1,h2,h3,h4⟩:=h;exact ⟨e,es',h1,h2,VR.low n _ v _ V h3,ER.low n r es' V h4⟩
theorem dS (id:Nat):∀(l:List c7) (i:Nat),(L3 id l)[i]? =(l[i]?).map (c7.kill id)
 |[],i=>by simp [L3]
 |v::vs,0=>by simp [L3]
 |v::vs,i+1=>by simp [L3,dS id vs i]
theorem O6 (id:Nat)(l:List c7):O (L3 id l)=O l:=by
 induction l with
 |nil=>rfl
 |cons v vs ih=>simp [L3,ih]
def rJ (id:Nat)(l:List c7)(i:Nat):(L3 id l).getD i .any=(l.getD i .any).kill id:=by
 grind [List.getD,dS,c7.kill]
mutual
theorem Ct (id:Nat):∀(a:c7),(a.kill id).H7<=a.H7
 | .any=>by simp [c7.kill]
 | .d _=>by simp [c7.kill]
 | .ptr i o=>by grind [c7.kill,c7.H7]
 | .Z5 _=>by simp [c7.kill]
 | .s5 i z lo n=>by grind [c7.kill,c7.H7]
 | .own _ _ _=>by simp [c7.kill]
 | .O5=>by simp [c7.kill]
 | .agg l=>by exact bU id l
 | .tuple l=>by exact bU id l
 | .func f a b=>by
  simp [c7.kill,c7.H7];have:=bU id a;have:=bU id b;omega
 | .map i=>by grind [c7.kill,c7.H7]
theorem bU (id:Nat):∀(l:List c7),A2 (L3 id l)<=A2 l
 |[]=>by simp [L3]
 |v::vs=>by
  simp [L3,A2];have:=Ct id v;have:=bU id vs;omega
end
theorem zb (id:Nat):∀(es:List (Key×c7)),A2 ((es.map λp=>(p.1,p.2.kill id)).map (·.2))<=A2 (es.map (·.2))
 |[]=>U
 |(k,v)::r=>by
  simp only [G7,A2];have:=Ct id v;have:=zb id r;omega
theorem zZ (id:Nat)(o:x6):(o.kill id).H7<=o.H7:=by
 cases o with
 |dead=>simp [x6.kill]
 |cells l=>simp_all [x6.kill,x6.H7,bU]
 |map es=>simpa only [x6.kill,x6.H7] using zb id es
theorem OR.kill (id:Nat){id' :Nat}(hne:id' ≠id)(o:x6)(h:OR G I N w id' o):OR G I (λi=>N i/\i≠id) w id' (o.kill id):=by
 cases o with
 |dead=>simp [x6.kill,OR]
 |cells l0 =>
  grind [x6.kill,OR,O6,dS,VR.kill]
 |map es =>
  obtain ⟨hN,arr,dD,h1,h2,h3,h4⟩:=h;exact ⟨⟨hN,hne⟩,arr,dD,h1,h2,ER.kill id es _ h3,h4⟩
theorem kV:∀(l:List c7) (i:Nat) (x:c7),l[i]? =J x->x.H7<=A2 l
 |[],_,_,h=>by simp at h
 |v::vs,0,x,h=>by grind [A2]
 |v::vs,i+1,x,h=>by have:=kV vs i x (by simpa using h);grind [A2]
theorem OR.low {id n:Nat}(hn:id<n)(o:x6)(hb:o.H7<=n)(h:OR G I N w id o):OR G I (λi=>N i/\i<n) w id o:=by
 cases o with
 |dead=>simp [OR]
 |cells l0 =>
  obtain ⟨hN,c,e,f,h1,h2,h3,h4,h5⟩:=h
  .refine ⟨⟨hN,hn⟩,c,e,f,h1,h2,h3,h4,λi x hx=>?_⟩
   obtain ⟨v,g1,g2⟩:=h5 i x hx;exact ⟨v,g1,VR.low n _ x v (by exact o5 (kV _ _ _ hx) hb) g2⟩
 |map es =>
  grind [OR,ER.low,x6.H7]
end
end Go.z6
namespace Go.z6
variable [D6]
section
variable {P:Program} {X:Cx} {l:G9} {S:Nat->Prop} {st:G5} {a:Act} {w w' :World} {G G' :Gh} {I I' :P3} {N:Nat->Prop} {d9:Nat->Bool} {j8:List x9}
def mQ (H:k8)(base id:Nat)(o:x6):k8:=(H.take base++(H.drop base).map (x6.kill id)).set id o
def tC {H:k8}{base id:Nat}{o:x6}(hid:id<O H){id' :Nat}{o' :x6}(h:(mQ H base id o)[id']? =J o') :
  (id' =id/\o' =o)\/(id' ≠id/\id' <base/\H[id']? =J o')\/(id' ≠id/\base<=id' /\∃o0,H[id']? =J o0/\o' =o0.kill id):=by
 unfold mQ at h;have hlen:O (H.take base++(H.drop base).map (x6.kill id))=O H:=D
 by_cases he:id' =id
 .simp_all
 .by_cases hb:id' <base
  .grind
  .by_cases hl:base<=O H
   .grind
   grind
def an.MJ (h:RI X l S st a w G I N){k:Nat}(hk:¬ S k)(X0:k<O st.L){entry id:Nat}{o0:x6}(h0:st.H[id]? =J o0)(hbase:l.base<=id)(FU:entry<=id)(hmay:l.may id=W)
  (hx:Ext G w G' w') (hkp:∀q,Y8 q G w G' w') (ho:∀id',id' ≠id->∀b,G b= .obj id' ->G' b= .obj id' /\w'.heap[b]? =w.heap[b]?) (hwf:WF G' w') (hI:∀i,i≠id->I' i=I i)
  {cs:List c7} (Jt:OR G' I' N w' id (.cells cs)) (rL:A2 cs<=max o0.H7 (id+1)) {v:c7} {x:Value} (hv:VR G' I' N w' (.loc k) v x) (l6:List Touch) (FY:l6.any (Touch.F1 id)=W) :
  an X l S entry st a w G I N (put { T:=L3 id st.T,H:=mQ st.H l.base id (.cells cs),L:=L3 id st.L,l6 } k v) k x w' G' I' N:=by
 have hid:=y9 h0;have hI' :∀i,(N i/\i≠id)->I' i=I i:=λi hi=>hI i hi.2
 have hNN:∀i,(N i/\i≠id)->N i:=λi hi=>hi.1
 have vr:∀{pl:Place} {b:c7} {u:Value},VR G I N w pl b u->VR G' I' N w' pl (b.kill id) u :=
  λhb=>VR.mono hx hI' hNN _ _ _ (Or.inr (hkp _)) (VR.kill id _ _ _ hb)
 refine ⟨⟨?_,?_,?_,hwf,?_⟩,?_,hx,?_,?_,?_,λ_ h=>h,?_,?_⟩
 .intro s t ht
  simp only [z6.put,rJ];exact vr (h.T s t ht)
 .intro j hj d hd hn
  have:k≠j:=by grind
  simp only [z6.put];rw [L7 _ _ _ _ _ this,rJ];exact vr (h.L j hj d hd hn)
 .intro id' o' ho'
  rcases tC hid ho' with ⟨rfl,rfl⟩|⟨hne,hb,hold⟩|⟨hne,hb,o1,hold,rfl⟩
  .exact Jt
  .have Ml:=OR.low (n:=l.base) hb o' ((h.R8 id' o' hold).2 hb) (h.H id' o' hold)
   exact OR.mono hx (λi hi=>hI i V) (λi hi=>hi.1) id' o' (λhb' =>ho id' hne _ hb') (λ_=>hkp _) Ml
  .exact OR.mono hx hI' hNN id' _ (λhb' =>ho id' hne _ hb') (λ_=>hkp _) (OR.kill id hne o1 (h.H id' o1 hold))
 .intro id' o' ho'
  rcases tC hid ho' with ⟨rfl,rfl⟩|⟨hne,hb,hold⟩|⟨hne,hb,o1,hold,rfl⟩
  .obtain ⟨d1,d2⟩:=h.R8 id' o0 h0
   grind [x6.H7]
  .exact h.R8 id' o' hold
  .obtain ⟨d1,d2⟩:=h.R8 id' o1 hold
   grind [zZ]
 .simp_all [z6.put,L0,O6]
 .intro id' hm
  grind
 .grind [z6.put]
 all_goals grind [z6.put,mQ]
def tG {cs:List c7}{vs:List Value}(h:cs.all c7.one=W)(hv:I6 G I N w cs vs):DZ vs:=jT _ _ h hv
def yD (h:RI X l S st a w G I N)(hD:∀j,d9 j=W->S j){k:Nat}(hk:¬ S k)(X0:k<O st.L){o:Oper}{sz bytes:Nat}{ob:Bool}{x y:A4}
  (hc:bW P (X.ck d9) o (.append sz bytes ob x y)=W) {E:Env} (hE:E.lim=l) {id lo len:Nat} (hx:F7 st.T st.L x= .s5 id sz lo len) {st' :G5} (he:S7 E k sz bytes st id lo len (F7 st.T st.L y)=J st') :
  ∃v w' G' I',(execOp a.eval o).run P w= .ok (.value v) w' /\an X l S E.entry st a w G I N st' k v w' G' I' N:=by
 obtain ⟨x0,y0,t,t2,e,i,z,hop,Tx,Ty,ht2,hsz,hu,hi,hsi,Mg,hz,hzs,Tv⟩:=bE hc;unfold S7 at he;rw [hE] at he;split at he
 next W5=>
  split at he
  next l0 m cs hl0 hcs=>
   split at he
   next Df=>
    obtain ⟨rfl,hlen,hroom,Wy,hone,_⟩:=Df;cases he;obtain ⟨vn,hl,hf,HV,hcl⟩:=nc (P:=P) h.H (h.N6 hD _ _ Ty) hsz hcs;have hval:=h.N6 hD _ _ Tx;rw [hx] at hval;simp only [VR] at hval;obtain ⟨Me,cap,hx0,hcap,c,e',f,hb,RK⟩:=hval;have qn:(execOp a.eval o).run P w=((Builtin.append_ #[t,t2] o.type #[a.eval x0,a.eval y0]).run P w).andThen λv w' => .ok (.value v) w' :=by
     obtain ⟨dst,bt,ty,pos,after,guard⟩:=o;simp only at hop;subst hop;simp [execOp,resolve,invoke,builtin]
    have tu:O vn=m * sz:=by rw [I6.length _ _ HV,hcl]
    subst hsi Mg;have hO:=h.H id _ hl0;simp only [OR] at hO;obtain ⟨_,c0,e0,f0,h1,Dj,hnf,ar6,h5⟩:=hO;rw [hb] at h1;cases h1;have rL:A2 (L3 id l0++cs)<=max (x6.cells l0).H7 (id+1):=by
     rw [eD];have:=bU id l0;simp only [x6.H7];omega
    have Dm:=tG hone HV;have vrk:∀{pl:Place} {b:c7} {u:Value},VR G I N w pl b u->VR G I N w pl (b.kill id) u :=
     λhb=>VR.mono (Ext.refl _ _).sub (λ_ _=>rfl) (λi hi=>hi.1) _ _ _ (Or.inr (λ_ _ h=>⟨h,rfl⟩)) (VR.kill id _ _ _ hb)
    by_cases hfit:len+m<=cap
    ·
     have hrun:=bA (P:=P) (w:=w) (ty:=o.type) hu hi ht2 (base:=J (ad (I id).1 ((I id).2+0))) (sLen:=len) (sCap:=cap) hl (hf w rfl) hfit;have hbig:(len+m) * i.size<=cap * i.size:=F8 _ hfit;rw [Nat.add_mul] at hbig;have TN:(I id).2+len * i.size+O vn<=c.size:=V
     have hst:=run_storeCells_at (P:=P) (I id).1 ((I id).2+0+len * i.size) e' f vn 0 c w hb hnf V Dm;have tf :(I id).2+0+len * i.size+O vn<=O c.toList:=D
     have kK :(J6 c.toList ((I id).2+0+len * i.size) vn).toArray.size=c.size:=by rw [List.size_toArray,ig _ _ _ tf,Array.length_toList]
     have hw:=sE (G:=G) hb Dj kK;refine ⟨.slice (J (ad (I id).1 ((I id).2+0))) (len+m) cap,w.setRow (I id).1 (J6 c.toList ((I id).2+0+len * i.size) vn).toArray,G,I,?_,
      an.MJ h hk X0 hl0 W5.1 W5.2.1 W5.2.2 hw.ext hw.keeps (λid' hne=>hw.uv hne) (λb' hb' =>h.wf b' (by rw [<- hw.size];exact hb')) (λ_ _=>rfl) ?_ rL ?_ (.obj id::st.l6) (by simp [Touch.F1])⟩
     .rw [qn,hx0,hrun]
      simp only [X9];simp only [Nat.add_zero] at hst ⊢;rw [hst];rfl
     .simp only [OR]
      have mono:∀{pl:Place} {b:c7} {u:Value},VR G I N w pl b u->VR G I N (w.setRow (I id).1 (J6 c.toList ((I id).2+0+len * i.size) vn).toArray) pl b u :=
       λhq=>VR.mono hw.ext (λ_ _=>rfl) (λ_ h=>h) _ _ _ (Or.inr (hw.keeps _)) hq
      refine ⟨Me,_,e',f,setRow_heap w _ c _ e' f hb,Dj,by rw [kK];exact hnf,?_,λj b hj=>?_⟩
      .rw [kK,j9,O6,hcl];omega
      .rw [show (J6 c.toList ((I id).2+0+len * i.size) vn).toArray[(I id).2+j]? =(J6 c.toList ((I id).2+0+len * i.size) vn)[(I id).2+j]? from by simp,ic _ _ _ tf]
       have hjl:=y9 hj;rw [j9,O6,hcl] at hjl
       by_cases HP:j<O l0
       .rw [y7 (by rw [O6];exact HP),dS] at hj
        rw [if_pos V];rw [o3 HP] at hj;simp at hj;subst hj;obtain ⟨v,g1,g2⟩:=h5 j _ (o3 HP);exact ⟨v,by simpa using g1,mono (vrk g2)⟩
       .rw [x7 (by rw [O6];omega),O6] at hj
        rw [if_neg V,if_pos V];obtain ⟨u,r1,r2⟩:=I6.get _ _ HV (j - O l0) b hj;exact ⟨u,by rw [show (I id).2+j - ((I id).2+0+len * i.size)=j - O l0 from by omega];exact r1,mono r2.place⟩
     .simp only [VR]
      exact ⟨Me,cap,rfl,hfit,_,e',f,setRow_heap w _ c _ e' f hb,by rw [kK];exact RK⟩
    ·
     have hlt:cap<len+m:=V
     have Mk:∃vo:List Value,O vo=len * i.size/\(∀w2:World,w2.heap=w.heap->(Builtin.firstCells i.size len (.slice (J (ad (I id).1 ((I id).2+0))) len cap)).run P w2= .ok vo.toArray w2) /\
       (∀(j:Nat) b,l0[j]? =J b->∃v,vo[j]? =J v/\VR G I N w (.cell id j) b v):=by
      refine ⟨(List.range (len * i.size)).map (λj=>(c[(I id).2+j]?).getD default),U,λw2 Jz=>?_,λj b hj=>?_⟩
      .have:=run_loadCells_list (P:=P) w2 (ad (I id).1 ((I id).2+0)) ((List.range (len * i.size)).map (λj=>(c[(I id).2+j]?).getD default)) (λj v hj=>by
        have hjn:j<len * i.size:=by
         rcases y8 j (len * i.size) with h|h
         .exact h
         .simp [h] at hj
        simp [hjn] at hj;rw [X9,fQ Jz,Q3 hb];have hlt:(I id).2+j<c.size:=V
        simp [hlt] at hj ⊢;exact hj)
       simpa [Builtin.firstCells] using this
      .have hjn:j<len * i.size:=by have:=y9 hj;omega
       obtain ⟨u,g1,g2⟩:=h5 j b hj;exact ⟨u,by simp [hjn,g1],g2⟩
     obtain ⟨vo,TS,TT,TU⟩:=Mk;obtain ⟨bg,wo,hrun⟩:=dg (P:=P) (w:=w) (ty:=o.type) hu hi hz ht2 (base:=J (ad (I id).1 ((I id).2+0))) (sLen:=len) (sCap:=cap) hl (hf w.drew rfl) (TT w.drew rfl) hlt (uS hroom Tv) (mV hroom hlt);have hnb:fZ w (w.drew.alloc (.cells (vo.toArray++vn.toArray++Builtin.zeroCells z.cells (bg - (len+m))) e)) (.cells (vo.toArray++vn.toArray++Builtin.zeroCells z.cells (bg - (len+m))) e):=by
      have:=fZ.alloc w.drew (.cells (vo.toArray++vn.toArray++Builtin.zeroCells z.cells (bg - (len+m))) e);exact ⟨this.os,this.tape,this.output,o5 (Nat.le_succ _) this.drawn,this.size,this.old,this.new⟩
     have hsize:(vo.toArray++vn.toArray++Builtin.zeroCells z.cells (bg - (len+m))).size=bg * i.size:=by
      simp only [Array.size_append,List.size_toArray,qU,hzs,TS,tu];have:bg * i.size=(len+m) * i.size+(bg - (len+m)) * i.size:=by rw [<- Nat.add_mul];congr 1;omega
      rw [this,Nat.add_mul]
     refine ⟨.slice (J (ad w.heap.size 0)) (len+m) bg,_,dF G w.heap.size (.obj id),mE I id (w.heap.size,0),?_,
      an.MJ h hk X0 hl0 W5.1 W5.2.1 W5.2.2 (hnb.ext h.wf _) (hnb.keeps h.wf _) (λid' _=>hnb.uv h.wf _ id') (hnb.wf h.wf _) (λi hi=>aK hi) ?_ rL ?_ (.obj id::st.l6) (by simp [Touch.F1])⟩
     .rw [qn,hx0,hrun];rfl
     .simp only [OR]
      have mono:∀{pl:Place} {b:c7} {u:Value},VR G I N w pl b u->VR (dF G w.heap.size (.obj id)) (mE I id (w.heap.size,0)) N _ pl (b.kill id) u :=
       λhq=>VR.mono (hnb.ext h.wf _).sub (λi hi=>aK hi.2) (λi hi=>hi.1) _ _ _ (Or.inr (hnb.keeps h.wf _ _)) (VR.kill id _ _ _ hq)
      refine ⟨Me,_,e,(0,0),by rw [T0];exact hnb.new,U,jx _,?_,λj b hj=>?_⟩
      .rw [hsize]
       simp only [T0,j9,O6,hcl];have:(len+m) * i.size<=bg * i.size:=F8 _ wo;rw [Nat.add_mul] at this;omega
      .have hjl:=y9 hj
       rw [j9,O6,hcl] at hjl;simp only [T0,Nat.zero_add];rw [show (vo.toArray++vn.toArray++Builtin.zeroCells z.cells (bg - (len+m)))[j]? =(vo++vn++(Builtin.zeroCells z.cells (bg - (len+m))).toList)[j]? from by rw [<- Array.getElem?_toList];simp,
        y7 (by rw [j9];omega)]
       by_cases HP:j<O l0
       .rw [y7 (by rw [O6];exact HP),dS] at hj
        rw [y7 V];rw [o3 HP] at hj;simp at hj;subst hj;obtain ⟨v,g1,g2⟩:=TU j _ (o3 HP);exact ⟨v,g1,mono g2⟩
       .rw [x7 (by rw [O6];omega),O6] at hj
        rw [x7 V];obtain ⟨u,r1,r2⟩:=I6.get _ _ HV (j - O l0) b hj;refine ⟨u,by rw [show j - O vo=j - O l0 from by omega];exact r1,?_⟩;have hb' :b.H7<=id:=o5 (kV _ _ _ hj) Wy;exact (VR.mono (hnb.ext h.wf _).sub (λi hi=>aK (by have:=hi.2;omega)) (λi hi=>hi.1) _ _ _ (Or.inl rfl) (VR.low id _ _ _ hb' r2)).place
     .simp only [VR]
      refine ⟨Me,bg,U,wo,_,e,(0,0),by rw [T0];exact hnb.new,?_⟩;rw [hsize];simp
   .cases he
  .cases he
 .cases he
end
end Go.z6
namespace Go.z6
variable [D6]
section
variable {P:Program} {X:Cx} {l:G9} {S:Nat->Prop} {st:G5} {a:Act} {w w' :World} {G G' :Gh} {I I' :P3} {N:Nat->Prop} {d9:Nat->Bool} {j8:List x9}
def FA (P:Program)(ck:Operand->A4->Bool)(o:Oper)(op:F6):Bool :=
 match o.op,op with
 | .mapUpdate t m k v,.dU kk m' k' v' =>ck m m' &&ck k k' &&ck v v' &&(match P.underlying t with
  |some (.map kt _)=>rR P kt kk
  |_=>F)
 |_,_=>F
theorem vA:∀{ks:List CK} {l m:List KD},N4 ks (l.map KD.av) (m.map KD.av)=J W->l=m
 |[],[],[],_=>rfl
 |[],_::_,_,h=>by simp [N4] at h
 |[],[],_::_,h=>by simp [N4] at h
 |k::ks,[],m,h=>by simp [N4] at h
 |k::ks,x::l,[],h=>by simp_all [N4,KD.av]
 |k::ks,x::l,y::m,h=>by
  have hd:∀(a b:Data),KD.av x= .d a->KD.av y= .d b->N4 (k::ks) (.d a::l.map KD.av) (.d b::m.map KD.av)=J W->x=y/\l=m:=by
   intro a b ha hb h;simp [N4] at h;split at h
   .split at h
    next u hu=>
     simp at h;obtain ⟨rfl,rfl⟩:=h;refine ⟨?_,vA hu⟩;simp_all [KD.av,Data.AO]<;>grind
    .cases h
   .cases h
  simp_all [KD.av]<;>grind
def Gf {kk:KK}{a b:Key}(h:Data.aZ kk a b=J W):a=b:=by
 unfold Data.aZ at h
 grind [vA]
def MH (k:Key):Instr.sameBits 10000 k.val k.val=W:=by
 have h:∀x:KD,Instr.sameBits 9999 x.val x.val=W:=by intro x;cases x<;>simp [KD.val,Instr.sameBits,beq_toListBytes]
 cases k<;>simp [Key.val,Instr.sameBits,beq_toListBytes]
 grind
theorem Iv {kk:KK}{t:TypeId}{d:TypeDesc}(ht:rR P t kk=W)(hd:P.underlying t=J d){key:Key}{nv:c7}{x:Value}(hx:VR G I N w .none nv x) :
  ∀(es:List (Key×c7)) (xs:List MapEntry) (i:Nat) (es' :List (Key×c7)),ER G I N w es xs->bM kk key nv es=J es' ->
   (nD (kB P w t d key.val kk) xs i K/\∀born,ER G I N w es' (xs++[{ key:=key.val,val:=x,born }])) \/
   (∃j v0,nD (kB P w t d key.val kk) xs i (J (i+j,v0))/\(∃e0,xs[j]? =J e0/\e0.key=key.val)/\ER G I N w es' (xs.modify j λe=>{ e with key:=key.val,val:=x }))
 |[],xs,i,es',hE,h=>by
  subst hE;simp [bM] at h;refine Or.inl ⟨rfl,λborn=>?_⟩
  grind [ER]
 |(k',v')::rest,xs,i,es',hE,h=>by
  obtain ⟨e,ys,rfl,h2,h3,h4⟩:=hE;unfold bM at h;split at h
  next hk=>
   have he:=Gf hk;subst he;refine Or.inr ⟨0,e.val,.inl ⟨by simp_all [qJ],rfl⟩,⟨e,rfl,h2⟩,?_⟩
   grind [List.modify_zero_cons,ER]
  .split at h
   next r' hr=>
    have hne:kB P w t d key.val kk e.key F:=by simp_all [qJ]
    rcases Iv ht hd hx rest ys (i+1) r' h4 hr with ⟨g1,g2⟩|⟨j,v0,g1,g2,g3⟩
    .refine Or.inl ⟨.inr ⟨hne,g1⟩,λborn=>?_⟩
     grind [ER]
    .refine Or.inr ⟨j+1,v0,.inr ⟨hne,?_⟩,M,?_⟩
     all_goals grind [List.modify_succ_cons,ER]
   .cases h
  .cases h
theorem vp {kk:KK}{key:Key}{nv:c7}:∀(es es' :List (Key×c7)),bM kk key nv es=J es' ->A2 (es'.map (·.2))<=max (A2 (es.map (·.2))) nv.H7
 |[],es',h=>by grind [bM,A2]
 |(k',v')::rest,es',h=>by
  unfold bM at h;split at h
  .grind [A2]
  .split at h
   next r' hr=>
    have:=vp rest r' hr
    grind [A2]
   .cases h
  .cases h
def FK (h:RI X l S st a w G I N)(hD:∀j,d9 j=W->S j){k:Nat}(hk:¬ S k)(X0:k<O st.L)(entry:Nat){o:Oper}{kk:KK}{m ky v:A4}(hc:FA P (X.ck d9) o (.dU kk m ky v)=W){E:Env}(hE:E.lim=l)
  {st' :G5} (he:R7 E k kk st (F7 st.T st.L m) (F7 st.T st.L ky) (F7 st.T st.L v)=J st'):∃w',(execOp a.eval o).run P w= .ok .skip w' /\an X l S entry st a w G I N st' k undef w' G I N:=by
 obtain ⟨dst,bt,ty,pos,after,guard⟩:=o;cases bt<;>simp only [FA,c9] at hc<;>try (cases hc;done)
 rename_i t m' k' v';obtain ⟨⟨⟨hm,hky⟩,hv⟩,ht⟩:=hc;have h1:=h.N6 hD _ _ hm;have h2:=h.N6 hD _ _ hky;have h3:=h.N6 hD _ _ hv;split at ht
 next kt et hu=>
  obtain ⟨dk,hdk⟩:∃d,P.underlying kt=J d:=by
   cases hd:P.underlying kt with
   |none=>cases kk<;>simp [rR,cU,gn,hd] at ht
   |some d=>exact ⟨d,rfl⟩
  unfold R7 at he;split at he
  next id kd hp hq=>
   rw [hp] at h1;simp only [VR] at h1;have h2:=Bq hq h2;split at he
   next es OL=>
    split at he
    next W5=>
     split at he
     next hkk=>
      split at he
      next es' WH=>
       cases he;have hO:=h.H id _ OL;simp only [OR] at hO;obtain ⟨hN,arr,dD,g1,g2,g3,g4⟩:=hO;have WK:(getObj (I id).1).run P w= .ok (.map arr dD) w:=by simp [getObj,Sem.run,g1]
       have hlt:(I id).1<w.heap.size:=by
        rcases y8 (I id).1 w.heap.size with h|h
        .exact h
        .rw [Array.getElem?_eq_none h] at g1;cases g1
       have nC:∀ob:Obj,(setObj (I id).1 ob).run P w= .ok () { w with heap:=w.heap.setIfInBounds (I id).1 ob }:=by
        intro ob;simp [setObj,Sem.run,g1]
       have wrote:∀ob:Obj,nE id (I id).1 w { w with heap:=w.heap.setIfInBounds (I id).1 ob } G:=by
        intro ob;refine ⟨g2,rfl,rfl,rfl,k9 _,U,λb' hne=>?_,λc e f hc=>?_⟩
        .simp [Array.getElem?_setIfInBounds_ne (λe=>hne e.symm)]
        .rw [g1] at hc;cases hc
       have rL:(x6.map es').H7<=max (x6.map es).H7 (id+1)\/(l.base<=id/\l.strict<=id):=by
        left;have:=vp es es' WH;simp only [x6.H7];have:=W5.1;omega
       have fin:∀(IQ :Array MapEntry) (Lm :Nat),ER G I N w es' IQ.toList->Cf IQ Lm ->an X l S entry st a w G I N (put { st with H:=st.H.set id (.map es'),l6:= .obj id::st.l6 } k .any) k undef { w with heap:=w.heap.setIfInBounds (I id).1 (.map IQ Lm) } G I N:=by
        intro IQ Lm hER hBn;have hw:=wrote (.map IQ Lm);refine an.write h hk X0 entry hw OL ?_ (by rw [<- hE];exact W5.2) rL (λ_=>Iff.rfl) (by simp [VR]) (.obj id::st.l6) (by simp [Touch.F1]);simp only [OR];exact ⟨hN,IQ,Lm,by simp [hlt],g2,ER.mono hw.ext (λ_ _=>rfl) (λ_ h=>h) _ _ hER,hBn⟩
       have hck:=ga (P:=P) (w:=w) ht (HE hkk) F 9998;rw [<- h2] at hck;have hp:=Iv (P:=P) (w:=w) (key:=kd) ht hdk h3 es arr.toList 0 es' g3 WH;rw [<- h2] at hp
       rcases hp with ⟨f1,f2⟩|⟨j,v0,f1,⟨e0,f2,f2'⟩,f3⟩
       .have RN:(Instr.findKey kt (a.eval k') arr.toList).run P w= .ok K w:=lF hdk f1
        refine ⟨_,?_,fin (arr.push { key:=a.eval k',val:=a.eval v',born:=dD }) (dD+1) (by simpa using f2 dD) (g4.push _ _)⟩;simp [execOp,h1.2,Instr.mapUpdate,run_underlying hu,WK,hck,RN,nC]
       .have RN:(Instr.findKey kt (a.eval k') arr.toList).run P w= .ok (J (0+j,v0)) w:=lF hdk f1
        have hkeep:(Instr.keyThatStays (((arr[0+j]?).map (·.key)).getD (a.eval k')) (a.eval k')).run P w= .ok (a.eval k') w:=by
         have e1:arr[0+j]? =J e0:=by simpa using f2
         have wu:=MH kd;rw [<- h2] at wu;rw [e1];simp only [B8,Option.getD_some,f2',Instr.keyThatStays,wu,if_true,Sem.run_pure]
        refine ⟨_,?_,fin (arr.modify (0+j) λe=>{ e with key:=a.eval k',val:=a.eval v' }) dD (by simpa using f3) (g4.modify _ _ λ_=>rfl)⟩;simp only [execOp,h1.2,Instr.mapUpdate,Sem.run_bind,run_underlying hu,Result.andThen_ok,WK,hck,RN,hkeep,nC,Sem.run_pure]
      .cases he
     .cases he
    .cases he
   .cases he
  .cases he
 .cases ht
end
end Go.z6
namespace Go.z6
variable [D6]
section
variable {P:Program} {X:Cx} {l:G9} {S:Nat->Prop} {st:G5} {a:Act} {w w' :World} {G G' :Gh} {I I' :P3} {N:Nat->Prop} {d9:Nat->Bool} {j8:List x9}
def Dz (h:RI X l S st a w G I N)(hpv:PV X j8 S st a w I)(hT:O st.T=O X.names)(hD:∀j,d9 j=W->S j){x:Operand}{y:A4}(hc:X.ck d9 x y=W)(hn:isNil l j8 st y=W) :
  a.eval x= .slice K 0 0:=by
 unfold isNil at hn;split at hn
 .unfold Cx.ck at hc
  split at hc
  .simp_all
  .simp_all
  next v' b heq=>
   cases heq;have:=aW (G:=G) (I:=I) (N:=N) (w:=w) _ _ hc;simp_all [VR,Act.eval]
  all_goals simp_all
 next j=>
  have TG:∃t,x= .tmp t/\d9 j=W/\(X.ops[j]?).bind (·.dst)=J t/\X.names.contains t=F:=by
   simp_all [Cx.ck]<;>grind
  obtain ⟨t,rfl,hDj,wm,Bg⟩:=TG;have Tp:=hD j hDj;simp only [Act.eval];split at hn
  .have h1:=h.L j Tp t wm Bg
   simp_all [Z3,VR]
  next n0 c0 hj=>
   split at hn
   next ai hai=>
    unfold fm at hn;split at hn
    next s hop=>
     simp only [c9,o9] at hn;obtain ⟨hun,hs⟩:=hn;split at hs
     .obtain ⟨ts,hts⟩:∃ts,X.names[s]? =J ts:=by
       grind
      have h1:=h.T s ts hts;have he:=hpv.slot j ai s ts t Tp (by rw [hj];simp) hai hop hts wm Bg hun;simp_all [VR]
     .cases hs
    next x' hop=>
     split at hn
     next id off PN=>
      simp only [c9,o9] at hn;obtain ⟨⟨hun,hmay⟩,hs⟩:=hn;split at hs
      next cs hcs=>
       split at hs
       next BX=>
        have hO:=h.H id _ hcs;obtain ⟨hN,c,e,f,g1,g2,g3,g4,g5⟩:=hO;have he:=hpv.cell j ai x' id off t cs Tp (by rw [hj];simp) hai hop PN hcs (y9 BX) hun wm Bg
        grind [Q3,Option.some_inj,VR]
       .cases hs
      .cases hs
     .cases hn
    .cases hn
   .cases hn
  .cases hn
 .cases hn
def nI (h:RI X l S st a w G I N)(hpv:PV X j8 S st a w I)(hT:O st.T=O X.names)(hD:∀j,d9 j=W->S j){k:Nat}(hk:¬ S k)(X0:k<O st.L)(entry:Nat){A1:Option Nat}(hid:ud l st N A1){o:Oper}{sz bytes:Nat}{x y:A4}
  (hc:bW P (X.ck d9) o (.append sz bytes W x y)=W) {E:Env} (hE:E.lim=l) {st' :G5} (he:J7 E j8 A1 k sz bytes W st x (F7 st.T st.L y)=J st') :
  (∃v w' G',(execOp a.eval o).run P w= .ok (.value v) w' /\an X l S entry st a w G I N st' k v w' G' I N) \/
  ∃v w' G' I' N' ob av,(execOp a.eval o).run P w= .ok (.value v) w' /\st' =put (D4 st A1 ob) k av/\an X l S entry st a w G I N st' k v w' G' I' N' /\(∀i,N' i↔N i\/i=newId st A1):=by
 obtain ⟨x0,y0,t,t2,e,i,z,hop,Tx,Ty,ht2,hsz,hu,hi,hsi,Mg,hz,hzs,Tv⟩:=bE hc;have qn:(execOp a.eval o).run P w=((Builtin.append_ #[t,t2] o.type #[a.eval x0,a.eval y0]).run P w).andThen λv w' => .ok (.value v) w' :=by
  simp_all [guard,execOp,resolve,invoke,builtin]
 unfold J7 at he;rw [hE] at he;simp [if_true] at he;split at he
 next m cs hcs=>
  split at he
  next W5=>
   obtain ⟨hnil,hroom,_⟩:=W5;have hx0:=Dz h hpv hT hD Tx hnil;obtain ⟨vn,hl,hf,HV,hcl⟩:=nc (P:=P) h.H (h.N6 hD _ _ Ty) hsz hcs;have tu:O vn=m * sz:=by grind [I6.length]
   subst hsi Mg;split at he
   next hm=>
    subst hm;cases he;have hrun:=bA (P:=P) (w:=w) (ty:=o.type) hu hi ht2 (base:=K) (sLen:=0) (sCap:=0) hl (hf w rfl) (k9 _);refine Or.inl ⟨.slice K 0 0,w,G,?_,an.same h hk X0 entry (by simp [VR])⟩;simp_all
   .cases he
    have hlt:0<0+m:=V
    obtain ⟨bg,wo,hrun⟩:=dg (P:=P) (w:=w) (ty:=o.type) hu hi hz ht2 (base:=K) (sLen:=0) (sCap:=0) (old:= #[]) hl (hf w.drew rfl) (by rfl) hlt (by rw [Nat.zero_add];exact uS hroom Tv) (by simp_all [Nat.zero_add,mV]);rw [Nat.zero_add] at wo hrun;have hnb:fZ w (w.drew.alloc (.cells (#[]++vn.toArray++Builtin.zeroCells z.cells (bg - m)) e)) (.cells (#[]++vn.toArray++Builtin.zeroCells z.cells (bg - m)) e):=by
     have:=fZ.alloc w.drew (.cells (#[]++vn.toArray++Builtin.zeroCells z.cells (bg - m)) e);exact ⟨this.os,this.tape,this.output,o5 (Nat.le_succ _) this.drawn,this.size,this.old,this.new⟩
    have hsize:(#[]++vn.toArray++Builtin.zeroCells z.cells (bg - m):Array Value).size=bg * i.size:=by
     simp [Array.size_append,List.size_toArray,qU,hzs,tu,y4,Nat.zero_add];rw [<- Nat.add_mul];simp_all
    refine Or.inr ⟨.slice (J (ad w.heap.size 0)) m bg,_,_,_,_,.cells cs,_,M,rfl,an.newObj h hk X0 entry hid hnb (.cells cs) ?_ ?_,λi=>Iff.rfl⟩
    .simp only [OR]
     refine ⟨Or.inr trivial,_,e,(0,0),by rw [T0];exact hnb.new,U,jx _,?_,λj b hj=>?_⟩
     .simp_all [T0,Nat.zero_add,F8]
     .simp only [T0]
      obtain ⟨u,r1,r2⟩:=I6.get _ _ HV j b hj;refine ⟨u,?_,?_⟩
      .grind
      .exact (hnb.vr h.wf _ (λj hj=>aK (by rintro rfl;exact hid.new hj)) (λ_ h=>Or.inl h) r2).place
    .simp only [VR]
     refine ⟨Or.inr trivial,bg,U,wo,_,e,(0,0),by rw [T0];exact hnb.new,?_⟩;simp_all
  .cases he
 .cases he
def vC (P:Program)(ck:Operand->A4->Bool)(o:Oper)(op:F6):Bool :=
 match o.op,op with
 | .call ⟨.builtin .clear,args,argTypes⟩,.clear sz zero y =>
  (match args.toList,argTypes.toList with
   |[x],[t]=>ck x y&&decide (0<sz)&&(match P.underlying t with
    |some (.slice e)=>(match P.info? e with
     |some i=>(match i.zero with|some z=>consts z.cells.toList zero&&z.cells.size==sz&&zero.all c7.one|none=>F)
     |none=>F)
    |_=>F)
   |_,_=>F)
 |_,_=>F
theorem Da {α:Type}(zero:List α):∀(n i:Nat),((c8 n zero).flatten)[i]? =if i<n * O zero then zero[i % O zero]? else K
 |0,i=>U
 |n+1,i=>by
  rw [M0,List.flatten_cons]
  by_cases h:i<O zero
  .rw [y7 h,if_pos (by grind),Nat.mod_eq_of_lt h]
  .rw [x7 V,Da zero n (i - O zero)]
   by_cases h2:i - O zero<n * O zero
   .rw [if_pos h2,if_pos (by grind),Nat.mod_eq_sub_mod (a:=i) (b:=O zero) V]
   grind
theorem Cs {zero:List c7}(h:A2 zero=0):∀n:Nat,A2 (c8 n zero).flatten=0
 |0=>by simp [A2]
 |n+1=>by rw [M0,List.flatten_cons,eD,h,Cs h n];rfl
def Jd (h:RI X l S st a w G I N)(hD:∀j,d9 j=W->S j){k:Nat}(hk:¬ S k)(X0:k<O st.L)(entry:Nat){o:Oper}{sz:Nat}{zero:List c7}{y:A4}
  (hc:vC P (X.ck d9) o (.clear sz zero y)=W) {E:Env} (hE:E.lim=l) {st' :G5} (he:U5 E k sz zero st (F7 st.T st.L y)=J st') :
  ∃w',(execOp a.eval o).run P w= .ok (.value (.tuple #[])) w' /\an X l S entry st a w G I N st' k (.tuple #[]) w' G I N:=by
 unfold vC at hc;split at hc
 next args argTypes sz' zero' y' hop heq=>
  cases heq;split at hc
  next x t ha ht=>
   have e1:args= #[x]:=by grind
   have e2:argTypes= #[t]:=by grind
   subst e1 e2;simp only [c9,decide_eq_true_eq] at hc;obtain ⟨⟨hx,hsz⟩,hc⟩:=hc;split at hc
   next e hu=>
    split at hc
    next i hi=>
     split at hc
     next z hz=>
      simp only [c9,beq_iff_eq] at hc;obtain ⟨⟨hcs,hzs⟩,hone⟩:=hc;have qn:(execOp a.eval o).run P w=((Builtin.clear_ #[t] o.type #[a.eval x]).run P w).andThen λv w' => .ok (.value v) w' :=by
       simp_all [guard,execOp,resolve,invoke,builtin]
      have hv:=h.N6 hD _ _ hx;unfold U5 at he;split at he
      next id z' lo len hy=>
       rw [hy] at hv;obtain ⟨hN,cap,hx0,hcap,_⟩:=hv;split at he
       next W5=>
        obtain ⟨rfl,hzl,hzb,hmay⟩:=W5;split at he
        next H' hw=>
         cases he;obtain ⟨l0,c,e',f,g1,g2,g3,g4,g5,g6,g7,g8,g9⟩:=h.H.wr hw;have hvz:=cQ (G:=G) (I:=I) (N:=N) (w:=w) _ _ hcs
         by_cases hlen:len=0
         .subst hlen
          have hH' :H' =st.H:=by
           rw [g2];simp only [List.replicate_zero,List.flatten_nil,splice,y4,Nat.add_zero,List.append_nil,List.take_append_drop];apply List.ext_getElem?
           grind
          have hM:=an.write (D1:=N) h hk X0 entry (w' :=w) (G:=G) (id:=id) (b:=(I id).1) ⟨g6,rfl,rfl,rfl,k9 _,rfl,λ_ _=>rfl,λc _ _ h=>⟨c,h,rfl⟩⟩ g1 (h.H id _ g1) (by grind) (Or.inl V) (λ_=>Iff.rfl) (v:= .tuple []) (x:= .tuple #[]) (by grind [VR,I6]) (.obj id::st.l6) (by simp [Touch.F1]);have nC:st.H.set id (.cells l0)=st.H:=by
           grind
          refine ⟨w,?_,by grind⟩;rw [qn,hx0];simp [Builtin.clear_,run_underlying hu]
         .have hzc:O (Builtin.zeroCells z.cells len).toList=len * z' :=by simp [qU,hzs]
          have hfl:O ((c8 len zero).flatten)=len * z' :=by simp [hzl]
          have um:∀(j:Nat) b,((c8 len zero).flatten)[j]? =J b->∃u,(Builtin.zeroCells z.cells len).toList[j]? =J u/\VR G I N w .none b u:=by
           intro j b hj;rw [Da] at hj;split at hj
           next hjl=>
            rw [hzl] at hj hjl;obtain ⟨u,r1,r2⟩:=I6.get _ _ hvz (j % z') b hj;have hzj:z.cells[j % z']? =J u:=M
            have bc0 :z.cells[j % z.cells.size]! =u:=by
             grind
            simp_all [Array.range,Array.getElem?_toList,Builtin.zeroCells,Array.getElem?_map,B8]
           .cases hj
          obtain ⟨hO,hW⟩:=yW g4 g5 g6 g7 g8 g9 g3 (vs:=(Builtin.zeroCells z.cells len).toList) (by rw [hzc,hfl]) (λj b hj=>by
           obtain ⟨u,r1,r2⟩:=um j b hj;exact ⟨u,r1,r2.place⟩)
          have Dm:DZ (Builtin.zeroCells z.cells len).toList:=by
           intro u Xg;obtain ⟨j,hj,rfl⟩:=E0 Xg;have hjl:j<O ((c8 len zero).flatten):=V
           obtain ⟨u',r1,r2⟩:=um j _ (o3 hjl)
           grind [c8,List.getElem_mem,List.mem_flatten,jl,List.all_eq_true]
          have hrun:=run_storeCells_at (P:=P) (I id).1 ((I id).2+lo) e' f (Builtin.zeroCells z.cells len).toList 0 c w g5 g7 V Dm;have rL:(x6.cells (splice l0 lo (c8 len zero).flatten)).H7<=max (x6.cells l0).H7 (id+1)\/(l.base<=id/\l.strict<=id):=by
           grind [sL,c8,Cs,x6.H7]
          have hM:=an.write (D1:=N) h hk X0 entry hW g1 hO M rL (λ_=>Iff.rfl) (v:= .tuple []) (x:= .tuple #[]) (by simp_all [VR,I6]) (.obj id::st.l6) (by simp [Touch.F1]);simp_all [zeroValue,typeInfo,Builtin.clear_,run_underlying]
        .cases he
       .cases he
      next cells hy=>
       cases he;rw [hy] at hv;refine ⟨w,?_,an.same h hk X0 entry (by simp_all [VR,I6])⟩;rw [qn]
       rcases hv with ⟨hv|⟨a0,hv⟩,_⟩|⟨b,o',cap,hv,_⟩
       all_goals simp_all [Builtin.clear_,run_underlying]
      .cases he
     .cases hc
    .cases hc
   .cases hc
  .cases hc
 .cases hc
end
end Go.z6
namespace Go.z6
variable [D6]
def hold (G:Gh)(n:Nat):Gh:=λb =>
 match G b with
 | .grow m (.cell id off)=>if id<n then .grow m (.cell id off) else .held m
 | .grow m _=> .held m
 | .obj id=>if id<n then .obj id else .held 0
 |x=>x
def bS (G G1:Gh)(n:Nat):Gh:=λb=>if hold G n b=G b then G1 b else G b
section
variable {G G1:Gh} {w w1:World} {n:Nat}
theorem uX (b o:Nat):fE (hold G n) b o↔fE G b o:=by
 grind [fE,hold]
def qo:Ext G w (hold G n) w where
 os:=rfl
 tape:=rfl
 output:=rfl
 drawn _:=k9 _
 size:=k9 _
 iA b o h:=⟨(uX b o).2 h,rfl⟩
 still b h:=⟨by grind [hold],rfl⟩
 shape _ c _ _ h:=⟨c,h,rfl⟩
def HS (h:WF G w):WF (hold G n) w:=λb hb=>by simp [hold,h b hb]
def lK {b id:Nat}(hid:id<n)(h:G b= .obj id):hold G n b= .obj id:=by grind [hold]
def ja {id off:Nat}(hid:id<n):Y8 (.cell id off) G w (hold G n) w:=λb m hb=>⟨by grind [hold],rfl⟩
def zH {b m:Nat}{pl:Place}(hn:n=0):hold G n b≠ .grow m pl:=by
 grind [hold]
def Dl {b id:Nat}(h:hold G n b= .obj id):id<n:=by
 grind [hold]
theorem hidden {b:Nat}(h:hold G n b≠G b):∃m,hold G n b= .held m:=by
 grind [hold]
theorem eV {b:Nat}(he:Ext (hold G n) w G1 w1)(h:hold G n b≠G b):bS G G1 n b=G b/\w1.heap[b]? =w.heap[b]? /\G1 b=hold G n b:=by
 obtain ⟨m,hm⟩:=hidden h;obtain ⟨h1,h2⟩:=he.still b (Or.inr ⟨m,hm⟩);simp_all [bS]
def eW {b:Nat}(h:hold G n b=G b):bS G G1 n b=G1 b:=by simp [bS,h]
def xP (he:Ext (hold G n) w G1 w1):Ext G w (bS G G1 n) w1 where
 os:=he.os
 tape:=he.tape
 output:=he.output
 drawn:=he.drawn
 size:=he.size
 iA b o h:=by
  obtain ⟨h1,h2⟩:=he.iA b o ((uX b o).2 h);refine ⟨?_,h2⟩
  by_cases hh:hold G n b=G b
  .simp_all [fE,eW]
  .unfold fE at h ⊢;rw [(eV he hh).1];exact h
 still b h:=by
  have hh:hold G n b=G b:=by grind [hold]
  obtain ⟨h1,h2⟩:=he.still b M;simp_all [eW]
 shape:=he.shape
def kj (he:Ext (hold G n) w G1 w1):Sub G1 w1 (bS G G1 n) w1 where
 iA b o h:=by
  by_cases hh:hold G n b=G b
  .simp_all [fE,eW]
  .obtain ⟨h1,h2,h3⟩:=eV he hh
   grind [fE,hold,uX]
 shape _ c _ _ h:=⟨c,h,rfl⟩
theorem Z7 (he:Ext (hold G n) w G1 w1){b:Nat}(h:∀m,G1 b≠ .held m):bS G G1 n b=G1 b:=by
 by_cases hh:hold G n b=G b
 .exact eW hh
 .obtain ⟨_,_,h3⟩:=eV he hh
  grind [hidden,absurd]
def iq (he:Ext (hold G n) w G1 w1)(q:Place):Y8 q G1 w1 (bS G G1 n) w1 :=
 λb m hb=>⟨by grind [Z7],rfl⟩
def cC (he:Ext (hold G n) w G1 w1){q:Place}(hq:∀id off,q= .cell id off->n<=id):Y8 q G w (bS G G1 n) w1:=by
 intro b m hb
 grind [hold,eV]
def xQ (he:Ext (hold G n) w G1 w1){id:Nat}(hid:n<=id):∀b,G b= .obj id->bS G G1 n b= .obj id/\w1.heap[b]? =w.heap[b]? :=by
 grind [hold,eV]
def Aq (he:Ext (hold G n) w G1 w1)(hwf:WF G w)(h1:WF G1 w1):WF (bS G G1 n) w1:=by
 intro b hb;have hg:G b= .free:=hwf b (o5 he.size hb);have hh:hold G n b=G b:=by simp [hold,hg]
 rw [eW hh];exact h1 b hb
end
structure yh (l:G9)(H:k8)(w:World)(G:Gh)(I:P3)(N:Nat->Prop)(args:List c7)(J2:Array Value):Prop where
 args:I6 G I N w args J2.toList
 hr:HR G I N w H
 wf:WF G w
 Z8:∀id,N id->id<O H
 R8:IG l H
 base:l.base<=O H
 strict:l.strict<=l.base
 iJ:∀b id:Nat,G b= .obj id->id<O H
 as8:O H=0->∀b n pl,G b≠ .grow n pl
structure kz (l:G9)(H:k8)(w:World)(G:Gh)(I:P3)(N:Nat->Prop)(v:c7)(H1:k8)(x:Value)(w' :World)(G' :Gh)(I' :P3)(N' :Nat->Prop):Prop where
 val:VR G' I' N' w' .ret v x
 hr:HR G' I' N' w' H1
 wf:WF G' w'
 ext:Ext G w G' w'
 bu:iM l G w G' w'
 inj:∀id,id<O H->N id->I' id=I id
 mono:∀id,N id->N' id
 old:∀id,id<O H->N' id->N id
 Z8:∀id,N' id->id<O H1
 hle:∀(id:Nat) (o' :x6),id<l.base->H1[id]? =J o' ->o'.H7<=id+1\/∃o:x6,H[id]? =J o/\o'.H7<=o.H7
 R8:IG l H1
def kO (P:Program)(cf:oZ)(prom:FuncId->Bool):Prop :=
 ∀f args H l v H1,cf f args H l=J (v,H1)->∀w G I N J2,yh l H w G I N args J2->(prom f=F->l.base=O H) ->
  Calls P f J2 w λe w' =>∃x G' I' N',e= .returned x/\kz l H w G I N v H1 x w' G' I' N'
def R3 (P:Program)(f:FuncId):Bool :=
 match P.funcs[f]? with
 | some fn => fn.name != "runtime.NumGoroutine" && fn.body.isSome
 |none=>F
def qH {P:Program}{w:World}{f:FuncId}(h:R3 P f=W)(args:Array Value):(callFunc f args).run P w= .ok (.enter f args) w:=by
 unfold R3 at h;split at h
 all_goals (simp_all [callFunc]<;>grind)
end Go.z6
namespace Go.z6
variable [D6]
theorem Cr:∀(l:List x6) (i:Nat) (o:x6),l[i]? =J o->o.H7<=C9 l
 |[],_,_,h=>by simp at h
 |v::vs,0,o,h=>by grind [C9]
 |v::vs,i+1,o,h=>by have:=Cr vs i o (by simpa using h);grind [C9]
theorem pZ:∀(l:List x6) (k i:Nat) (o:x6),U6 l k=W->l[i]? =J o->o.H7<=k+i+1
 |[],_,_,_,_,h=>by simp at h
 |v::vs,k,0,o,hd,h=>by
  simp_all [U6,c9,decide_eq_true_eq]
 |v::vs,k,i+1,o,hd,h=>by
  simp [U6,c9] at hd;have:=pZ vs (k+1) i o hd.2 (by simpa using h);omega
def nX {H:k8}{n s i:Nat}{o:x6}(hi:i<n)(hs:s<=i)(h:H[i]? =J o):((H.take n).drop s)[i - s]? =J o:=by
 simp_all
def sw {l:G9}{H:k8}{n:Nat}(hd:IG l H)(hc:C9 ((H.take n).drop l.strict)<=n){id:Nat}{o:x6}(hid:id<n)(h:H[id]? =J o):o.H7<=n:=by
 by_cases hs:id<l.strict
 .have:=(hd id o h).1 hs;omega
 .have:=Cr _ _ _ (nX (s:=l.strict) hid V h);omega
def EG (H:k8)(s n:Nat):B1 H s n<=n:=by
 grind [B1]
def BK {l:G9}{H:k8}{n:Nat}(hd:IG l H){id:Nat}{o:x6}(hid:id<B1 H l.strict n)(h:H[id]? =J o):o.H7<=id+1:=by
 unfold B1 at hid;split at hid
 .exact (hd id o h).1 V
 .split at hid
  next hdf=>
   by_cases hs:id<l.strict
   .exact (hd id o h).1 hs
   .have:=pZ _ _ _ _ hdf (nX (s:=l.strict) hid V h);omega
  .exact (hd id o h).1 hid
def VR.Cm {G:Gh}{I:P3}{N:Nat->Prop}{w:World}{pl uw :Place}{a:c7}{x:Value}(ha:∀z n c,a≠ .own z n c)(h:VR G I N w pl a x):VR G I N w uw a x:=by
 cases a with
 |own z n c=>simp_all
 |any=>simp [VR]
 |_=>simp_all [VR]
structure OU (pl:Place)(l:G9)(H:k8)(w:World)(G:Gh)(I:P3)(N:Nat->Prop)(v:c7)(H1:k8)(x:Value)(w' :World)(G' :Gh)(I' :P3)(N' :Nat->Prop):Prop where
 val:VR G' I' N' w' pl v x
 hr:HR G' I' N' w' H1
 wf:WF G' w'
 ext:Ext G w G' w'
 bu:iM l G w G' w'
def kz.at {l:G9}{H:k8}{w:World}{G:Gh}{I:P3}{N:Nat->Prop}{v:c7}{H1:k8}{x:Value}{w' :World}{G' :Gh}{I' :P3}{N' :Nat->Prop}
  (h:kz l H w G I N v H1 x w' G' I' N') {pl:Place} (hp:pl≠ .none):∃G2,OU pl l H w G I N v H1 x w' G2 I' N' :=by
 by_cases ho:∃z n c,v= .own z n c
 .obtain ⟨z,n,c,rfl⟩:=ho
  obtain ⟨G2,hm,hv⟩:=gF hp h.val;refine ⟨G2,hv,h.hr.DN hm U,hm.wf h.wf,h.ext.trans hm.ext,h.bu.trans λid _=>⟨λb hb=>⟨hm.obj b id hb,rfl⟩,λoff=>hm.keeps _ U⟩⟩
 .exact ⟨G',h.val.Cm (λz n c e=>ho ⟨z,n,c,e⟩),h.hr,h.wf,h.ext,h.bu⟩
section
variable {P:Program} {X:Cx} {l:G9} {S:Nat->Prop} {st:G5} {a:Act} {w w1:World} {G G1:Gh} {I I1:P3} {N N1:Nat->Prop}
structure Fk (X:Cx)(l:G9)(S:Nat->Prop)(entry:Nat)(st:G5)(a:Act)(w:World)(G:Gh)(I:P3)(N:Nat->Prop)
  (st' :G5) (k:Nat) (x' :Value) (w' :World) (G' :Gh) (I' :P3) (N' :Nat->Prop):Prop where
 mid:an X l S entry st a w G I N st' k x' w' G' I' N'
 Z8:∀id,N' id->id<O st'.H
 old:∀id,id<O st.H->N' id->N id
def om (h:RI X l S st a w G I N)(aO:∀id,N id->id<O st.H){k:Nat}(hk:¬ S k)(X0:k<O st.L)(entry:Nat){n m:Nat}(hn:n<=O st.H)(hm:m<=n)
  {l' :G9} (hl' :l'.base=n) (hmay:∀id,id<n->l.may id=F->l'.may id=F) (Dk :∀id,m<=id->id<n->l'.may id=F)
  {v:c7} {H1:k8} {x:Value} (hlen:O H1=n) (hc:kz l' (st.H.take n) w (hold G n) I (λi=>N i/\i<n) v H1 x w1 G1 I1 N1) {l6:List Touch} (FY:∀id,l6.any (Touch.F1 id)=F->m<=id) :
  ∃G' I',Fk X l S entry st a w G I N (put { st with H:=H1.take m++st.H.drop m,l6 } k v) k x w1 G' I' N:=by
 have PS:O (st.H.take n)=n:=D
 have hN1:∀id,N1 id->N id/\id<n:=λid hid=>by
  have:=hc.Z8 id hid;exact hc.old id V hid
 have hI1:∀id,N id->id<n->I1 id=I id:=λid hid hlt=>hc.inj id V ⟨hid,hlt⟩
 obtain ⟨G2,hp⟩:=hc.at (pl:= .loc k) U;have hx:=xP hp.ext;have Qd:∀id,m<=id->∀b,G b= .obj id->bS G G2 n b= .obj id/\w1.heap[b]? =w.heap[b]? :=by
  intro id hid b hb
  by_cases hlt:id<n
  .obtain ⟨g1,g2⟩:=(hp.bu id (Dk id hid hlt)).1 b (lK hlt hb)
   exact ⟨by rw [Z7 hp.ext M];exact g1,g2⟩
  .exact xQ hp.ext V b hb
 have MG:∀id,m<=id->∀off,Y8 (.cell id off) G w (bS G G2 n) w1:=by
  intro id hid off
  by_cases hlt:id<n
  .intro b q hb
   obtain ⟨g1,_⟩:=ja (G:=G) (w:=w) (off:=off) hlt b q hb;obtain ⟨g3,g4⟩:=(hp.bu id (Dk id hid hlt)).2 off b q g1;exact ⟨by rw [Z7 hp.ext M];exact g3,g4⟩
  .exact cC hp.ext M
 have aY:∀id o',(H1.take m++st.H.drop m)[id]? =J o' ->(id<m/\H1[id]? =J o')\/(m<=id/\st.H[id]? =J o'):=by
  grind
 have hle:∀id o',(H1.take m++st.H.drop m)[id]? =J o' ->o'.H7<=id+1\/∃o:x6,st.H[id]? =J o/\o'.H7<=o.H7:=by
  intro id o' ho'
  rcases aY id o' ho' with ⟨hlt,ho⟩|⟨_,ho⟩
  .rcases hc.hle id o' V ho with hb|⟨o,h1,h2⟩
   all_goals grind
  simp_all
 have aI7:O (H1.take m++st.H.drop m)=O st.H:=D
 have Vk:∀id,N id->I1 id=I id\/n<=id:=λid hid=>by
  grind
 refine ⟨bS G G2 n,λid=>if id<n then I1 id else I id,?_,?_,?_⟩
 .have RJ:∀id,N id->(if id<n then I1 id else I id)=I id:=by
   simp_all
  have hIn:∀id,N1 id->(if id<n then I1 id else I id)=I1 id:=by
   simp_all
  have hNn:∀id,N1 id->N id:=λid hid=>(hN1 id hid).1
  refine ⟨⟨?_,?_,?_,Aq hp.ext h.wf hp.wf,?_⟩,?_,hx,?_,?_,λid _ hN=>RJ id hN,λ_ h=>h,?_,?_⟩
  .intro s t ht
   exact VR.mono hx RJ (λ_ h=>h) _ _ _ (Or.inr (cC hp.ext U)) (h.T s t ht)
  .intro j hj d hd Bg
   have:k≠j:=by grind
   simp only [z6.put];rw [L7 _ _ _ _ _ this];exact VR.mono hx RJ (λ_ h=>h) _ _ _ (Or.inr (cC hp.ext U)) (h.L j hj d hd Bg)
  .intro id o' ho'
   rcases aY id o' ho' with ⟨hlt,ho⟩|⟨hge,ho⟩
   .refine OR.mono (kj hp.ext) hIn hNn id o' (λhb=>?_) (λoff=>iq hp.ext _) (hp.hr id o' ho)
    exact ⟨by rw [Z7 hp.ext M];exact hb,rfl⟩
   .exact OR.mono hx RJ (λ_ h=>h) id o' (λhb=>Qd id hge _ hb) (MG id hge) (h.H id o' ho)
  .intro id o' ho'
   rcases hle id o' ho' with hb|⟨o,h1,h2⟩
   .omega
   .obtain ⟨d1,d2⟩:=h.R8 id o h1
    omega
  .simp only [z6.put]
   rw [L0 _ _ _ _ X0];exact VR.mono (kj hp.ext) hIn hNn _ _ _ (Or.inr (iq hp.ext _)) hp.val
  .intro id hid
   by_cases hlt:id<n
   .obtain ⟨p1,p2⟩:=hp.bu id (hmay id hlt hid)
    refine ⟨λb hb=>?_,λoff b q hb=>?_⟩
    .obtain ⟨g1,g2⟩:=p1 b (lK hlt hb)
     exact ⟨by rw [Z7 hp.ext M];exact g1,g2⟩
    .obtain ⟨g1,_⟩:=ja (G:=G) (w:=w) (off:=off) hlt b q hb
     obtain ⟨g3,g4⟩:=p2 off b q g1;exact ⟨by rw [Z7 hp.ext M];exact g3,g4⟩
   grind
  all_goals grind [z6.put]
 all_goals simp_all [z6.put]
def Fy (h:RI X l S st a w G I N)(aO:∀id,N id->id<O st.H){k:Nat}(hk:¬ S k)(X0:k<O st.L)(entry:Nat)
  {v:c7} {H1:k8} {x:Value} (hlen:O st.H<=O H1) (hc:kz l st.H w (hold G (O st.H)) I N v H1 x w1 G1 I1 N1) {l6:List Touch} (FY:∀id,l6.any (Touch.F1 id)=F->O st.H<=id) :
  ∃G',Fk X l S entry st a w G I N (put { st with H:=H1,l6 } k v) k x w1 G' I1 N1:=by
 obtain ⟨G2,hp⟩:=hc.at (pl:= .loc k) U;have hx:=xP hp.ext;have RJ:∀id,N id->I1 id=I id:=λid hid=>hc.inj id (aO id hid) hid
 refine ⟨bS G G2 (O st.H),?_,hc.Z8,hc.old⟩;refine ⟨⟨?_,?_,?_,Aq hp.ext h.wf hp.wf,hc.R8⟩,?_,hx,?_,?_,λid _ hN=>RJ id hN,hc.mono,hlen,λid o' hb ho' =>hc.hle id o' hb ho'⟩
 .intro s t ht
  exact VR.mono hx RJ hc.mono _ _ _ (Or.inr (cC hp.ext U)) (h.T s t ht)
 .intro j hj d hd Bg
  have:k≠j:=by grind
  simp only [z6.put];rw [L7 _ _ _ _ _ this];exact VR.mono hx RJ hc.mono _ _ _ (Or.inr (cC hp.ext U)) (h.L j hj d hd Bg)
 .intro id o' ho'
  refine OR.mono (kj hp.ext) (λ_ _=>rfl) (λ_ h=>h) id o' (λhb=>?_) (λoff=>iq hp.ext _) (hp.hr id o' ho');exact ⟨by rw [Z7 hp.ext M];exact hb,rfl⟩
 .simp only [z6.put]
  rw [L0 _ _ _ _ X0];exact VR.mono (kj hp.ext) (λ_ _=>rfl) (λ_ h=>h) _ _ _ (Or.inr (iq hp.ext _)) hp.val
 .intro id hid
  by_cases hlt:id<O st.H
  .obtain ⟨p1,p2⟩:=hp.bu id hid
   refine ⟨λb hb=>?_,λoff b q hb=>?_⟩
   .obtain ⟨g1,g2⟩:=p1 b (lK hlt hb)
    exact ⟨by rw [Z7 hp.ext M];exact g1,g2⟩
   .obtain ⟨g1,_⟩:=ja (G:=G) (w:=w) (off:=off) hlt b q hb
    obtain ⟨g3,g4⟩:=p2 off b q g1;exact ⟨by rw [Z7 hp.ext M];exact g3,g4⟩
  .exact ⟨xQ hp.ext V,λoff=>cC hp.ext M⟩
 .intro id hN ht
  have:=aO id hN;have:=FY id ht;omega
def wI {l:G9}{a b base strict id:Nat}(h:l.may id=F\/(a<=id/\id<b)):(l.gq a b base strict).may id=F:=by
 grind [G9.gq,G9.may,B2,decide_eq_false_iff_not]
def gQ (l:G9)(a b base strict:Nat):(l.gq a b base strict).base=base/\(l.gq a b base strict).strict=strict:=by
 grind [G9.gq]
def Jc {E:Env}(HM:kO P E.cf E.prom)(hE:E.lim=l)(h:RI X l S st a w G I N)(aO:∀id,N id->id<O st.H)(hb:l.base<=O st.H)(hs:l.strict<=l.base)
  {k:Nat} (hk:¬ S k) (X0:k<O st.L) (entry:Nat) {f:FuncId} {args:List c7} {J2:Array Value} (hargs:I6 G I N w args J2.toList) {st' :G5} (he:B9 E k f args st=J st') :
  Calls P f J2 w λe w' =>∃x G' I' N',e= .returned x/\Fk X l S entry st a w G I N st' k x w' G' I' N' :=by
 subst hE;unfold B9 at he;split at he
 next th=>
  split at he
  next v H1 dG=>
   split at he
   next hlen=>
    cases he;refine Calls.mono (HM f args st.H E.lim v H1 dG w (hold G (O st.H)) I N J2 ⟨?_,?_,HS h.wf,aO,h.R8,hb,hs,λ_ _=>Dl,λh0 _ _ _=>zH h0⟩ M) ?_
    .exact I6.mono qo.sub (λ_ _=>rfl) (λ_ h=>h) _ _ hargs
    .intro id o ho
     have hlt:=y9 ho;exact OR.mono qo.sub (λ_ _=>rfl) (λ_ h=>h) id o (λhb=>⟨lK hlt hb,rfl⟩) (λ_=>ja hlt) (h.H id o ho)
    .rintro e w' ⟨x,G1,I1,N1,rfl,hc⟩
     obtain ⟨G',hd⟩:=Fy h aO hk X0 entry hlen hc (l6:= .below (O H1)::st.l6) (by
      grind [Touch.F1])
     grind
   .cases he
  .cases he
 next th=>
  have th:E.prom f=F:=M
  simp only at he;generalize Bg:D7 st.H E.lim.strict 8 (A2 args)=n at he;have hna:A2 args<=n:=by
   rw [<- Bg];have:∀(j m:Nat),m<=D7 st.H E.lim.strict j m:=by
    intro j
    induction j with
    |zero=>grind [D7]
    |succ j ih =>
     grind [D7,o5,Nat.le_max_left]
   grind
  split at he
  next W5=>
   obtain ⟨hn,hbO⟩:=W5;have PS:O (st.H.take n)=n:=D
   have pre:∀l' :G9,l'.base=n->l'.strict=B1 st.H E.lim.strict n->yh l' (st.H.take n) w (hold G n) I (λi=>N i/\i<n) args J2:=by
    intro l' h1 h2;refine ⟨?_,?_,HS h.wf,λid hid=>V,?_,V,by simp_all [EG],λb id hb=>by rw [PS];exact Dl hb,λh0 _ _ _=>zH V⟩
    .exact I6.mono qo.sub (λ_ _=>rfl) (λ_ h=>h) _ _ (I6.low n _ _ hna hargs)
    .intro id o ho
     have hlt:id<n:=by grind
     rw [List.getElem?_take_of_lt hlt] at ho;exact OR.mono qo.sub (λ_ _=>rfl) (λ_ h=>h) id o (λhb=>⟨lK hlt hb,rfl⟩) (λ_=>ja hlt) (OR.low hlt o (sw h.R8 hbO hlt ho) (h.H id o ho))
    .intro id o ho
     have hlt:id<n:=by have:=y9 ho;omega
     rw [List.getElem?_take_of_lt hlt] at ho;rw [h1,h2];exact ⟨λhh=>BK h.R8 hh ho,λ_=>sw h.R8 hbO hlt ho⟩
   split at he
   .split at he
    next v H1 dG=>
     split at he
     next hlen=>
      cases he;refine Calls.mono (HM f args _ _ v H1 dG w (hold G n) I _ J2 (pre _ rfl rfl) (λ_=>PS.symm)) ?_;rintro e w' ⟨x,G1,I1,N1,rfl,hc⟩;obtain ⟨G',I',hd⟩:=om (l' :={ E.lim with base:=n,strict:=B1 st.H E.lim.strict n }) h aO hk X0 entry hn (k9 n) rfl (λid _ hid=>hid) (λid h1 h2=>V) hlen hc (l6:= .below n::st.l6) (by
       intro id ht;simp [Touch.F1] at ht;omega)
      rw [<- hlen,D3,hlen] at hd;exact ⟨x,G',I',N,rfl,hd⟩
     .cases he
    .cases he
   .split at he
    next v H1 dG=>
     split at he
     next hlen=>
      cases he;refine Calls.mono (HM f args _ _ v H1 dG w (hold G n) I _ J2 (pre _ rfl rfl) (λ_=>PS.symm)) ?_;rintro e w' ⟨x,G1,I1,N1,rfl,hc⟩;obtain ⟨G',I',hd⟩:=om (l' :=⟨0,n,n,B1 st.H E.lim.strict n⟩) h aO hk X0 entry hn (s8 n) rfl (λid h1 _=>by simp [G9.may];omega) (λid _ h2=>by simp [G9.may];omega) hlen hc (l6:=st.l6) (by intros;omega);refine ⟨x,G',I',N,rfl,?_⟩;simpa using hd
     .cases he
    .cases he
   .split at he
    next v H1 dG=>
     split at he
     next hlen=>
      cases he;refine Calls.mono (HM f args _ _ v H1 dG w (hold G n) I _ J2 (pre _ (gQ _ _ _ _ _).1 (gQ _ _ _ _ _).2) (λ_=>by rw [(gQ _ _ _ _ _).1,PS])) ?_;rintro e w' ⟨x,G1,I1,N1,rfl,hc⟩;obtain ⟨G',I',hd⟩:=om h aO hk X0 entry hn hlen.2 (gQ _ _ _ _ _).1 (λid _ hid=>wI (Or.inl hid)) (λid h1 h2=>wI (Or.inr ⟨h1,h2⟩)) hlen.1 hc (l6:= .below (args.headD .any).H7::st.l6) (by
       intro id ht;simp [Touch.F1] at ht;simpa using ht.1)
      exact ⟨x,G',I',N,rfl,hd⟩
     .cases he
    .cases he
  .cases he
end
end Go.z6
namespace Go.z6
variable [D6]
structure Tr (N:Nat->Prop)(k:Nat)(st st' :G5):Prop where
 l6:∀p:Touch->Bool,st.l6.any p=W->st'.l6.any p=W
 L:∀m id off:Nat,m≠k->st'.L[m]? =J (c7.ptr id off)->st.L[m]? =J (c7.ptr id off)
 T:∀s id off:Nat,st'.T[s]? =J (c7.ptr id off)->st.T[s]? =J (c7.ptr id off)
 H:∀(id:Nat) (l' :List c7),N id->st'.l6.any (Touch.F1 id)=F->st'.H[id]? =J (x6.cells l')->∃l:List c7,st.H[id]? =J (x6.cells l)/\O l=O l'
 V2:O st'.T=O st.T
 gA:O st'.L=O st.L
 OS:∀m:Nat,m≠k->st.L[m]? =J (c7.tuple [])->st'.L[m]? =J (c7.tuple [])
section
variable {N:Nat->Prop} {k:Nat} {st st1 st' :G5}
theorem Tr.refl (N:Nat->Prop)(k:Nat)(st:G5):Tr N k st st :=
 ⟨λ_ h=>h,λ_ _ _ _ h=>h,λ_ _ _ h=>h,λ_ l _ _ h=>⟨l,h,rfl⟩,rfl,rfl,λ_ _ h=>h⟩
theorem gD {t t' :List Touch}(h:∀p:Touch->Bool,t.any p=W->t'.any p=W){p:Touch->Bool}(h' :t'.any p=F):t.any p=F:=by
 grind
theorem Tr.trans (a:Tr N k st st1)(b:Tr N k st1 st'):Tr N k st st' where
 l6 p h:=b.l6 p (a.l6 p h)
 L m id off hm h:=a.L m id off hm (b.L m id off hm h)
 T s id off h:=a.T s id off (b.T s id off h)
 H id l' hN ht h:=by
  obtain ⟨l1,h1,e1⟩:=b.H id l' hN ht h;obtain ⟨l,h2,e2⟩:=a.H id l1 hN (gD b.l6 ht) h1;simp_all
 V2:=b.V2.trans a.V2
 gA:=b.gA.trans a.gA
 OS m hm h:=b.OS m hm (a.OS m hm h)
theorem Tr.put (v:c7):Tr N k st (put st k v) where
 l6 _ h:=h
 L m id off hm h:=by
  grind [z6.put,x5]
 T _ _ _ h:=h
 H _ l _ _ h:=⟨l,h,rfl⟩
 V2:=rfl
 gA:=by simp [z6.put]
 OS m hm h:=by
  grind [z6.put,x5]
def su {l:List c7}{j m id off:Nat}{x:Data}(h:(l.set j (.d x))[m]? =J (.ptr id off)):l[m]? =J (.ptr id off):=by
 grind
def tR {l:List c7}{j m:Nat}{z n:Nat}{c:List Data}{v:c7}(hj:l[j]? =J (.own z n c))(h:l[m]? =J (c7.tuple [])):(l.set j v)[m]? =J (c7.tuple []):=by
 grind
theorem Tr.E9 (y:A4):Tr N k st (E9 st y).2:=by
 cases y with
 |loc j =>
  simp [z6.E9];split
  next hj=>
   exact ⟨λ_ h=>h,λm id off _ h=>su h,λ_ _ _ h=>h,λ_ l _ _ h=>⟨l,h,rfl⟩,rfl,U,λ_ _ h=>tR hj h⟩
  all_goals simp_all [Tr.refl]
 |slot s=>exact Tr.refl _ _ _
 |const v=>exact Tr.refl _ _ _
def Tr.newObj {A1:Option Nat}(hi:∀i,A1=J i->i<O st.H)(hn:¬ N (newId st A1))(o:x6):Tr N k st (D4 st A1 o) where
 l6 p h:=by cases A1<;>exact h
 L m id off _ h:=by cases A1<;>exact h
 T s id off h:=by cases A1<;>exact h
 H id l' hN _ h:=by
  grind [eP,absurd]
 V2:=by cases A1<;>rfl
 gA:=by cases A1<;>rfl
 OS m _ h:=by cases A1<;>exact h
def Tr.heap {H' :k8}{l6:List Touch}(h1:∀p:Touch->Bool,st.l6.any p=W->l6.any p=W)(h2:∀id,N id->l6.any (Touch.F1 id)=F->H'[id]? =st.H[id]?):Tr N k st { st with H:=H',l6 } where
 l6:=h1
 L _ _ _ _ h:=h
 T _ _ _ h:=h
 H id l' hN ht h:=by
  simp_all
 V2:=rfl
 gA:=rfl
 OS _ _ h:=h
theorem Tr.X6 {l:G9}{sz len:Nat}{cells:List Data}{op:F6}(h:X6 l st sz op=J (len,cells,st')):Tr N k st st' :=by
 unfold z6.X6 at h;split at h
 .split at h
  .cases h
  .split at h
   .split at h
    .cases h
     exact ⟨λp hp=>M,λ_ _ _ _ h=>h,λs id off h=>su h,λ_ l _ _ h=>⟨l,h,rfl⟩,U,rfl,λ_ _ h=>h⟩
    .cases h
   .cases h
 .split at h
  .split at h
   .cases h
   .split at h
    .split at h
     .split at h
      .cases h
       refine ⟨λp hp=>M,λ_ _ _ _ h=>h,λ_ _ _ h=>h,λid' l' _ _ h=>?_,rfl,rfl,λ_ _ h=>h⟩
       grind [E6,y9,x5]
      .cases h
     .cases h
    .cases h
  .cases h
 .cases h
theorem Tr.P4 {l:G9}{j8:List x9}{sz len:Nat}{cells:List Data}{y:A4}(h:P4 l j8 st sz y=J (len,cells,st')):Tr N k st st' :=by
 unfold z6.P4 at h;split at h
 .simp_all [Tr.refl]
 .cases h
 .cases h
 .split at h
  next hj=>
   split at h
   .cases h
    exact ⟨λ_ h=>h,λm id off _ h=>su h,λ_ _ _ h=>h,λ_ l _ _ h=>⟨l,h,rfl⟩,rfl,U,λ_ _ h=>tR hj h⟩
   .cases h
  all_goals grind [Tr.X6]
theorem MI {v:c7}{id i o:Nat}(h:v.kill id= .ptr i o):v= .ptr i o:=by
 cases v<;>simp [c7.kill] at h<;>first|omega|grind|exact h
def zQ {l:List c7}{id m i o:Nat}(h:(L3 id l)[m]? =J (.ptr i o)):l[m]? =J (.ptr i o):=by
 grind [dS,Option.some.injEq,MI]
theorem Tr.S7 {E:Env}{sz bytes id lo len:Nat}{y:c7}(h:S7 E k sz bytes st id lo len y=J st'):Tr N k st st' :=by
 unfold z6.S7 at h;split at h
 .split at h
  next l0 m cs hl0 _=>
   split at h
   .cases h
    refine Tr.trans ?_ (Tr.put _);refine ⟨λp hp=>M,λm' i o _ h=>zQ h,λs i o h=>zQ h,λid' l' _ ht h=>?_,by simp [O6],by simp [O6],λm' _ h=>by grind [dS,c7.kill,L3]⟩;have hne:id' ≠id:=by grind [Touch.F1]
    have h' :(mQ st.H E.lim.base id (.cells (L3 id l0++cs)))[id']? =J (.cells l'):=h;unfold mQ at h';rw [x5 (λe=>hne e.symm)] at h'
    by_cases hb:id' <E.lim.base
    .grind
    .by_cases hlt:id' <O st.H
     .rw [x7 D,List.getElem?_map,List.getElem?_drop] at h'
      rw [show E.lim.base+(id' - O (List.take E.lim.base st.H))=id' from by simp;omega] at h';cases ho:st.H[id']? with
      |none=>simp_all
      |some o =>
       rw [ho] at h';cases o<;>simp [x6.kill] at h'
       grind [O6]
     grind
   .cases h
  .cases h
 .cases h
theorem Tr.B9 {E:Env}{f:FuncId}{args:List c7}(aO:∀id,N id->id<O st.H)(h:B9 E k f args st=J st'):Tr N k st st' :=by
 unfold z6.B9 at h;split at h
 .split at h
  .split at h
   .cases h
    refine Tr.trans ?_ (Tr.put _);refine Tr.heap (λp hp=>M) λid hN ht=>?_
    grind [Touch.F1]
   .cases h
  .cases h
 .simp only at h
  split at h
  .split at h
   .split at h
    .split at h
     .cases h
      refine Tr.trans ?_ (Tr.put _);refine Tr.heap (λp hp=>M) λid hN ht=>?_
      simp_all [Touch.F1,x7,List.getElem?_drop]
     .cases h
    .cases h
   .grind [Tr.put]
   .split at h
    .split at h
     .cases h
      refine Tr.trans ?_ (Tr.put _);refine Tr.heap (λp hp=>M) λid hN ht=>?_
      simp_all [Touch.F1,x7,List.getElem?_drop]
     .cases h
    .cases h
  .cases h
theorem qT {H H' :k8}{id off:Nat}{vs:List c7}(h:wr H id off vs=J H'){id' :Nat}(hne:id' ≠id):H'[id']? =H[id']? :=by
 grind [wr,x5]
theorem Tr.P0 {E:Env}{n:Nat}{a:c7}{x:A4}(h:P0 E k n st a x=J st'):Tr N k st st' :=by
 unfold z6.P0 at h;split at h
 .split at h
  .split at h
   .split at h
    .cases h
     refine Tr.trans (Tr.trans (Tr.E9 x) ?_) (Tr.put _);refine Tr.heap (λp hp=>M) λid' hN ht=>?_
     grind [qT,Touch.F1]
    .cases h
   .cases h
  .cases h
 .cases h
theorem Tr.U5 {E:Env}{sz:Nat}{zero:List c7}{a:c7}(h:U5 E k sz zero st a=J st'):Tr N k st st' :=by
 unfold z6.U5 at h;split at h
 .split at h
  .split at h
   .cases h
    refine Tr.trans ?_ (Tr.put _);refine Tr.heap (λp hp=>M) λid' hN ht=>?_
    grind [qT,Touch.F1]
   .cases h
  .cases h
 all_goals grind [Tr.put]
theorem Tr.R7 {E:Env}{kk:KK}{m key v:c7}(h:R7 E k kk st m key v=J st'):Tr N k st st' :=by
 unfold z6.R7 at h;split at h
 .split at h
  .split at h
   .split at h
    .split at h
     .cases h
      refine Tr.trans ?_ (Tr.put _);refine Tr.heap (λp hp=>M) λid' hN ht=>?_
      simp_all [x5,Touch.F1]
     .cases h
    .cases h
   .cases h
  .cases h
 .cases h
theorem Tr.J7 {E:Env}{j8:List x9}{A1:Option Nat}{sz bytes:Nat}{ob:Bool}{x:A4}{y:c7}(hi:∀i,A1=J i->i<O st.H)(hn:¬ N (newId st A1))
  (h:J7 E j8 A1 k sz bytes ob st x y=J st'):Tr N k st st' :=by
 unfold z6.J7 at h;split at h
 .split at h
  .split at h
   .split at h
    .grind [Tr.put]
    .cases h;exact (Tr.newObj hi hn _).trans (Tr.put _)
   .cases h
  .split at h
   .split at h
    next ht=>
     split at h
     .cases h;exact (Tr.P4 ht).trans (Tr.put _)
     .cases h
    .cases h
   .cases h
 .cases h
theorem Tr.Q7 {E:Env}{A1:Option Nat}{sz bytes id lo len:Nat}{y:c7}(hi:∀i,A1=J i->i<O st.H)(h:Q7 E A1 k sz bytes st id lo len y=J st')(hN:¬ N (newId st A1)):Tr N k st st' :=by
 unfold z6.Q7 at h;split at h
 .split at h
  .split at h
   .cases h
    have h1:Tr N k st { st with H:=st.H.set id .dead,l6:= .obj id::st.l6 }:=by
     refine ⟨λp hp=>M,λm' i o _ h=>h,λs i o h=>h,λid' l' hn ht h=>?_,rfl,rfl,λm' _ h=>h⟩
     grind
    have e:newId { st with H:=st.H.set id .dead,l6:= .obj id::st.l6 } A1=newId st A1:=by simp_all [newId]
    exact (h1.trans (Tr.newObj (λi h=>M) M _)).trans (Tr.put _)
   .cases h
  .cases h
 .cases h
theorem Tr.C7 {E:Env}{j8:List x9}{A1:Option Nat}{op:F6}(aO:∀id,N id->id<O st.H)(hi:∀i,A1=J i->i<O st.H)(hn:op.y3=W->¬ N (newId st A1))
  (h:C7 E j8 A1 k st op=J st'):Tr N k st st' :=by
 cases op<;>simp only [z6.C7] at h<;>try (cases h;done)
 case alloc zero=>cases h;exact (Tr.newObj hi (hn rfl) _).trans (Tr.put _)
 case box x =>
  split at h
  .cases h;exact (Tr.newObj hi (hn rfl) _).trans (Tr.put _)
  .cases h
 case makeMap=>cases h;exact (Tr.newObj hi (hn rfl) _).trans (Tr.put _)
 case ot x=>cases h;exact Tr.put _
 case own sz x =>
  split at h
  next ht=>
   cases h;exact (Tr.P4 ht).trans (Tr.put _)
  .cases h
 case gW sz zero x y =>
  split at h
  .cases h;exact (Tr.newObj hi (hn rfl) _).trans (Tr.put _)
  .cases h
 case N5 sz len zero parts ob =>
  cases ob
  .cases h
  .simp only at h
   split at h
   .split at h
    .cases h;exact (Tr.newObj hi (hn rfl) _).trans (Tr.put _)
    .cases h
   .cases h
 case store n a x=>exact Tr.P0 h
 case M7 sz bytes x y =>
  obtain ⟨s,hs,rfl⟩:=kT h;have hN:¬ N (newId st K):=λh=>Nat.lt_irrefl _ (aO _ h)
  refine Tr.trans (st1:=s) ?_ (Tr.heap (H' :=s.H) (λp hp=>by simp only [List.any_cons,hp,Bool.or_true]) λ_ _ _=>rfl);split at hs
  .split at hs
   .exact Tr.Q7 (λ_ e=>by cases e) hs hN
   .cases hs
  .exact Tr.J7 (λ_ e=>by cases e) hN hs
 case append sz bytes ob x y =>
  split at h
  .split at h
   .exact Tr.S7 h
   .cases h
  .cases ob with
   |true=>exact Tr.J7 hi (hn rfl) h
   |false =>
    unfold z6.J7 at h;simp only [j6,if_false] at h;split at h
    .split at h
     .split at h
      next ht=>
       split at h
       .cases h;exact (Tr.P4 ht).trans (Tr.put _)
       .cases h
      .cases h
     .cases h
    .cases h
 case clear sz zero x=>exact Tr.U5 h
 case call f xs=>exact Tr.B9 aO h
 case bV x xs =>
  split at h
  .exact Tr.B9 aO h
  .cases h
 case dU=>exact Tr.R7 h
 case defer x =>
  split at h
  .split at h
   .cases h;exact Tr.put _
   .cases h
  .cases h
theorem Tr.B4 {E:Env}{j8:List x9}{A1:Option Nat}{op:F6}{rs:List Nat}(aO:∀id,N id->id<O st.H)(hi:∀i,A1=J i->i<O st.H)(hn:op.y3=W->¬ N (newId st A1))
  (h:B4 E j8 A1 k op st=J (st',rs)):Tr N k st st' :=by
 unfold z6.B4 at h;split at h
 .grind [Tr.C7]
 .split at h
  .cases h
   exact (Tr.E9 _).trans (Tr.put _)
  grind [Tr.put]
end
end Go.z6
namespace Go.z6
variable [D6]
section
variable {P:Program} {X:Cx} {l:G9} {S:Nat->Prop} {st:G5} {a:Act} {w w' :World} {G G' :Gh} {I I' :P3} {N:Nat->Prop} {d9:Nat->Bool}
def Ext.Ze {b id id' :Nat}(h:G b= .obj id):Ext G w (dF G b (.obj id')) w where
 os:=rfl
 tape:=rfl
 output:=rfl
 drawn _:=k9 _
 size:=k9 _
 iA x o hi:=by
  grind [fE,H6]
 still x hx:=by
  grind [H6]
 shape _ c _ _ hc:=⟨c,hc,rfl⟩
def an.renew (h:RI X l S st a w G I N){k:Nat}(hk:¬ S k)(X0:k<O st.L)(entry:Nat){A1:Option Nat}{id:Nat}{o0:x6}(h0:st.H[id]? =J o0)(hid:ud l st N A1)(hmay:l.may id=W)
  (hx:Ext G w G' w') (hkp:∀q,Y8 q G w G' w') (ho:∀id',id' ≠id->∀b,G b= .obj id' ->G' b= .obj id' /\w'.heap[b]? =w.heap[b]?) (hwf:WF G' w') (hI:∀i,N i->I' i=I i)
  {cs:List c7} (Jt:OR G' I' (λi=>N i\/i=newId st A1) w' (newId st A1) (.cells cs)) {v:c7} {x:Value} (hv:VR G' I' (λi=>N i\/i=newId st A1) w' (.loc k) v x) (l6:List Touch) (FY:l6.any (Touch.F1 id)=W) :
  an X l S entry st a w G I N (put (D4 { st with H:=st.H.set id .dead,l6 } A1 (.cells cs)) k v) k x w' G' I' (λi=>N i\/i=newId st A1):=by
 have ZJ:newId { st with H:=st.H.set id .dead,l6 } A1=newId st A1:=by simp_all [newId]
 have hTT:(D4 { st with H:=st.H.set id .dead,l6 } A1 (.cells cs)).T=st.T:=by cases A1<;>rfl
 have hLL:(D4 { st with H:=st.H.set id .dead,l6 } A1 (.cells cs)).L=st.L:=by cases A1<;>rfl
 have hCC:(D4 { st with H:=st.H.set id .dead,l6 } A1 (.cells cs)).l6=l6:=by cases A1<;>rfl
 have hlen:O st.H<=O (D4 { st with H:=st.H.set id .dead,l6 } A1 (.cells cs)).H:=by cases A1<;>simp [D4]
 have um:∀(id' :Nat) o',(D4 { st with H:=st.H.set id .dead,l6 } A1 (.cells cs)).H[id']? =J o' ->(id' =newId st A1/\o' = .cells cs)\/(id' =id/\o' = .dead)\/(id' ≠id/\st.H[id']? =J o'):=by
  intro id' o' h'
  rcases eP (st:={ st with H:=st.H.set id .dead,l6 }) (A1:=A1) (λi hi=>by simpa using hid.inside i hi) _ id' o' h' with ⟨h1,h2⟩|⟨_,h2⟩
  all_goals grind
 have vr:∀{pl:Place} {b:c7} {u:Value},VR G I N w pl b u->VR G' I' (λi=>N i\/i=newId st A1) w' pl b u :=
  λhb=>VR.mono hx.sub hI (λ_ h=>Or.inl h) _ _ _ (Or.inr (hkp _)) hb
 refine ⟨⟨λs t ht=>by simp only [z6.put,hTT];exact vr (h.T s t ht),?_,?_,hwf,?_⟩,?_,hx,?_,?_,λi _ hN=>hI i hN,λ_ h=>Or.inl h,?_,?_⟩
 .intro j hj d hd hn
  have:k≠j:=by grind
  simp only [z6.put,hLL];rw [L7 _ _ _ _ _ this];exact vr (h.L j hj d hd hn)
 .intro id' o' ho'
  rcases um id' o' ho' with ⟨rfl,rfl⟩|⟨rfl,rfl⟩|⟨hne,hold⟩
  .exact Jt
  .simp [OR]
  .exact OR.mono hx.sub hI (λ_ h=>Or.inl h) id' o' (λhb=>ho id' hne _ hb) (λ_=>hkp _) (h.H id' o' hold)
 .intro id' o' ho'
  rcases um id' o' ho' with ⟨rfl,rfl⟩|⟨rfl,rfl⟩|⟨hne,hold⟩
  .have h1:=hid.strict
   have h2:=hid.base;omega
  .simp [x6.H7]
  .exact h.R8 id' o' hold
 .simp_all [z6.put,L0]
 .intro id' Dk
  grind
 .grind [z6.put]
 .simp_all [z6.put]
 .intro id' o' hb ho'
  rcases um id' o' ho' with ⟨rfl,rfl⟩|⟨rfl,rfl⟩|⟨hne,hold⟩
  .have h2:=hid.base
   omega
  all_goals simp_all [x6.H7,k9]
def yC (h:RI X l S st a w G I N)(hD:∀j,d9 j=W->S j){k:Nat}(hk:¬ S k)(X0:k<O st.L)(entry:Nat){A1:Option Nat}(hid:ud l st N A1){o:Oper}{sz bytes:Nat}{ob:Bool}{x y:A4}
  (hc:bW P (X.ck d9) o (.append sz bytes ob x y)=W) {E:Env} (hE:E.lim=l) {id lo len:Nat} (hx:F7 st.T st.L x= .s5 id sz lo len) {st' :G5} (he:Q7 E A1 k sz bytes st id lo len (F7 st.T st.L y)=J st') :
  ∃v w' G' I',(execOp a.eval o).run P w= .ok (.value v) w' /\an X l S entry st a w G I N st' k v w' G' I' (λi=>N i\/i=newId st A1):=by
 obtain ⟨x0,y0,t,t2,e,i,z,hop,Tx,Ty,ht2,hsz,hu,hi,hsi,Mg,hz,hzs,Tv⟩:=bE hc;have hnew:¬ N (newId st A1):=hid.new;unfold Q7 at he;rw [hE] at he;split at he
 next hmay=>
  split at he
  next l0 m cs hl0 hcs=>
   split at he
   next Df=>
    obtain ⟨rfl,hlen,hroom,Wy,hone,_⟩:=Df;cases he;obtain ⟨vn,hl,hf,HV,hcl⟩:=nc (P:=P) h.H (h.N6 hD _ _ Ty) hsz hcs;have hval:=h.N6 hD _ _ Tx;rw [hx] at hval;simp only [VR] at hval;obtain ⟨Me,cap,hx0,hcap,c,e',f,hb,RK⟩:=hval;have qn:(execOp a.eval o).run P w=((Builtin.append_ #[t,t2] o.type #[a.eval x0,a.eval y0]).run P w).andThen λv w' => .ok (.value v) w' :=by
     simp_all [guard,execOp,resolve,invoke,builtin]
    have tu:O vn=m * sz:=by grind [I6.length]
    subst hsi Mg;have hO:=h.H id _ hl0;simp only [OR] at hO;obtain ⟨_,c0,e0,f0,h1,Dj,hnf,ar6,h5⟩:=hO;rw [hb] at h1;cases h1;have Dm:=tG hone HV;have aI1:id≠newId st A1:=by grind
    by_cases hfit:len+m<=cap
    ·
     have hrun:=bA (P:=P) (w:=w) (ty:=o.type) hu hi ht2 (base:=J (ad (I id).1 ((I id).2+0))) (sLen:=len) (sCap:=cap) hl (hf w rfl) hfit;have hbig:(len+m) * i.size<=cap * i.size:=F8 _ hfit;rw [Nat.add_mul] at hbig;have TN:(I id).2+len * i.size+O vn<=c.size:=V
     have hst:=run_storeCells_at (P:=P) (I id).1 ((I id).2+0+len * i.size) e' f vn 0 c w hb hnf V Dm;have tf :(I id).2+0+len * i.size+O vn<=O c.toList:=D
     have kK :(J6 c.toList ((I id).2+0+len * i.size) vn).toArray.size=c.size:=by simp_all [List.size_toArray,ig,Array.length_toList]
     have hw:=sE (G:=G) hb Dj kK;have hxx:=hw.ext.trans (Ext.Ze (w:=w.setRow (I id).1 (J6 c.toList ((I id).2+0+len * i.size) vn).toArray) (id' :=newId st A1) hw.iJ);have hkk:∀q,Y8 q G w (dF G (I id).1 (.obj (newId st A1))) (w.setRow (I id).1 (J6 c.toList ((I id).2+0+len * i.size) vn).toArray):=by
      intro q b n hbq;have hne:b≠(I id).1:=by grind
      exact ⟨by simp_all [H6],hw.other b hne⟩
     have Vk:∀i',N i' ->mE I (newId st A1) ((I id).1,(I id).2) i' =I i' :=λi' hN=>aK (by grind)
     refine ⟨.slice (J (ad (I id).1 ((I id).2+0))) (len+m) cap,w.setRow (I id).1 (J6 c.toList ((I id).2+0+len * i.size) vn).toArray,dF G (I id).1 (.obj (newId st A1)),mE I (newId st A1) ((I id).1,(I id).2),?_,
      an.renew h hk X0 entry hl0 hid hmay hxx hkk (λid' hne b hbq=>?_) (λb hbq=>?_) Vk ?_ ?_ (.obj id::st.l6) (by simp [Touch.F1])⟩
     .simp_all [X9,Nat.add_zero]
     .have hnb:b≠(I id).1:=by grind
      exact ⟨by simp_all [H6],hw.other b hnb⟩
     .have hwb:w.heap.size<=b:=M
      have hne:b≠(I id).1:=by
       grind
      rw [H6 hne];exact h.wf b hwb
     .simp only [OR,T0]
      have mono:∀{pl:Place} {b:c7} {u:Value},VR G I N w pl b u->VR (dF G (I id).1 (.obj (newId st A1))) (mE I (newId st A1) ((I id).1,(I id).2)) (λi=>N i\/i=newId st A1) (w.setRow (I id).1 (J6 c.toList ((I id).2+0+len * i.size) vn).toArray) pl b u :=
       λhq=>VR.mono hxx.sub Vk (λ_ h=>Or.inl h) _ _ _ (Or.inr (hkk _)) hq
      refine ⟨Or.inr trivial,_,e',f,setRow_heap w _ c _ e' f hb,U,M,?_,λj b hj=>?_⟩
      .grind
      .rw [show (J6 c.toList ((I id).2+0+len * i.size) vn).toArray[(I id).2+j]? =(J6 c.toList ((I id).2+0+len * i.size) vn)[(I id).2+j]? from by simp,ic _ _ _ tf]
       have hjl:=y9 hj;rw [j9,A3,hcl] at hjl
       by_cases HP:j<O l0
       .rw [y7 M,List.getElem?_map,o3 HP] at hj
        rw [if_pos V];simp only [B8,Option.some.injEq] at hj;subst hj;obtain ⟨v,g1,g2⟩:=h5 j _ (o3 HP);exact ⟨v,M,mono g2.I7⟩
       .rw [x7 M,A3] at hj
        rw [if_neg V,if_pos V];obtain ⟨u,r1,r2⟩:=I6.get _ _ HV (j - O l0) b hj;exact ⟨u,by grind,mono r2.place⟩
     .simp only [VR,T0]
      exact ⟨Or.inr trivial,cap,rfl,hfit,_,e',f,setRow_heap w _ c _ e' f hb,V⟩
    ·
     have hlt:cap<len+m:=V
     have Mk:∃vo:List Value,O vo=len * i.size/\(∀w2:World,w2.heap=w.heap->(Builtin.firstCells i.size len (.slice (J (ad (I id).1 ((I id).2+0))) len cap)).run P w2= .ok vo.toArray w2) /\
       (∀(j:Nat) b,l0[j]? =J b->∃v,vo[j]? =J v/\VR G I N w (.cell id j) b v):=by
      refine ⟨(List.range (len * i.size)).map (λj=>(c[(I id).2+j]?).getD default),U,λw2 Jz=>?_,λj b hj=>?_⟩
      .have:=run_loadCells_list (P:=P) w2 (ad (I id).1 ((I id).2+0)) ((List.range (len * i.size)).map (λj=>(c[(I id).2+j]?).getD default)) (λj v hj=>by
        have hjn:j<len * i.size:=by
         grind
        simp [hjn] at hj
        grind [X9,fQ,Q3])
       simp_all [Builtin.firstCells]
      grind
     obtain ⟨vo,TS,TT,TU⟩:=Mk;obtain ⟨bg,wo,hrun⟩:=dg (P:=P) (w:=w) (ty:=o.type) hu hi hz ht2 (base:=J (ad (I id).1 ((I id).2+0))) (sLen:=len) (sCap:=cap) hl (hf w.drew rfl) (TT w.drew rfl) hlt (uS hroom Tv) (mV hroom hlt);have hnb:fZ w (w.drew.alloc (.cells (vo.toArray++vn.toArray++Builtin.zeroCells z.cells (bg - (len+m))) e)) (.cells (vo.toArray++vn.toArray++Builtin.zeroCells z.cells (bg - (len+m))) e):=by
      have:=fZ.alloc w.drew (.cells (vo.toArray++vn.toArray++Builtin.zeroCells z.cells (bg - (len+m))) e);exact ⟨this.os,this.tape,this.output,o5 (Nat.le_succ _) this.drawn,this.size,this.old,this.new⟩
     have hsize:(vo.toArray++vn.toArray++Builtin.zeroCells z.cells (bg - (len+m))).size=bg * i.size:=by
      simp only [Array.size_append,List.size_toArray,qU,hzs,TS,tu];have:bg * i.size=(len+m) * i.size+(bg - (len+m)) * i.size:=by rw [<- Nat.add_mul];simp_all
      grind
     have Vk:∀i',N i' ->mE I (newId st A1) (w.heap.size,0) i' =I i' :=λi' hN=>aK (by grind)
     refine ⟨.slice (J (ad w.heap.size 0)) (len+m) bg,_,dF G w.heap.size (.obj (newId st A1)),mE I (newId st A1) (w.heap.size,0),?_,
      an.renew h hk X0 entry hl0 hid hmay (hnb.ext h.wf _) (hnb.keeps h.wf _) (λid' _=>hnb.uv h.wf _ id') (hnb.wf h.wf _) Vk ?_ ?_ (.obj id::st.l6) (by simp [Touch.F1])⟩
     .simp_all
     .simp only [OR]
      have mono:∀{pl:Place} {b:c7} {u:Value},VR G I N w pl b u->VR (dF G w.heap.size (.obj (newId st A1))) (mE I (newId st A1) (w.heap.size,0)) (λi=>N i\/i=newId st A1) _ pl b u :=
       λhq=>VR.mono (hnb.ext h.wf _).sub Vk (λ_ h=>Or.inl h) _ _ _ (Or.inr (hnb.keeps h.wf _ _)) hq
      refine ⟨Or.inr trivial,_,e,(0,0),by rw [T0];exact hnb.new,U,jx _,?_,λj b hj=>?_⟩
      .grind [T0,j9,A3,F8,Nat.add_mul]
      .have hjl:=y9 hj
       rw [j9,A3,hcl] at hjl;simp only [T0,Nat.zero_add];rw [show (vo.toArray++vn.toArray++Builtin.zeroCells z.cells (bg - (len+m)))[j]? =(vo++vn++(Builtin.zeroCells z.cells (bg - (len+m))).toList)[j]? from by grind,
        y7 M]
       by_cases HP:j<O l0
       .rw [y7 M,List.getElem?_map,o3 HP] at hj
        rw [y7 V];simp only [B8,Option.some.injEq] at hj;subst hj;obtain ⟨v,g1,g2⟩:=TU j _ (o3 HP);exact ⟨v,g1,mono g2.I7⟩
       .rw [x7 M,A3] at hj
        rw [x7 V];obtain ⟨u,r1,r2⟩:=I6.get _ _ HV (j - O l0) b hj;exact ⟨u,M,(mono r2).place⟩
     .simp only [VR]
      refine ⟨Or.inr trivial,bg,U,wo,_,e,(0,0),by rw [T0];exact hnb.new,?_⟩;simp_all
   .cases he
  .cases he
 .cases he
end
end Go.z6
namespace Go.z6
variable [D6]
structure qV (A1:Option Nat)(X:Cx)(l:G9)(S:Nat->Prop)(entry:Nat)(st:G5)(a:Act)(w:World)(G:Gh)(I:P3)(N:Nat->Prop)
  (st' :G5) (k:Nat) (x' :Value) (w' :World) (G' :Gh) (I' :P3) (N' :Nat->Prop):Prop where
 mid:an X l S entry st a w G I N st' k x' w' G' I' N'
 Z8:∀id,N' id->id<O st'.H
 old:∀id,id<O st.H->N' id->N id\/A1=J id
def aC (P:Program)(o:Oper)(a:Act)(w:World)(R:Act->World->Prop):Prop :=
 ∀(a8:Act->World->Prop) (Q:Exit->Act->World->Prop),(∀a' w',R a' w' ->a8 a' w')->o.wp P a w a8 Q
section
variable {P:Program} {o:Oper} {a:Act} {w w' :World} {R:Act->World->Prop}
theorem aC.value {x:Value}(h:(execOp a.eval o).run P w= .ok (.value x) w')(hR:R (a.put o.dst x) w'):aC P o a w R:=by
 intro a8 Q hK;simp_all [Oper.wp,Oper.upon]
theorem aC.skip (h:(execOp a.eval o).run P w= .ok .skip w')(hR:R (a.put o.dst undef) w'):aC P o a w R:=by
 intro a8 Q hK;simp_all [Oper.wp,Oper.upon]
theorem aC.defer {d:Deferred}(h:(execOp a.eval o).run P w= .ok (.defer d) w')(hR:R ({ a with defers:=d::a.defers }.put o.dst undef) w'):aC P o a w R:=by
 intro a8 Q hK;simp_all [Oper.wp,Oper.upon]
theorem aC.enter {f:FuncId}{args:Array Value}(h:(execOp a.eval o).run P w= .ok (.enter f args) w)(hR:Calls P f args w λe w' =>∃x,e= .returned x/\R (a.put o.dst x) w'):aC P o a w R:=by
 intro a8 Q hK
 grind [Oper.wp,Oper.upon,Calls.mono]
end
def uE (P:Program)(ck:Operand->A4->Bool)(o:Oper)(op:F6):Bool :=
 match o.op,op with
 | .call ⟨.value (.func f),args,_⟩,.call g ys=>f==g&&Ll ck args.toList ys&&R3 P f
 | .call ⟨.value x,args,_⟩,.bV y ys=>ck x y&&Ll ck args.toList ys
 |_,_=>F
def CE (ck:Operand->A4->Bool)(o:Oper)(op:F6):Bool :=
 match o.op,op with
 | .defer ⟨.value x,args,_⟩,.defer y=>ck x y&&args.isEmpty
 |_,_=>F
def rB (ck:Operand->A4->Bool)(o:Oper)(y:A4):Bool :=
 match o.op with
 | .move x=>ck x y
 | .assign x=>ck x y
 |_=>F
def V6 (P:Program)(ck:Operand->A4->Bool)(o:Oper)(op:F6):Bool :=
 match op with
 | .dV y=>rB ck o y
 | .alloc _=>aG P ck o op
 | .box _=>aG P ck o op
 | .makeMap=>aG P ck o op
 | .ot x=>rB ck o (.const (.d x))
 | .own _ x=>rB ck o x
 | .gW .. =>aG P ck o op
 | .N5 .. =>aG P ck o op
 | .store .. =>vE P ck o op
 | .append _ _ _ _ _=>bW P ck o op
 | .M7 sz bytes x y=>bW P ck o (.append sz bytes W x y)
 | .dU .. =>FA P ck o op
 | .call .. =>uE P ck o op
 | .bV .. =>uE P ck o op
 | .defer _=>CE ck o op
 | .clear .. =>vC P ck o op
 | .bad=>W
 |op=>E1 P ck o op
section
variable {P:Program} {X:Cx} {l:G9} {S:Nat->Prop} {st st' :G5} {a:Act} {w w' :World} {G G' :Gh} {I I' :P3} {N N' :Nat->Prop} {d9:Nat->Bool} {j8:List x9}
def qV.ia {A1:Option Nat}{entry k:Nat}{x:Value}(aO:∀id,N id->id<O st.H)(h:an X l S entry st a w G I N st' k x w' G' I' N):qV A1 X l S entry st a w G I N st' k x w' G' I' N :=
 ⟨h,λid hid=>Nat.lt_of_lt_of_le (aO id hid) h.len,λ_ _ h=>Or.inl h⟩
def qV.JI {entry k:Nat}{x:Value}{A1:Option Nat}(aO:∀id,N id->id<O st.H){o:x6}{v:c7}(hi:∀i,A1=J i->i<O st.H)
  (h:an X l S entry st a w G I N (put (D4 st A1 o) k v) k x w' G' I' N') (hN:∀i,N' i↔N i\/i=newId st A1) :
  qV A1 X l S entry st a w G I N (put (D4 st A1 o) k v) k x w' G' I' N' :=by
 refine ⟨h,λid hid=>?_,λid hlt hid=>?_⟩
 all_goals (simp_all [put,D4,newId]<;>grind)
def og {l1 l2:List c7}{v1 v2:List Value}:∀(_:I6 G I N w l1 v1) (_:I6 G I N w l2 v2),I6 G I N w (l1++l2) (v1++v2):=by
 induction l1 generalizing v1 with
 |nil=>simp_all [I6]
 |cons b bs ih =>
  grind [I6]
structure eB (X:Cx)(st:G5)(a:Act)(w:World)(I:P3)(op:F6)(x:Value):Prop where
 dV:∀s t,op= .dV (.slot s)->X.names[s]? =J t->x=a.tmps.getD t undef
 load:∀y id off,op= .load K y->Z9 st y=J (id,off)->w.cell? (ad (I id).1 ((I id).2+off))=J x
def eB.other {X:Cx}{st:G5}{a:Act}{w:World}{I:P3}{op:F6}{x:Value}(h1:∀y,op≠ .dV y)(h2:∀n y,op≠ .load n y):eB X st a w I op x :=
 ⟨λ_ _ h=>absurd h (h1 _),λ_ _ _ h=>absurd h (h2 _ _)⟩
def QS {st:G5}{y:A4}{id off:Nat}(h:Z9 st y=J (id,off)):F7 st.T st.L y= .ptr id off:=by
 unfold Z9 at h
 grind [F7,List.getD,c7.I7]
def JG {ck:Operand->A4->Bool}{η:Operand->Value}{ρ:A4->c7}{H:k8}(hρ:aF ck G I N w η ρ)(hH:HR G I N w H){o:Oper}{y:A4}(hc:E1 P ck o (.load K y)=W){v:c7}{rs:List Nat}
  (h:l5 ρ H (.load K y)=J (v,rs)) {id off:Nat} (hp:ρ y= .ptr id off) {x:Value} (hx:(execOp η o).run P w= .ok (.value x) w):w.cell? (ad (I id).1 ((I id).2+off))=J x:=by
 obtain ⟨dst,bt,ty,pos,after,guard⟩:=o;cases bt<;>simp [E1] at hc;rename_i t x';have h1:=hρ _ _ hc.1;have ha:aS P t=J F:=by simp_all [oK]
 simp [l5,hp] at h;rw [hp] at h1;simp [VR] at h1;split at h
 next u hu=>
  obtain ⟨_,xs,g1,_,g3,g4⟩:=hH.rd hu V;obtain ⟨z,rfl⟩:∃z,xs=[z]:=by
   match xs,g1 with
   |[z],_=>simp_all
  have hz:=g3 0 z rfl;simp_all [execOp,Instr.loadAt,Instr.sureAddr,loadVar,aj]
 .cases h
def uU (P:Program)(idle:FuncId->Bool)(A1:Option Nat)(X:Cx)(l:G9)(S:Nat->Prop)(entry:Nat)(st:G5)(a:Act)(w:World)(G:Gh)(I:P3)(N:Nat->Prop)(st' :G5)(k:Nat)(o:Oper)(op:F6)(a' :Act)(w' :World):Prop :=
 ∃x ds G' I' N',eB X st a w I op x/\a' =({ a with defers:=ds }:Act).put o.dst x/\(ds=a.defers\/∃d,ds=d::a.defers/\Ch P idle d)/\qV A1 X l S entry st a w G I N st' k x w' G' I' N'
def EF {E:Env}(HM:kO P E.cf E.prom)(dG:∀f args H lm r,E.cf f args H lm=J r->R3 P f=W)(hE:E.lim=l)(h:RI X l S st a w G I N)(hpv:PV X j8 S st a w I)(hT:O st.T=O X.names)
  (aO:∀id,N id->id<O st.H) (hb:l.base<=O st.H) (hs:l.strict<=l.base) (hD:∀j,d9 j=W->S j) {k:Nat} (hk:¬ S k) (X0:k<O st.L) {o:Oper} {op:F6} (hc:V6 P (X.ck d9) o op=W)
  {A1:Option Nat} (hid:op.y3=W->ud l st N A1) {rs:List Nat} (he:B4 E j8 A1 k op st=J (st',rs)) :
  aC P o a w (uU P E.idle A1 X l S E.entry st a w G I N st' k o op):=by
 have hρ:=h.N6 hD;have fin:∀{x:Value} {w' :World} {G' :Gh} {I' :P3} {N' :Nat->Prop},eB X st a w I op x->qV A1 X l S E.entry st a w G I N st' k x w' G' I' N' ->uU P E.idle A1 X l S E.entry st a w G I N st' k o op (a.put o.dst x) w' :=
  λ{x w' G' I' N'} hF hS=>⟨x,a.defers,G',I',N',hF,rfl,Or.inl rfl,hS⟩
 have Ny:∀{v:c7} {rs:List Nat},(∀y,op≠ .dV y)->E1 P (X.ck d9) o op=W->l5 (F7 st.T st.L) st.H op=J (v,rs)->st' =put st k v->aC P o a w (uU P E.idle A1 X l S E.entry st a w G I N st' k o op):=by
  intro v rs hm h1 h2 h3;subst h3;obtain ⟨x,g1,g2⟩:=Gw (P:=P) (λv=>by rfl) hρ h.H h1 h2;refine aC.value g1 (fin ⟨λs t e=>absurd e (hm _),λy id off e hp=>?_⟩ (qV.ia aO (an.same h hk X0 E.entry g2.place)));subst e;exact JG hρ h.H h1 h2 (QS hp) g1
 have Cw:(∀y,op≠ .dV y)->(∀n y,op≠ .load n y)->∀(f:FuncId) (args:List c7) (J2:Array Value),I6 G I N w args J2.toList->B9 E k f args st=J st' ->(execOp a.eval o).run P w=(callFunc f J2).run P w->aC P o a w (uU P E.idle A1 X l S E.entry st a w G I N st' k o op):=by
  intro hm hl f args J2 h1 h2 h3;have hcan:R3 P f=W:=by
   unfold B9 at h2;split at h2
   .split at h2
    next Df=>
     exact dG f _ _ _ _ Df
    .cases h2
   .simp only at h2
    split at h2
    .split at h2
     .split at h2
      next Df=>
       exact dG f _ _ _ _ Df
      .cases h2
     .split at h2
      next Df=>
       exact dG f _ _ _ _ Df
      .cases h2
     .split at h2
      next Df=>
       exact dG f _ _ _ _ Df
      .cases h2
    .cases h2
  refine aC.enter (f:=f) (args:=J2) (by rw [h3];exact qH hcan J2) ?_;refine Calls.mono (Jc HM hE h aO hb hs hk X0 E.entry h1 h2) ?_;rintro e w' ⟨x,G',I',N',rfl,hC⟩;exact ⟨x,rfl,fin (eB.other hm hl) ⟨hC.mid,hC.Z8,λid hlt hid=>Or.inl (hC.old id hlt hid)⟩⟩
 unfold B4 at he;cases op
 case dV y =>
  simp only [F6.B3,j6,if_false] at he;cases he;simp only [V6] at hc;have key:∀x,X.ck d9 x y=W->(execOp a.eval o).run P w= .ok (.value (a.eval x)) w->aC P o a w (uU P E.idle A1 X l S E.entry st a w G I N (put (E9 st y).2 k (E9 st y).1) k o (.dV y)):=by
   intro x hx hrun;obtain ⟨G1,hX⟩:=h.E9 hD hx (pl:= .loc k) U;have hM:=an.same hX.ri hk (by rw [xW];exact X0) E.entry hX.val;exact aC.value hrun (fin ⟨λs t e hn=>by cases e;simp only [Cx.ck] at hx;split at hx<;>simp_all [Act.eval],λ_ _ _ e=>by cases e⟩ (qV.ia aO (an.pre hX.ext hX.keeps hX.obj (sF st y) hM)))
  obtain ⟨dst,bt,ty,pos,after,guard⟩:=o;cases bt<;>simp only [rB] at hc<;>try (cases hc;done)
  .exact key _ hc (by simp [execOp])
  .exact key _ hc (by simp [execOp])
 case alloc zero =>
  simp only [F6.B3,if_true,C7] at he;cases he;have h1:=hid rfl;obtain ⟨x,w',G',I',N',g1,g2,g3⟩:=JJ h hk X0 E.entry h1 (by simpa [V6] using hc);exact aC.value g1 (fin (eB.other U U) (qV.JI aO h1.inside g2 g3))
 case box y =>
  simp only [F6.B3,if_true,C7] at he;split at he
  next hcs=>
   split at hcs
   next cs kK=>
    cases hcs;cases he;have h1:=hid rfl;obtain ⟨x,w',G',I',N',g1,g2,g3⟩:=Qm h hρ hk X0 E.entry h1 (by simpa [V6] using hc) kK;exact aC.value g1 (fin (eB.other U U) (qV.JI aO h1.inside g2 g3))
   .cases hcs
  .cases he
 case ot d =>
  simp only [F6.B3,if_true,C7] at he;cases he;simp only [V6] at hc;have key:∀x,X.ck d9 x (.const (.d d))=W->(execOp a.eval o).run P w= .ok (.value (a.eval x)) w->aC P o a w (uU P E.idle A1 X l S E.entry st a w G I N (put st k (.d d)) k o (.ot d)):=by
   intro x hx hrun;have g2:VR G I N w .none (.d d) (a.eval x):=hρ x _ hx;exact aC.value hrun (fin (eB.other U U) (qV.ia aO (an.same h hk X0 E.entry g2.place)))
  obtain ⟨dst,bt,ty,pos,after,guard⟩:=o;cases bt<;>simp only [rB] at hc<;>try (cases hc;done)
  .exact key _ hc (by simp [execOp])
  .exact key _ hc (by simp [execOp])
 case own sz y =>
  simp only [F6.B3,if_true,C7] at he;split at he
  next hcs=>
   split at hcs
   next len cells st1 ht=>
    cases hcs;cases he;simp only [V6] at hc;have key:∀x,X.ck d9 x y=W->(execOp a.eval o).run P w= .ok (.value (a.eval x)) w ->
      aC P o a w (uU P E.idle A1 X l S E.entry st a w G I N (put st1 k (.own sz len cells)) k o (.own sz y)):=by
     intro x hx hrun;obtain ⟨G1,Dd⟩:=nW h hpv hT hD hk hx (hE ▸ ht);exact aC.value hrun (fin (eB.other U U) (qV.ia aO (an.Qt Dd (an.same Dd.ri hk (by rw [Dd.L];exact X0) E.entry Dd.val))))
    obtain ⟨dst,bt,ty,pos,after,guard⟩:=o;cases bt<;>simp only [rB] at hc<;>try (cases hc;done)
    .exact key _ hc (by simp [execOp])
    .exact key _ hc (by simp [execOp])
   .cases hcs
  .cases he
 case makeMap =>
  simp only [F6.B3,if_true,C7] at he;cases he;have h1:=hid rfl;obtain ⟨x,w',G',I',N',g1,g2,g3⟩:=Qn (P:=P) h hk X0 E.entry h1 (by simpa [V6] using hc);exact aC.value g1 (fin (eB.other U U) (qV.JI aO h1.inside g2 g3))
 case gW sz zero x y =>
  simp only [F6.B3,if_true,C7] at he;split at he
  next hcs=>
   split at hcs
   next n hn=>
    cases hcs;cases he;have h1:=hid rfl;obtain ⟨x,w',G',I',N',g1,g2,g3⟩:=JK h hρ hk X0 E.entry h1 (by simpa [V6] using hc) hn;exact aC.value g1 (fin (eB.other U U) (qV.JI aO h1.inside g2 g3))
   .cases hcs
  .cases he
 case N5 sz len zero parts ob =>
  cases ob with
  |false =>
   simp only [F6.B3,j6,if_false] at he;split at he
   next v rs' hp=>
    cases he;obtain ⟨x,w',G',g1,g2⟩:=JL h hρ hk X0 E.entry (by simpa [V6] using hc) hp;exact aC.value g1 (fin (eB.other U U) (qV.ia aO g2))
   .cases he
  |true =>
   simp only [F6.B3,if_true,C7] at he;split at he
   next hcs=>
    split at hcs
    next cs kK=>
     split at hcs
     next hl=>
      cases hcs;cases he;have h1:=hid rfl;obtain ⟨x,w',G',I',N',g1,g2,g3⟩:=Bt h hρ hk X0 E.entry h1 (by simpa [V6] using hc) kK hl.2;exact aC.value g1 (fin (eB.other U U) (qV.JI aO h1.inside g2 g3))
     .cases hcs
    .cases hcs
   .cases he
 case store n x y =>
  simp only [F6.B3,if_true,C7] at he;split at he
  next hst=>
   cases he;obtain ⟨w',G',g1,g2⟩:=Je h hD hk X0 E.entry (by simpa [V6] using hc) hE hst;exact aC.skip g1 (fin (eB.other U U) (qV.ia aO g2))
  .cases he
 case M7 sz bytes x y =>
  simp only [V6] at hc;have h1:ud l st N K:=⟨λh=>Nat.lt_irrefl _ (aO _ h),λ_ e=>(by cases e),hb,o5 hs hb⟩;simp only [F6.B3,if_true] at he;split at he
  next hst=>
   cases he;simp only [C7] at hst;obtain ⟨s,hs2,rfl⟩:=kT hst;split at hs2
   next id z lo len hx=>
    split at hs2
    next hz=>
     subst hz;obtain ⟨v,w',G',I',g1,g2⟩:=yC h hD hk X0 E.entry h1 hc hE hx hs2;have hlen:O st.H<O s.H:=by
      unfold Q7 at hs2;split at hs2
      .split at hs2
       .split at hs2
        .cases hs2
         simp [put,D4]
        .cases hs2
       .cases hs2
      .cases hs2
     refine aC.value g1 (fin (eB.other U U) ⟨g2.l6 _,λid hid=>?_,λid hlt hid=>?_⟩)
     .rcases hid with hid|rfl
      .exact Nat.lt_of_lt_of_le (aO id hid) g2.len
      .exact hlen
     .rcases hid with hid|rfl
      .exact Or.inl hid
      .exact absurd hlt (Nat.lt_irrefl _)
    .cases hs2
   .rcases nI h hpv hT hD hk X0 E.entry h1 hc hE hs2 with ⟨v,w',G',g1,g2⟩|⟨v,w',G',I',N',ob,av,g1,rfl,g2,g3⟩
    .exact aC.value g1 (fin (eB.other U U) (qV.ia aO (g2.l6 _)))
    .refine aC.value g1 (fin (eB.other U U) ⟨g2.l6 _,λid hid=>?_,λid hlt hid=>?_⟩)
     .rcases (g3 id).1 hid with hid|rfl
      .exact Nat.lt_of_lt_of_le (aO id hid) g2.len
      .simp [put,D4,newId]
     .rcases (g3 id).1 hid with hid|rfl
      .exact Or.inl hid
      .exact absurd hlt (Nat.lt_irrefl _)
  .cases he
 case append sz bytes ob x y =>
  simp only [V6] at hc;simp only [F6.B3,if_true,C7] at he;split at he
  next hst=>
   cases he;split at hst
   next id z lo len hx=>
    split at hst
    next hz=>
     subst hz;obtain ⟨v,w',G',I',g1,g2⟩:=yD h hD hk X0 hc hE hx hst;exact aC.value g1 (fin (eB.other U U) (qV.ia aO g2))
    .cases hst
   .cases ob with
    |false =>
     obtain ⟨v,w',G',g1,g2⟩:=FJ h hpv hT hD hk X0 E.entry hc hE hst;exact aC.value g1 (fin (eB.other U U) (qV.ia aO g2))
    |true =>
     have h1:=hid rfl
     rcases nI h hpv hT hD hk X0 E.entry h1 hc hE hst with ⟨v,w',G',g1,g2⟩|⟨v,w',G',I',N',ob,av,g1,rfl,g2,g3⟩
     .exact aC.value g1 (fin (eB.other U U) (qV.ia aO g2))
     .exact aC.value g1 (fin (eB.other U U) (qV.JI aO h1.inside g2 g3))
  .cases he
 case dU kk m ky v =>
  simp only [F6.B3,if_true,C7] at he;split at he
  next hst=>
   cases he;obtain ⟨w',g1,g2⟩:=FK h hD hk X0 E.entry (by simpa [V6] using hc) hE hst;exact aC.skip g1 (fin (eB.other U U) (qV.ia aO g2))
  .cases he
 case call f ys =>
  simp only [F6.B3,if_true,C7] at he;split at he
  next hst=>
   cases he;simp only [V6,uE] at hc;split at hc
   next f' args _ g ys' hop heq=>
    cases heq;simp only [c9,beq_iff_eq] at hc;obtain ⟨⟨rfl,hcs⟩,hcan⟩:=hc;refine Cw U U f' (ys.map (F7 st.T st.L)) (args.map a.eval) (by simpa using fR hρ _ _ hcs) hst ?_;simp [execOp,hop,resolve,Act.eval,Deferred.ofValue,invoke]
   .rename_i heq;cases heq
   .cases hc
  .cases he
 case bV y ys =>
  simp only [F6.B3,if_true,C7] at he;split at he
  next hst=>
   cases he;simp only [V6,uE] at hc;split at hc
   .rename_i heq;cases heq
   next x args _ y' ys' hop heq=>
    cases heq;simp only [c9] at hc;have hv:=hρ _ _ hc.1;split at hst
    next f first caps hy=>
     rw [hy] at hv;simp only [VR] at hv;obtain ⟨vf,vc,e1,e2,e3⟩:=hv;refine Cw U U f (first++ys.map (F7 st.T st.L)++caps) (vf++args.map a.eval++vc) ?_ hst ?_
     .simp only [Array.toList_append,Array.toList_map]
      exact og (og e2 (fR hρ _ _ hc.2)) e3
     .simp [execOp,hop,resolve,e1,Deferred.ofValue,invoke]
    .cases hst
   .cases hc
  .cases he
 case defer y =>
  simp only [F6.B3,if_true,C7] at he;split at he
  next hst=>
   cases he;simp only [V6,CE] at hc;split at hc
   next x args _ y' hop heq=>
    cases heq;simp only [c9] at hc;have hv:=hρ _ _ hc.1;split at hst
    next f first caps hy=>
     split at hst
     next zG=>
      cases hst;rw [hy] at hv;simp only [VR] at hv;obtain ⟨vf,vc,e1,e2,e3⟩:=hv;have hrun:(execOp a.eval o).run P w= .ok (.defer { target:= .fn (.func f) vc,args:=vf++args.map a.eval }) w:=by
       simp [execOp,hop,resolve,e1,Deferred.ofValue]
      refine aC.defer hrun ⟨undef,_,G,I,N,eB.other U U,rfl,Or.inr ⟨_,rfl,f,vc,rfl,zG⟩,qV.ia aO (an.same h hk X0 E.entry (by simp [VR]))⟩
     .cases hst
    .cases hst
   .cases hc
  .cases he
 case clear sz zero y =>
  simp only [F6.B3,if_true,C7] at he;split at he
  next hst=>
   cases he;obtain ⟨w',g1,g2⟩:=Jd h hD hk X0 E.entry (by simpa [V6] using hc) hE hst;exact aC.value g1 (fin (eB.other U U) (qV.ia aO g2))
  .cases he
 case bad=>simp [F6.B3,l5] at he
 all_goals
  simp only [F6.B3,j6,if_false] at he;split at he
  next hp=>
   cases he;exact Ny U (by simpa only [V6] using hc) hp rfl
  .cases he
end
end Go.z6
namespace Go.z6
variable [D6]
def lz (names:List Tmp):Option Tmp->Option Nat->Bool
 |none,K=>W
 |some d,K=> !names.contains d
 |some d,J s=>names[s]? ==J d
 |none,J _=>F
def lB (X:Cx)(d9:Nat->Bool):Option (Nat×Bool)->Option (Nat×Bool)->Bool
 |none,K=>W
 |some (g,b),J (g',b')=>g==g' &&b==b' &&d9 g&&(match (X.ops[g]?).bind (·.dst) with
  |some d=> !X.names.contains d
  |none=>F)
 |_,_=>F
def oo (X:Cx)(d9:Nat->Bool)(o:Oper)(i:x9):Bool :=
 V6 X.P (X.ck d9) o i.op&&lz X.names o.dst i.dst&&lB X d9 o.guard i.guard
structure Stat (X:Cx)(nt:Nat):Prop where
 dup:∀(i j:Nat) d,(X.ops[i]?).bind (·.dst)=J d->(X.ops[j]?).bind (·.dst)=J d->X.names.contains d=F->i=j
 lt:∀(i:Nat) d,(X.ops[i]?).bind (·.dst)=J d->d<nt
 nod:∀(s s' :Nat) t,X.names[s]? =J t->X.names[s']? =J t->s=s'
def sH (X:Cx)(S:Nat->Prop):A4->Prop
 | .loc m=>S m/\∃t,(X.ops[m]?).bind (·.dst)=J t/\X.names.contains t=F
 | .slot s=>∃t,X.names[s]? =J t
 | .const _=>True
structure Rg (X:Cx)(j8:List x9)(E:Env)(nt:Nat)(S:Nat->Prop)(st:G5)(a:Act)(w:World)(G:Gh)(I:P3)(N:Nat->Prop):Prop where
 ri:RI X E.lim S st a w G I N
 pv:PV X j8 S st a w I
 cl:∀(j:Nat) ai y,S j->j8[j]? =J ai->ai.op=F6.load K y->sH X S y
 V2:O st.T=O X.names
 gA:O st.L=O j8
 Z8:∀id,N id->id<O st.H
 AZ:E.entry<=O st.H
 size:a.tmps.size=nt
 idle:∀d,d∈a.defers->Ch X.P E.idle d
structure X8 (E:Env)(H0:k8)(w0:World)(G0:Gh)(I0:P3)(N0:Nat->Prop)(H:k8)(w:World)(G:Gh)(I:P3)(N:Nat->Prop):Prop where
 ext:Ext G0 w0 G w
 bu:iM E.lim G0 w0 G w
 inj:∀id,id<E.entry->N0 id->I id=I0 id
 mono:∀id,id<E.entry->N0 id->N id
 old:∀id,id<E.entry->N id->N0 id
 hle:∀(id:Nat) (o' :x6),id<E.lim.base->H[id]? =J o' ->o'.H7<=id+1\/∃o:x6,H0[id]? =J o/\o'.H7<=o.H7
theorem X8.refl (E:Env)(H:k8)(w:World)(G:Gh)(I:P3)(N:Nat->Prop):X8 E H w G I N H w G I N :=
 ⟨Ext.refl _ _,iM.refl _ _ _,λ_ _ _=>rfl,λ_ _ h=>h,λ_ _ h=>h,λ_ o _ h=>Or.inr ⟨o,h,k9 _⟩⟩
theorem X8.trans {E:Env}{H0 H1 H2:k8}{w0 w1 w2:World}{G0 G1 G2:Gh}{I0 I1 I2:P3}{N0 N1 N2:Nat->Prop}
  (h:X8 E H0 w0 G0 I0 N0 H1 w1 G1 I1 N1) (k:X8 E H1 w1 G1 I1 N1 H2 w2 G2 I2 N2):X8 E H0 w0 G0 I0 N0 H2 w2 G2 I2 N2 where
 ext:=h.ext.trans k.ext
 bu:=h.bu.trans k.bu
 inj id hid hN:=(k.inj id hid (h.mono id hid hN)).trans (h.inj id hid hN)
 mono id hid hN:=k.mono id hid (h.mono id hid hN)
 old id hid hN:=h.old id hid (k.old id hid hN)
 hle id o' hb ho:=by
  rcases k.hle id o' hb ho with h1|⟨o1,h1,h2⟩
  .omega
  .rcases h.hle id o1 hb h1 with h3|⟨o,h3,h4⟩
   all_goals grind
section
variable {X:Cx} {j8:List x9} {E:Env} {nt:Nat} {S:Nat->Prop} {st st1 st2:G5} {a:Act} {w w' :World} {G G' :Gh} {I I' :P3} {N N' :Nat->Prop} {d9:Nat->Bool}
def Rg.aA4 (h:Rg X j8 E nt S st a w G I N){y:A4}(hy:sH X S y){id off:Nat}(hp:Z9 st y=J (id,off)):N id:=by
 unfold Z9 at hp;split at hp
 next m=>
  split at hp
  .obtain ⟨h1,t,h2,h3⟩:=hy
   have:=h.ri.L m h1 t h2 h3;simp_all [Z3,VR]
  .cases hp
 next s=>
  split at hp
  .cases hp
  .split at hp
   .obtain ⟨t,ht⟩:=hy
    have:=h.ri.T s t ht;simp_all [Z3,VR]
   .cases hp
 .cases hp
theorem Q2 {A1:Option Nat}{k:Nat}{dst:Option Nat}(h:s6 A1 st1 k dst=J st2) :
  (dst=K/\st2=st1)\/∃s l6,dst=J s/\s<O st1.T/\st2={ (E9 st1 (.loc k)).2 with T:=st1.T.set s (E9 st1 (.loc k)).1,l6 }/\(l6= .slot s::st1.l6\/(l6=st1.l6/\st1.l6.any (Touch.Q6 s)=W)):=by
 unfold s6 at h;split at h
 .simp_all [D5]<;>grind
 .cases dst with
  |none=>cases h;simp_all
  |some s =>
   grind [R4,E9]
theorem xK {A1:Option Nat}{k:Nat}{dst:Option Nat}(h:s6 A1 st1 k dst=J st2)(p:Touch->Bool)(hp:st1.l6.any p=W):st2.l6.any p=W:=by
 rcases Q2 h with ⟨_,rfl⟩|⟨s,l6,_,_,rfl,rfl|⟨rfl,_⟩⟩
 all_goals simp_all
theorem xI {A1:Option Nat}{k s:Nat}{dst:Option Nat}(h:s6 A1 st1 k dst=J st2)(hd:dst=J s):st2.l6.any (Touch.Q6 s)=W:=by
 grind [Q2,Touch.Q6]
def mD {A1:Option Nat}{k:Nat}{dst:Option Nat}(h:s6 A1 st1 k dst=J st2):st2.H=st1.H:=by
 grind [Q2,sF]
def EP {A1:Option Nat}{k:Nat}{dst:Option Nat}(h:s6 A1 st1 k dst=J st2):O st2.L=O st1.L:=by
 grind [Q2,xW]
def ES {A1:Option Nat}{k:Nat}{dst:Option Nat}(h:s6 A1 st1 k dst=J st2):O st2.T=O st1.T:=by
 grind [Q2]
theorem ku (st:G5)(k m:Nat)(h:m≠k):(E9 st (.loc k)).2.L[m]? =st.L[m]? :=by
 simp only [E9];split
 .simp only
  rw [x5 (λe=>h e.symm)]
 .rfl
 .rfl
theorem EO {A1:Option Nat}{k:Nat}{dst:Option Nat}(h:s6 A1 st1 k dst=J st2){m:Nat}(hm:m≠k):st2.L[m]? =st1.L[m]? :=by
 grind [Q2,ku]
def GK {A1:Option Nat}{k:Nat}{dst:Option Nat}(h:s6 A1 st1 k dst=J st2){y:A4}(hy:∀m,y= .loc m->m≠k){id off:Nat}(hp:Z9 st2 y=J (id,off)):Z9 st1 y=J (id,off):=by
 cases y with
 |const v=>exact hp
 |loc m =>
  grind [Z9,EO]
 |slot s' =>
  simp only [Z9] at hp ⊢;split at hp
  .cases hp
  .have hn' :st2.l6.any (Touch.Q6 s')=F:=M
   rw [if_neg (by grind [gD,xK])]
   grind [xI,Q2,x5]
def Tr.ptr {k:Nat}(h:Tr N k st st1){y:A4}(hy:∀m,y= .loc m->m≠k){id off:Nat}(hp:Z9 st1 y=J (id,off)):Z9 st y=J (id,off):=by
 cases y with
 |const v=>exact hp
 |loc m =>
  simp [Z9] at hp ⊢;split at hp
  next hl=>
   cases hp;rw [h.L m _ _ (hy m rfl) hl]
  .cases hp
 |slot s =>
  simp only [Z9] at hp ⊢;split at hp
  .cases hp
  .rw [if_neg (by rw [gD h.l6 M];simp)]
   split at hp
   next hl=>
    cases hp;rw [h.T s _ _ hl]
   .cases hp
def ah {d:Tmp}{x:Value}(h:d<a.tmps.size):(a.put (J d) x).tmps.getD d undef=x:=by
 simp [Act.put,h]
def U7 {dst:Option Tmp}{t:Tmp}{x:Value}(h:dst≠J t):(a.put dst x).tmps.getD t undef=a.tmps.getD t undef:=by
 simp_all [Act.put]<;>grind
def size_put {dst:Option Tmp}{x:Value}:(a.put dst x).tmps.size=a.tmps.size:=by
 cases dst<;>simp [Act.put]
def jF {dst:Option Tmp}{x:Value}:(a.put dst x).defers=a.defers:=by
 cases dst<;>simp [Act.put]
theorem RI.defers {l:G9}{ds:List Deferred}(h:RI X l S st a w G I N):RI X l S st { a with defers:=ds } w G I N :=
 ⟨h.T,h.L,h.H,h.wf,h.R8⟩
def RI.after {l:G9}(hst:Stat X nt)(hsz:a.tmps.size=nt)(hT:O st1.T=O X.names){k:Nat}(hk:¬ S k)(X0:k<O st1.L){o:Oper}(ho:X.ops[k]? =J o){dst:Option Nat}(hd:lz X.names o.dst dst=W)
  (h:RI X l S st1 a w G I N) {x:Value} (hv:VR G I N w (.loc k) (st1.L.getD k .any) x) {A1:Option Nat} (hts:s6 A1 st1 k dst=J st2) :
  ∃G',Ext G w G' w/\(∀id off,Y8 (.cell id off) G w G' w)/\(∀b id,G b= .obj id->G' b= .obj id)/\RI X l (λj=>S j\/j=k) st2 (a.put o.dst x) w G' I N:=by
 have tg:(X.ops[k]?).bind (·.dst)=o.dst:=by rw [ho];rfl
 rcases Q2 hts with ⟨rfl,rfl⟩|⟨s,X1,rfl,hs,rfl,_⟩
 .have Bg:∀d,o.dst=J d->X.names.contains d=F:=by
   intro d hd';rw [hd'] at hd;simpa [lz] using hd
  refine ⟨G,Ext.refl _ _,λ_ _ _ _ h=>⟨h,rfl⟩,λ_ _ h=>h,?_,?_,h.H,h.wf,h.R8⟩
  .intro s t ht
   rw [U7 ?_]
   .exact h.T s t ht
   .intro e
    have h1:=Bg t e;have h2:t∈X.names:=List.mem_of_getElem? ht;simp [h2] at h1
  .intro j hj d ye hjn
   rcases hj with hj|rfl
   .rw [U7 ?_]
    .exact h.L j hj d ye hjn
    .intro e
     have:=hst.dup j k d ye (by rw [tg];exact e) hjn;subst this;exact hk hj
   .rw [tg] at ye
    rw [ye,ah (by rw [hsz];exact hst.lt j d (by rw [tg];exact ye))];exact hv
 .·cases ZL:o.dst with
   |none=>rw [ZL] at hd;simp [lz] at hd
   |some d =>
    rw [ZL] at hd;have aO:X.names[s]? =J d:=by simpa [lz] using hd
    have hdn:X.names.contains d=W:=by
     have:d∈X.names:=List.mem_of_getElem? aO;simp [this]
    have ao4:d<a.tmps.size:=by rw [hsz];exact hst.lt k d (by rw [tg];exact ZL)
    have main:∀(v:c7) (UR:G5) (G' :Gh),gN (.loc k) G w G' ->VR G' I N w (.slot s) v x->UR.H=st1.H->(∀m,m≠k->UR.L[m]? =st1.L[m]?)->UR.T=st1.T.set s v ->
      RI X l (λj=>S j\/j=k) UR (a.put (J d) x) w G' I N:=by
     intro v UR G' hm PU hH hL hT3;refine ⟨?_,?_,?_,hm.wf h.wf,?_⟩
     .intro s' t ht
      rw [hT3]
      by_cases he:s' =s
      .subst he
       rw [aO] at ht;cases ht;rw [L0 _ _ _ _ hs,ah ao4];exact PU
      .rw [L7 _ _ _ _ _ (λe=>he e.symm),U7 (λe=>he (hst.nod s' s t ht (by rw [aO,<- Option.some_inj.1 e])))]
       exact VR.mono hm.ext (λ_ _=>rfl) (λ_ h=>h) _ _ _ (Or.inr (hm.keeps _ U)) (h.T s' t ht)
     .intro j hj d' ye hjn
      have hjk:S j:=by
       rcases hj with hj|rfl
       .exact hj
       .rw [tg,ZL] at ye;cases ye;rw [hdn] at hjn;cases hjn
      have hne:j≠k:=by rintro rfl;exact hk hjk
      have e1:UR.L.getD j .any=st1.L.getD j .any:=by simp only [List.getD,hL j hne]
      rw [e1,U7 (λe=>by cases e;rw [hdn] at hjn;cases hjn)];exact VR.mono hm.ext (λ_ _=>rfl) (λ_ h=>h) _ _ _ (Or.inr (hm.keeps _ (by simp;exact hne))) (h.L j hjk d' ye hjn)
     .rw [hH];exact h.H.DN hm U
     .rw [hH];exact h.R8
    by_cases hown:∃z n c,st1.L[k]? =J (.own z n c)
    .obtain ⟨z,n,c,RP⟩:=hown
     rw [Z3 RP] at hv;obtain ⟨G',hm,PU⟩:=gF (uw := .slot s) U hv;refine ⟨G',hm.ext,λid off=>hm.keeps _ U,hm.obj,?_⟩;have e1:(z6.E9 st1 (.loc k)).1= .own z n c:=by simp only [z6.E9,RP]
     exact main (.own z n c) _ G' hm PU (sF _ _) (λm hm=>ku st1 k m hm) (by simp only [e1])
    .by_cases hnil:st1.L[k]? =J .O5
     .have e1:z6.E9 st1 (.loc k)=(.O5,st1):=by simp only [z6.E9,hnil]
      refine ⟨G,Ext.refl _ _,λ_ _ _ _ h=>⟨h,rfl⟩,λ_ _ h=>h,?_⟩;refine main .O5 _ G (gN.refl _ _ _) ?_ (sF _ _) (λm hm=>ku st1 k m hm) (by simp only [e1]);rw [Z3 hnil] at hv;simpa only [VR] using hv
     .have e1:z6.E9 st1 (.loc k)=(F7 st1.T st1.L (.loc k),st1):=by
       simp only [z6.E9];split
       .rename_i z n c hj;exact absurd ⟨z,n,c,hj⟩ hown
       .rename_i hj;exact absurd hj hnil
       .rfl
      refine ⟨G,Ext.refl _ _,λ_ _ _ _ h=>⟨h,rfl⟩,λ_ _ h=>h,?_⟩;refine main (F7 st1.T st1.L (.loc k)) _ G (gN.refl _ _ _) ?_ (sF _ _) (λm hm=>ku st1 k m hm) (by simp only [e1]);simp only [F7];exact hv.I7
def PV.after (hst:Stat X nt)(hR:Rg X j8 E nt S st a w G I N){k:Nat}(hk:¬ S k){o:Oper}(ho:X.ops[k]? =J o){i:x9}(hi:j8[k]? =J i)(hd:lz X.names o.dst i.dst=W)
  (hcl:∀y,i.op= .load K y->sH X S y) (htr:Tr N k st st1) {A1:Option Nat} (hts:s6 A1 st1 k i.dst=J st2) {x:Value} {ds:List Deferred}
  (hko:∀id,N id->st1.l6.any (Touch.F1 id)=F->I' id=I id/\∀b,G b= .obj id->w'.heap[b]? =w.heap[b]?)
  (hf:st2.L[k]? =J (.tuple [])\/eB X st a w I i.op x):PV X j8 (λj=>S j\/j=k) st2 ({ a with defers:=ds }.put o.dst x) w' I' :=by
 have tg:(X.ops[k]?).bind (·.dst)=o.dst:=by rw [ho];rfl
 have OS:∀j,j≠k->st2.L[j]? ≠J (.tuple [])->st.L[j]? ≠J (.tuple []):=by
  intro j hj h1 h2;rw [EO hts hj] at h1;exact h1 (htr.OS j hj h2)
 have Ui:∀p,st2.l6.any p=F->st.l6.any p=F/\st1.l6.any p=F:=by
  intro p hp;have h1:=gD (xK hts) hp;exact ⟨gD htr.l6 h1,h1⟩
 have NU:∀(s:Nat) t,X.names[s]? =J t->st2.l6.any (Touch.Q6 s)=F->o.dst≠J t:=by
  intro s t ht hh e;rw [e] at hd;cases hdi:i.dst with
  |none =>
   grind [List.mem_of_getElem?,lz]
  |some s' =>
   rw [hdi] at hd hts;have h1:X.names[s']? =J t:=by simp_all [lz]
   have:=hst.nod s s' t ht h1
   grind [xI]
 have Hw:∀(j:Nat) d,S j->(X.ops[j]?).bind (·.dst)=J d->X.names.contains d=F->o.dst≠J d:=by
  intro j d hj ye hjn e;have:=hst.dup j k d ye (by grind) hjn
  grind
 have CB:∀y id off l0,sH X S y->Z9 st2 y=J (id,off)->st2.H[id]? =J (.cells l0)->off<O l0->st2.l6.any (Touch.W2 id off)=F ->
   Z9 st y=J (id,off)/\st.l6.any (Touch.W2 id off)=F/\(∃l,st.H[id]? =J (.cells l)/\off<O l)/\w'.cell? (ad (I' id).1 ((I' id).2+off))=w.cell? (ad (I id).1 ((I id).2+off)):=by
  intro y id off l0 hy hp hH hoff hh;have hym:∀m,y= .loc m->m≠k:=by
   rintro m rfl rfl;exact hk hy.1
  have hp1:=GK hts hym hp;have hp0:=htr.ptr hym hp1;have hN:=hR.aA4 hy hp0;have PM:st1.l6.any (Touch.F1 id)=F:=by
   cases he:st1.l6.any (Touch.F1 id) with
   |false=>rfl
   |true =>
    rw [List.any_eq_true] at he;obtain ⟨t,ht,hth⟩:=he;have:st1.l6.any (Touch.W2 id off)=W:=by
     rw [List.any_eq_true];refine ⟨t,ht,?_⟩;cases t<;>simp only [Touch.F1,Touch.W2] at hth ⊢<;>first|exact hth|cases hth
    grind
  rw [mD hts] at hH;obtain ⟨l,hl,hle⟩:=htr.H id l0 hN PM hH;have hO:=hR.ri.H id _ hl
  grind [OR,World.cell?]
 refine ⟨?_,?_⟩
 .intro j ai s t d hj hsk hai hop ht ye hjn hh
  rw [U7 (NU s t ht hh)]
  rcases hj with hj|rfl
  .rw [U7 (Hw j d hj ye hjn)]
   exact hR.pv.slot j ai s t d hj (OS j (by grind) hsk) hai hop ht ye hjn (Ui _ hh).1
  .rw [hi] at hai;cases hai
   rw [tg] at ye;rw [ye,ah (by simp only;rw [hR.size];exact hst.lt j d (by grind))]
   rcases hf with hf|hf
   .grind
   .exact hf.dV s t hop ht
 .intro j ai y id off d l0 hj hsk hai hop hp hH hoff hh ye hjn
  rcases hj with hj|rfl
  .have hy:=hR.cl j ai y hj hai hop
   obtain ⟨h1,h2,⟨l,h3,h4⟩,h5⟩:=CB y id off l0 hy hp hH hoff hh;rw [U7 (Hw j d hj ye hjn),h5];exact hR.pv.cell j ai y id off d l hj (OS j (by grind) hsk) hai hop h1 h3 h4 h2 ye hjn
  .rw [hi] at hai;cases hai
   have hy:=hcl y hop;obtain ⟨h1,h2,⟨l,h3,h4⟩,h5⟩:=CB y id off l0 hy hp hH hoff hh;rw [tg] at ye;rw [ye,ah (by simp only;rw [hR.size];exact hst.lt j d (by grind)),h5]
   rcases hf with hf|hf
   .grind
   .exact hf.load y id off hop h1
end
end Go.z6
namespace Go.z6
variable [D6]
section
variable {X:Cx} {j8:List x9} {E:Env} {nt:Nat} {S:Nat->Prop} {st st1 st2:G5} {a:Act} {w w' :World} {G G' :Gh} {I I' :P3} {N N' :Nat->Prop} {d9:Nat->Bool}
theorem qR (hR:Rg X j8 E nt S st a w G I N)(hD:∀j,d9 j=W->S j){o:Oper}{g:Option (Nat×Bool)}(hc:lB X d9 o.guard g=W){b:Bool}(hw:y6 st.L g=J b):Region.wanted o (yielded X.ops a.tmps)=b:=by
 unfold Region.wanted;cases hg:o.guard with
 |none =>
  grind [y6,lB]
 |some p =>
  obtain ⟨g0,want⟩:=p;rw [hg] at hc;cases g with
  |none=>simp [lB] at hc
  |some q =>
   obtain ⟨g1,aO2⟩:=q;simp only [lB,c9,beq_iff_eq] at hc;obtain ⟨⟨⟨rfl,rfl⟩,hDg⟩,wm⟩:=hc;cases hd:(X.ops[g0]?).bind (·.dst) with
   |none=>simp_all
   |some d =>
    rw [hd] at wm;simp only [o9] at wm;have hv:=hR.ri.L g0 (hD g0 hDg) d hd wm;have hy:yielded X.ops a.tmps g0=(match a.tmps[d]? with|some (.bool b)=>J b|_=>K):=by
     grind [yielded]
    simp [y6] at hw;split at hw
    .cases hw
     simp_all [VR,DR,bool,undef]<;>grind
    all_goals (simp_all [VR,bool]<;>grind)
structure VS (X:Cx)(j8:List x9)(E:Env)(nt:Nat)(S:Nat->Prop)(st:G5)(w:World)(G:Gh)(I:P3)(N:Nat->Prop)(k:Nat)(A1:Option Nat)(st2:G5)(a' :Act)(w' :World)(G' :Gh)(I' :P3)(N' :Nat->Prop):Prop where
 rg:Rg X j8 E nt (λj=>S j\/j=k) st2 a' w' G' I' N'
 since:X8 E st.H w G I N st2.H w' G' I' N'
 len:O st.H<=O st2.H
 old:∀id,id<O st.H->N' id->N id\/A1=J id
theorem Eb (hD:∀j,d9 j=W->S j){x:Operand}{y:A4}(hc:X.ck d9 x y=W):sH X S y:=by
 unfold Cx.ck at hc;split at hc
 .exact ⟨_,by simpa using hc⟩
 .simp only [c9,beq_iff_eq,o9] at hc
  exact ⟨hD _ hc.1.1,_,hc.1.2,hc.2⟩
 .trivial
 .trivial
 .trivial
 .cases hc
theorem DF (hD:∀j,d9 j=W->S j){o:Oper}{n:Option Nat}{y:A4}(hc:V6 X.P (X.ck d9) o (.load n y)=W):sH X S y:=by
 simp [V6] at hc;obtain ⟨dst,bt,ty,pos,after,guard⟩:=o;cases bt<;>simp [E1] at hc
 grind [Eb]
theorem Rg.after (hst:Stat X nt)(hR:Rg X j8 E nt S st a w G I N)(hD:∀j,d9 j=W->S j){k:Nat}(hk:¬ S k)(X0:k<O st.L){o:Oper}(ho:X.ops[k]? =J o){i:x9}(hi:j8[k]? =J i)(hc:oo X d9 o i=W)
  {A1:Option Nat} (hne:∀i,A1=J i->E.entry<=i) (htr:Tr N k st st1) (hts:s6 A1 st1 k i.dst=J st2) {x:Value} {ds:List Deferred} (hds:ds=a.defers\/∃d,ds=d::a.defers/\Ch X.P E.idle d)
  (hf:st2.L[k]? =J (.tuple [])\/eB X st a w I i.op x) (hS:qV A1 X E.lim S E.entry st a w G I N st1 k x w' G' I' N') :
  ∃VT,VS X j8 E nt S st w G I N k A1 st2 ({ a with defers:=ds }.put o.dst x) w' VT I' N' :=by
 simp [oo,c9] at hc;obtain ⟨⟨hc1,qm⟩,RL⟩:=hc;have hm:=hS.mid;obtain ⟨G2,e1,e2,e3,e4⟩:=RI.after (l:=E.lim) (a:={ a with defers:=ds }) hst hR.size (by rw [htr.V2];exact hR.V2) hk (by rw [htr.gA];exact X0) ho qm hm.ri.defers hm.val hts;have hpv:=PV.after (w' :=w') (I' :=I') (x:=x) (ds:=ds) hst hR hk ho hi qm (λy hy=>DF hD (by simp_all<;>omega)) htr hts (λid hN ht=>by
  obtain ⟨h1,h2⟩:=hm.ko id hN ht;simp_all) hf
 refine ⟨G2,⟨e4,hpv,?_,?_,?_,?_,?_,?_,?_⟩,⟨?_,?_,?_,?_,?_,?_⟩,?_,hS.old⟩
 .intro j ai y hj hai hop
  have lift:sH X S y->sH X (λj=>S j\/j=k) y:=by
   intro h;cases y with
   |loc m=>exact ⟨Or.inl h.1,h.2⟩
   |slot s=>exact h
   |const v=>trivial
  rcases hj with hj|rfl
  .exact lift (hR.cl j ai y hj hai hop)
  grind [DF]
 .rw [ES hts,htr.V2];exact hR.V2
 .rw [EP hts,htr.gA];exact hR.gA
 .intro id hid;rw [mD hts];exact hS.Z8 id hid
 .rw [mD hts];exact o5 hR.AZ hm.len
 .rw [size_put];exact hR.size
 .rw [jF]
  intro d hd
  rcases hds with rfl|⟨d',rfl,hid⟩
  .exact hR.idle d hd
  .simp [K2] at hd
   rcases hd with rfl|hd
   .exact hid
   .exact hR.idle d hd
 .exact hm.ext.trans e1
 .exact hm.bu.trans λid _=>⟨λb hb=>⟨e3 b id hb,rfl⟩,e2 id⟩
 .intro id hid hN;exact hm.inj id hid hN
 .intro id _ hN;exact hm.mono id hN
 .intro id hid hN
  rcases hS.old id (Nat.lt_of_lt_of_le hid hR.AZ) hN with h1|h1
  all_goals grind
 .intro id o' hb ho';rw [mD hts] at ho';exact hm.hle id o' hb ho'
 .rw [mD hts];exact hm.len
def tW (hst:Stat X nt)(HM:kO X.P E.cf E.prom)(dG:∀f args H lm r,E.cf f args H lm=J r->R3 X.P f=W)(hs:E.lim.strict<=E.lim.base)(Tu:E.lim.base<=E.entry)(hR:Rg X j8 E nt S st a w G I N)
  (hD:∀j,d9 j=W->S j) {k:Nat} (hk:¬ S k) {o:Oper} (ho:X.ops[k]? =J o) {i:x9} (hi:j8[k]? =J i) (hc:oo X d9 o i=W) {A1:Option Nat} (hid:i.op.y3=W->ud E.lim st N A1) (hne:∀i,A1=J i->E.entry<=i/\i<O st.H)
  {rs:List Nat} (he:x8 E j8 A1 k i st=J (st2,rs)) (a8:Act->World->Prop) (Q:Exit->Act->World->Prop)
  (hK:∀a' w' G' I' N',VS X j8 E nt S st w G I N k A1 st2 a' w' G' I' N' ->a8 a' w'):wpOp X.P X.ops Q k a8 a w:=by
 have X0:k<O st.L:=by rw [hR.gA];grind
 have oV :=hc;simp [oo,c9] at oV;obtain ⟨⟨hc1,qm⟩,RL⟩:=oV;unfold wpOp;simp [ho];unfold x8 at he;split at he
 next hw=>
  rw [if_pos (qR hR hD RL hw)];split at he
  next st1 Zg hW=>
   split at he
   next aC8 hts=>
    refine Or.inl ?_;have hrun:=EF (P:=X.P) HM dG rfl hR.ri hR.pv hR.V2 hR.Z8 (o5 Tu hR.AZ) hs hD hk X0 hc1 (A1:=A1) hid hW;refine hrun a8 Q ?_;rintro a' w' ⟨x,ds,G',I',N',hF,rfl,hds,hS⟩;have htr:Tr N k st st1:=Tr.B4 hR.Z8 (λi h=>(hne i h).2) (λha=>(hid ha).new) hW;obtain ⟨VT,hdone⟩:=Rg.after hst hR hD hk X0 ho hi hc (λi h=>(hne i h).1) htr hts hds (Or.inr hF) hS
    grind
   .cases he
  .cases he
 .rw [if_neg (by grind [qR])]
  split at he
  next aC8 hts=>
   cases he;have htr:Tr N k st (put st k (.tuple [])):=Tr.put _;have hS:qV A1 X E.lim S E.entry st a w G I N (put st k (.tuple [])) k undef w G I N :=
    qV.ia hR.Z8 (an.same hR.ri hk X0 E.entry (by exact ⟨#[],rfl,by simp [I6]⟩))
   have hL:st2.L[k]? =J (.tuple []):=by
    grind [Q2,put,E9]
   obtain ⟨VT,hdone⟩:=Rg.after hst hR hD hk X0 ho hi hc (λi h=>(hne i h).1) htr hts (Or.inl rfl) (Or.inl hL) hS;exact hK _ _ _ _ _ hdone
  .cases he
 .cases he
def jC (X:Cx):List x9->Nat->Bool
 |[],k=>X.ops.size==k
 |i::is,k=>(match X.ops[k]? with
  |some o=>oo X (λj=>decide (j<k)) o i
  |none=>F)&&jC X is (k+1)
structure Fin (X:Cx)(j8:List x9)(E:Env)(nt:Nat)(st0:G5)(w:World)(G:Gh)(I:P3)(N:Nat->Prop)(st2:G5)(a' :Act)(w' :World)(G' :Gh)(I' :P3)(N' :Nat->Prop):Prop where
 rg:Rg X j8 E nt (λj=>j<O j8) st2 a' w' G' I' N'
 since:X8 E st0.H w G I N st2.H w' G' I' N'
def Rg.congr {S' :Nat->Prop}(h:Rg X j8 E nt S st a w G I N)(hS:∀j,S j↔S' j):Rg X j8 E nt S' st a w G I N:=by
 have:S=S' :=funext λj=>propext (hS j)
 simp_all
def BI (hst:Stat X nt)(HM:kO X.P E.cf E.prom)(dG:∀f args H lm r,E.cf f args H lm=J r->R3 X.P f=W)(hs:E.lim.strict<=E.lim.base)(Tu:E.lim.base<=E.entry)(Q:Exit->Act->World->Prop) :
  ∀(is:List x9) (k:Nat),j8.drop k=is->k<=O j8->jC X is k=W->∀(st:G5) (a:Act) (w:World) (G:Gh) (I:P3) (N:Nat->Prop) (st2:G5),Rg X j8 E nt (λj=>j<k) st a w G I N->fo E j8 is k st=J st2 ->
   (∀a' w' G' I' N',Fin X j8 E nt st w G I N st2 a' w' G' I' N' ->Q .normal a' w')->wpOps X.P X.ops Q (List.range' k (O is)) a w:=by
 intro is
 induction is with
 |nil =>
  intro k hd hk _ st a w G I N st2 hR hrun hQ;cases hrun;have X0:O j8=k:=by
   simp_all [List.length]<;>omega
  exact hQ _ _ _ _ _ ⟨M,X8.refl _ _ _ _ _ _⟩
 |cons i is ih =>
  intro k hd hk hc st a w G I N st2 hR hrun hQ;have hi:j8[k]? =J i:=by
   have:(j8.drop k)[0]? =J i:=by rw [hd];rfl
   grind
  have hd' :j8.drop (k+1)=is:=by
   have:=congrArg (List.drop 1) hd
   grind [List.drop_drop]
  simp [jC,c9] at hc;obtain ⟨hc1,qm⟩:=hc;simp [fo] at hrun;split at hrun
  next st1 rs hstep=>
   cases ho:X.ops[k]? with
   |none=>simp_all
   |some o =>
    rw [ho] at hc1;simp [n9];refine tW hst HM dG hs Tu hR (d9:=λj=>decide (j<k)) (λj hj=>M) (Nat.lt_irrefl k) ho hi hc1 (A1:=K) (λ_=>?_) (λi h=>by cases h) hstep _ _ ?_
    .exact ⟨(λhN=>by have:=hR.Z8 _ hN;grind [newId]),(λi h=>by cases h),by exact o5 Tu hR.AZ,by exact o5 hs (o5 Tu hR.AZ)⟩
    .intro a' w' G' I' N' hdone
     refine ih (k+1) hd' (y9 hi) qm st1 a' w' G' I' N' st2 (hdone.rg.congr λj=>V) hrun ?_;intro a'' w'' VT I'' N'' rM;exact hQ _ _ _ _ _ ⟨rM.rg,hdone.since.trans rM.since⟩
  .cases hrun
end
end Go.z6
namespace Go.z6
variable [D6]
def A4.bf:A4->List Nat
 | .loc j=>[j]
 |_=>[]
def A4.slots:A4->List Nat
 | .slot s=>[s]
 |_=>[]
def F6.N6:F6->List A4
 | .dV x=>[x]
 | .pick c a b=>[c,a,b]
 | .alloc _=>[]
 | .box x=>[x]
 | .build _ parts=>parts.map (·.2.2)
 | .N5 _ _ _ parts _=>parts.map (·.2.2)
 | .gW _ _ x y=>[x,y]
 | .load _ x=>[x]
 | .store _ a x=>[a,x]
 | .qz x=>[x]
 | .bin _ x y=>[x,y]
 | .un _ x=>[x]
 | .yO _ x=>[x]
 | .s7 _ x y=>[x,y]
 | .Pt _ _ x y=>[x,y]
 | .pU _ x=>[x]
 | .lD x=>[x]
 | .bP _ x lo hi=>x::(lo.toList++hi.toList)
 | .off _ x=>[x]
 | .iw _ x i=>[x,i]
 | .uo _ _ x i=>[x,i]
 | .I5 x i=>[x,i]
 | .extract x _=>[x]
 | .Pw x _=>[x]
 | .len x=>[x]
 | .V2 x=>[x]
 | .append _ _ _ x y=>[x,y]
 | .M7 _ _ x y=>[x,y]
 | .iC _ xs=>xs
 | .clear _ _ x=>[x]
 | .jR _ first caps=>first++caps
 | .call _ xs=>xs
 | .bV x xs=>x::xs
 | .makeMap=>[]
 | .ot _=>[]
 | .own _ x=>[x]
 | .lookup _ _ _ m k=>[m,k]
 | .dU _ m k v=>[m,k,v]
 | .defer x=>[x]
 | .bad=>[]
def bD (j8:List x9)(i:x9):List Nat :=
 (i.op.N6.flatMap A4.bf)++(match i.guard with|some (g,_)=>[g]|none=>[]) ++
 (match i.op with
  | .append _ _ _ (.loc j) _=>(match j8[j]? with|some a=>a.op.N6.flatMap A4.bf|none=>[])
  | .M7 _ _ (.loc j) _=>(match j8[j]? with|some a=>a.op.N6.flatMap A4.bf|none=>[])
  | .own _ (.loc j)=>(match j8[j]? with|some a=>a.op.N6.flatMap A4.bf|none=>[])
  |_=>[])
def cD (i:x9):List Nat:=i.op.N6.flatMap A4.slots
def R9 {α β:Type}{f g:α->β}{l:List α}(h:∀x,x∈l->f x=g x):l.map f=l.map g:=List.map_congr_left h
def hU {ρ ρ' :A4->c7}{ps:List (Nat×Nat×A4)}(h:∀x,x∈ps.map (·.2.2)->ρ' x=ρ x):(ps.map λ(o,s,x)=>(o,s,ρ' x))=ps.map λ(o,s,x)=>(o,s,ρ x):=by
 grind [List.map_congr_left]
def sM {ρ ρ' :A4->c7}{d:Nat}{o:Option A4}(h:∀x,x∈o.toList->ρ' x=ρ x):T4 ρ' d o=T4 ρ d o:=by
 simp_all [T4]<;>grind
def jV {ρ ρ' :A4->c7}{H:k8}{op:F6}(h:∀x,x∈op.N6->ρ' x=ρ x):l5 ρ' H op=l5 ρ H op:=by
 cases op<;>simp only [F6.N6] at h
 case build=>simp only [l5,hU h]
 case N5 sz len zero parts ob=>cases ob<;>simp only [l5,hU h]
 case iC isMax xs=>simp only [l5,R9 h]
 case jR f first caps =>
  simp only [l5];rw [R9 (l:=first) λx hx=>h x (by simp [hx]),R9 (l:=caps) λx hx=>h x (by simp [hx])]
 case bP sz x lo hi =>
  have h1:=h x U;have h2:∀d,T4 ρ' d lo=T4 ρ d lo:=λd=>sM λy hy=>h y (by simp at hy ⊢;simp [hy])
  have h3:∀d,T4 ρ' d hi=T4 ρ d hi:=λd=>sM λy hy=>h y (by simp at hy ⊢;simp [hy])
  simp only [l5,h1,h2,h3]
 case load n x=>cases n<;>simp only [l5,h x U]
 case pick c a b=>simp only [l5,h c U,h a U,h b U]
 case bin b x y=>simp only [l5,h x U,h y U]
 case s7 b x y=>simp only [l5,h x U,h y U]
 case Pt b ks x y=>simp only [l5,h x U,h y U]
 case iw s x y=>simp only [l5,h x U,h y U]
 case uo n s x y=>simp only [l5,h x U,h y U]
 case I5 x y=>simp only [l5,h x U,h y U]
 case lookup kk z ok x y=>simp only [l5,h x U,h y U]
 case qz x=>simp only [l5,h x U]
 case un b x=>simp only [l5,h x U]
 case yO b x=>simp only [l5,h x U]
 case pU k x=>simp only [l5,h x U]
 case lD x=>simp only [l5,h x U]
 case off k x=>simp only [l5,h x U]
 case extract x i=>simp only [l5,h x U]
 case Pw x i=>simp only [l5,h x U]
 case len x=>simp only [l5,h x U]
 case V2 x=>simp only [l5,h x U]
 all_goals rfl
def O7:Option x6->Option x6->Prop
 |some (.cells l),J (.cells l')=>l.map c7.I7=l'.map c7.I7
 |a,b=>a=b
theorem O7.refl (o:Option x6):O7 o o:=by
 simp_all [O7]<;>grind
def O7.symm {a b:Option x6}(h:O7 a b):O7 b a:=by
 simp_all [O7,absurd]<;>grind
theorem O7.trans {a b c:Option x6}(h:O7 a b)(k:O7 b c):O7 a c:=by
 simp_all [O7]<;>grind
def SB {H H' :k8}{id off n:Nat}(h:O7 H'[id]? H[id]?){vs:List c7}(hr:rd H id off n=J vs):∃vs',rd H' id off n=J vs' /\vs'.map c7.I7=vs.map c7.I7:=by
 unfold rd at hr ⊢;split at hr
 next l hl=>
  split at hr
  .cases hr
   rw [hl] at h;cases h' :H'[id]? with
   |none=>simp_all [O7]
   |some o =>
    rw [h'] at h;cases o with
    |cells l' =>
     have h:l'.map c7.I7=l.map c7.I7:=by grind [O7]
     have Mj:O l'=O l:=by simpa using congrArg List.length h
     simp_all
    |dead=>simp [O7] at h
    |map es=>simp [O7] at h
  .cases hr
 .cases hr
def Ei {ρ:A4->c7}{H H' :k8}{op:F6}{v:c7}{rs:List Nat}(h:l5 ρ H op=J (v,rs))(hr:∀id,id∈rs->O7 H'[id]? H[id]?):l5 ρ H' op=J (v,rs):=by
 cases op
 case load n x =>
  cases n with
  |none =>
   simp only [l5] at h ⊢;split at h
   next id off hp=>
    split at h
    next u hu=>
     cases h;obtain ⟨vs',h1,h2⟩:=SB (hr id U) hu;obtain ⟨u',rfl⟩:∃u',vs' =[u']:=by
      have:=congrArg List.length h2;simp at this;exact List.length_eq_one_iff.1 this
     simp at h2;simp only [h1,h2]
    .cases h
   .exact h
   .cases h
  |some n =>
   simp only [l5] at h ⊢;split at h
   next id off hp=>
    split at h
    next us hu=>
     cases h;obtain ⟨vs',h1,h2⟩:=SB (hr id U) hu;simp only [h1,h2]
    .cases h
   .exact h
   .cases h
 case lookup kk zero ok m k =>
  simp only [l5] at h ⊢;split at h
  next id key hp hq=>
   split at h
   next es OL=>
    split at h
    next hf hft=>
     cases h;have:=hr id U;rw [OL] at this;have h' :H'[id]? =J (.map es):=by
      cases h' :H'[id]? with
      |none=>rw [h'] at this;simp [O7] at this
      |some o=>rw [h'] at this;cases o<;>simp_all [O7]
     simp only [h',hf,hft]
    .cases h
   .cases h
  .exact h
  .cases h
 case N5 sz len zero parts ob=>cases ob<;>exact h
 all_goals exact h
structure Still (k:Nat)(dst A1:Option Nat)(d:List Touch)(st st' :G5):Prop where
 L:∀m,m≠k->(st'.L.getD m .any).I7=(st.L.getD m .any).I7
 Gb:∀m,m≠k->∀b,st'.L[m]? =J (c7.d (.bool b))↔st.L[m]? =J (c7.d (.bool b))
 Gt:∀m,m≠k->(st'.L[m]? =J (c7.tuple [])↔st.L[m]? =J (c7.tuple []))
 T:∀s,dst≠J s->(st'.T.getD s .any).I7=(st.T.getD s .any).I7
 l6:st'.l6=d++st.l6
 H:∀id:Nat,d.any (Touch.F1 id)=F->A1≠J id->O7 st'.H[id]? st.H[id]?
 Gg:O st.H<=O st'.H
 gA:O st'.L=O st.L
 V2:O st'.T=O st.T
section
variable {k:Nat} {dst A1:Option Nat} {d d1 d2:List Touch} {st st1 st' :G5}
theorem Still.refl (k:Nat)(dst A1:Option Nat)(st:G5):Still k dst A1 [] st st :=
 ⟨λ_ _=>rfl,λ_ _ _=>Iff.rfl,λ_ _=>Iff.rfl,λ_ _=>rfl,rfl,λ_ _ _=>O7.refl _,k9 _,rfl,rfl⟩
theorem Still.trans (h:Still k dst A1 d1 st st1)(g:Still k dst A1 d2 st1 st'):Still k dst A1 (d2++d1) st st' where
 L m hm:=(g.L m hm).trans (h.L m hm)
 Gb m hm b:=(g.Gb m hm b).trans (h.Gb m hm b)
 Gt m hm:=(g.Gt m hm).trans (h.Gt m hm)
 T s hs:=(g.T s hs).trans (h.T s hs)
 l6:=by rw [g.l6,h.l6,F5]
 H id hd hn:=by
  simp only [List.any_append,B2] at hd;exact (g.H id hd.1 hn).trans (h.H id hd.2 hn)
 Gg:=o5 h.Gg g.Gg
 gA:=g.gA.trans h.gA
 V2:=g.V2.trans h.V2
theorem Still.put (v:c7):Still k dst A1 [] st (put st k v) where
 L m hm:=by grind [z6.put,L7]
 Gb m hm b:=by grind [z6.put,x5]
 Gt m hm:=by grind [z6.put,x5]
 T _ _:=rfl
 l6:=rfl
 H _ _ _:=O7.refl _
 Gg:=k9 _
 gA:=by simp [z6.put]
 V2:=rfl
def Still.A8 {j z n:Nat}{c:List Data}(hj:st.L[j]? =J (.own z n c)):Still k dst A1 [] st { st with L:=st.L.set j (.d (.slice n c)) } where
 L m _:=by
  by_cases e:j=m
  .subst e
   rw [L0 _ _ _ _ (y9 hj),Z3 hj];rfl
  simp_all
 Gb m _ b:=by
  grind
 Gt m _:=by
  grind
 T _ _:=rfl
 l6:=rfl
 H _ _ _:=O7.refl _
 Gg:=k9 _
 gA:=U
 V2:=rfl
theorem Still.E9 (y:A4):Still k dst A1 [] st (E9 st y).2:=by
 cases y with
 |loc j =>
  simp only [z6.E9];split
  next hj=>
   exact Still.A8 hj
  .exact Still.refl _ _ _ _
  .exact Still.refl _ _ _ _
 |slot s=>exact Still.refl _ _ _ _
 |const v=>exact Still.refl _ _ _ _
def Still.heap {H' :k8}(h2:∀id:Nat,d.any (Touch.F1 id)=F->A1≠J id->O7 H'[id]? st.H[id]?)(hl:O st.H<=O H'):Still k dst A1 d st { st with H:=H',l6:=d++st.l6 } :=
 ⟨λ_ _=>rfl,λ_ _ _=>Iff.rfl,λ_ _=>Iff.rfl,λ_ _=>rfl,rfl,h2,hl,rfl,rfl⟩
def Still.newObj {i:Nat}(o:x6):Still k dst (J i) [] st (D4 st (J i) o) :=
 ⟨λ_ _=>rfl,λ_ _ _=>Iff.rfl,λ_ _=>Iff.rfl,λ_ _=>rfl,rfl,λid _ hn=>by
  simp_all [D4,x5,O7.refl],(by simp [D4]),rfl,rfl⟩
theorem Still.X6 {l:G9}{sz len:Nat}{cells:List Data}{op:F6}(h:X6 l st sz op=J (len,cells,st')):∃d,Still k dst A1 d st st' :=by
 unfold z6.X6 at h;split at h
 next s=>
  split at h
  .cases h
  .split at h
   next hs=>
    split at h
    .cases h
     refine ⟨[.slot s],λ_ _=>rfl,λ_ _ _=>Iff.rfl,λ_ _=>Iff.rfl,λs' _=>?_,rfl,λ_ _ _=>O7.refl _,k9 _,rfl,U⟩
     by_cases e:s=s'
     .subst e
      rw [L0 _ _ _ _ (y9 hs),Z3 hs];rfl
     simp_all
    .cases h
   .cases h
 .split at h
  next id off PN=>
   split at h
   .cases h
   .split at h
    next cs hcs=>
     split at h
     next BX=>
      split at h
      .cases h
       refine ⟨[.cell id off],Still.heap (λid' _ _=>?_) U⟩
       by_cases he:id=id'
       .subst he
        rw [E6 (y9 hcs),hcs];apply List.ext_getElem?;intro n;simp only [List.getElem?_map]
        by_cases e:off=n
        .subst e
         rw [E6 (y9 BX),BX];rfl
        simp_all
       simp_all [x5,O7.refl]
      .cases h
     .cases h
    .cases h
  .cases h
 .cases h
theorem Still.P4 {l:G9}{j8:List x9}{sz len:Nat}{cells:List Data}{y:A4}(h:P4 l j8 st sz y=J (len,cells,st')):∃d,Still k dst A1 d st st' :=by
 unfold z6.P4 at h;split at h
 .split at h
  .cases h;exact ⟨[],Still.refl _ _ _ _⟩
  .cases h
 .cases h
 .cases h
 .split at h
  next hj=>
   split at h
   .cases h
    exact ⟨[],Still.A8 hj⟩
   .cases h
  .split at h
   .exact Still.X6 h
   .cases h
  .cases h
theorem Still.B9 {E:Env}{f:FuncId}{args:List c7}(h:B9 E k f args st=J st'):∃d,Still k dst K d st st' :=by
 unfold z6.B9 at h;split at h
 .split at h
  next v H1 _=>
   split at h
   next hlen=>
    cases h;refine ⟨[]++[.below (O H1)],Still.trans (Still.heap (λid hd _=>?_) hlen) (Still.put _)⟩
    grind [Touch.F1,List.getElem?_eq_none,O7.refl]
   .cases h
  .cases h
 .simp only at h
  generalize D7 st.H E.lim.strict 8 (A2 args)=n at h;generalize (args.headD .any).H7=m at h;split at h
  .split at h
   .split at h
    .split at h
     .cases h
      refine ⟨[]++[.below n],Still.trans (Still.heap (λid hd _=>?_) D) (Still.put _)⟩;simp_all [Touch.F1,x7,List.getElem?_drop,O7.refl]
     .cases h
    .cases h
   .split at h
    .split at h
     .cases h
      exact ⟨_,Still.put _⟩
     .cases h
    .cases h
   .split at h
    .split at h
     .cases h
      refine ⟨[]++[.below m],Still.trans (Still.heap (λid hd _=>?_) D) (Still.put _)⟩;simp_all [Touch.F1,x7,List.getElem?_drop,List.take,O7.refl]
     .cases h
    .cases h
  .cases h
def OD {H H' :k8}{id off:Nat}{vs:List c7}(h:wr H id off vs=J H'):O H'=O H:=by
 grind [wr]
theorem Still.P0 {E:Env}{n:Nat}{a:c7}{x:A4}(h:P0 E k n st a x=J st'):∃d,Still k dst K d st st' :=by
 unfold z6.P0 at h;split at h
 next id off=>
  split at h
  .split at h
   .split at h
    next H' hw=>
     cases h;refine ⟨[]++([.obj id]++[]),Still.trans (Still.trans (Still.E9 x) (Still.heap (λid' hd _=>?_) (by rw [OD hw];omega))) (Still.put _)⟩
     grind [qT,O7.refl,Touch.F1]
    .cases h
   .cases h
  .cases h
 .cases h
theorem Still.U5 {E:Env}{sz:Nat}{zero:List c7}{a:c7}(h:U5 E k sz zero st a=J st'):∃d,Still k dst K d st st' :=by
 unfold z6.U5 at h;split at h
 next id z lo len=>
  split at h
  .split at h
   next H' hw=>
    cases h;refine ⟨[]++[.obj id],Still.trans (Still.heap (λid' hd _=>?_) (by rw [OD hw];omega)) (Still.put _)⟩
    grind [qT,O7.refl,Touch.F1]
   .cases h
  .cases h
 .cases h
  exact ⟨_,Still.put _⟩
 .cases h
theorem Still.R7 {E:Env}{kk:KK}{m key v:c7}(h:R7 E k kk st m key v=J st'):∃d,Still k dst K d st st' :=by
 unfold z6.R7 at h;split at h
 next id kd _=>
  split at h
  .split at h
   .split at h
    .split at h
     .cases h
      refine ⟨[]++[.obj id],Still.trans (Still.heap (λid' hd _=>?_) U) (Still.put _)⟩;rw [x5]
      .exact O7.refl _
      .rintro rfl
       simp [Touch.F1] at hd
     .cases h
    .cases h
   .cases h
  .cases h
 .cases h
theorem Still.C7 {E:Env}{j8:List x9}{op:F6}(hk:F9 st op=F)(hn:A1.isSome=op.y3)(h:C7 E j8 A1 k st op=J st'):∃d,Still k dst A1 d st st' :=by
 cases op<;>simp only [z6.C7] at h<;>try (cases h;done)
 all_goals (simp only [F6.y3] at hn)
 case alloc zero =>
  obtain ⟨i,rfl⟩:=Option.isSome_iff_exists.1 hn;cases h;exact ⟨_,(Still.newObj _).trans (Still.put _)⟩
 case box x =>
  obtain ⟨i,rfl⟩:=Option.isSome_iff_exists.1 hn;split at h
  .cases h;exact ⟨_,(Still.newObj _).trans (Still.put _)⟩
  .cases h
 case ot x =>
  cases h;exact ⟨_,Still.put _⟩
 case own sz x =>
  split at h
  next ht=>
   obtain ⟨d,hd⟩:=Still.P4 (k:=k) (dst:=dst) (A1:=A1) ht;cases h;exact ⟨_,hd.trans (Still.put _)⟩
  .cases h
 case makeMap =>
  obtain ⟨i,rfl⟩:=Option.isSome_iff_exists.1 hn;cases h;exact ⟨_,(Still.newObj _).trans (Still.put _)⟩
 case gW sz zero x y =>
  obtain ⟨i,rfl⟩:=Option.isSome_iff_exists.1 hn;split at h
  .cases h;exact ⟨_,(Still.newObj _).trans (Still.put _)⟩
  .cases h
 case N5 sz len zero parts ob =>
  cases ob
  .cases h
  .obtain ⟨i,rfl⟩:=Option.isSome_iff_exists.1 hn
   simp only at h;split at h
   .split at h
    .cases h;exact ⟨_,(Still.newObj _).trans (Still.put _)⟩
    .cases h
   .cases h
 case store n a x =>
  have:A1=K:=by simpa using hn
  subst this;exact Still.P0 h
 case M7 sz bytes x y =>
  have:A1=K:=by simpa using hn
  subst this;obtain ⟨s,hs,rfl⟩:=kT h;have hnew:∀(H' :k8) (o:x6) (X1 :List Touch) (d:List Touch) (v:c7),X1 =d++st.l6->O H'=O st.H->(∀id:Nat,d.any (Touch.F1 id)=F->O7 H'[id]? st.H[id]?) ->
    ∃d',Still k dst K d' st { (z6.put (D4 { st with H:=H',l6:=X1 } K o) k v) with l6:= .obj (O st.H)::X1 }:=by
   intro H' o X1 d v ht hl hH;subst ht;refine ⟨[]++(.obj (O st.H)::d),Still.trans (Still.heap (H' :=H' ++[o]) (λid hd _=>?_) (by simp [hl])) (Still.put v)⟩;simp only [List.any_cons,B2] at hd;have hne:id≠O st.H:=by rintro rfl;simp [Touch.F1] at hd
   rcases y8 id (O st.H) with h1|h1
   .rw [y7 V]
    exact hH id hd.2
   .rw [List.getElem?_eq_none D,List.getElem?_eq_none h1]
    exact O7.refl _
  split at hs
  .split at hs
   next id _ _ _ _ _=>
    unfold z6.Q7 at hs;split at hs
    .split at hs
     .split at hs
      .cases hs
       exact hnew _ _ _ [.obj id] _ rfl U λid' hd=>by
        rw [x5]
        .exact O7.refl _
        .rintro rfl
         simp [Touch.F1] at hd
      .cases hs
     .cases hs
    .cases hs
   .cases hs
  .unfold z6.J7 at hs
   simp only [if_true] at hs;split at hs
   .split at hs
    .split at hs
     .cases hs
      exact ⟨[]++[.obj (O st.H)],Still.trans (Still.heap (H' :=st.H) (λ_ _ _=>O7.refl _) (k9 _)) (Still.put _)⟩
     .cases hs
      exact hnew st.H _ st.l6 [] _ rfl rfl λ_ _=>O7.refl _
    .cases hs
   .cases hs
 case append sz bytes ob x y =>
  split at h
  next hx=>
   simp [F9,hx] at hk
  .cases ob with
   |true =>
    obtain ⟨i,rfl⟩:=Option.isSome_iff_exists.1 hn;unfold z6.J7 at h;simp only [if_true] at h;split at h
    .split at h
     .split at h
      .cases h;exact ⟨_,Still.put _⟩
      .cases h;exact ⟨_,(Still.newObj _).trans (Still.put _)⟩
     .cases h
    .cases h
   |false =>
    have:A1=K:=by simpa using hn
    subst this;unfold z6.J7 at h;simp only [j6,if_false] at h;split at h
    .split at h
     .split at h
      next ht=>
       split at h
       .cases h
        obtain ⟨d,hd⟩:=Still.P4 (k:=k) (dst:=dst) (A1:=K) ht;exact ⟨_,hd.trans (Still.put _)⟩
       .cases h
      .cases h
     .cases h
    .cases h
 case clear sz zero x =>
  have:A1=K:=by simpa using hn
  subst this;exact Still.U5 h
 case call f xs =>
  have:A1=K:=by simpa using hn
  subst this;exact Still.B9 h
 case bV x xs =>
  have:A1=K:=by simpa using hn
  subst this;split at h
  .exact Still.B9 h
  .cases h
 case dU =>
  have:A1=K:=by simpa using hn
  subst this;exact Still.R7 h
 case defer x =>
  split at h
  .split at h
   .cases h;exact ⟨_,Still.put _⟩
   .cases h
  .cases h
theorem Still.D5 {au4 :Option Nat}(h:s6 au4 st k dst=J st'):∃d,Still k dst A1 d st st' :=by
 rcases Q2 h with ⟨_,rfl⟩|⟨s,l6,rfl,_,rfl,FY⟩
 .exact ⟨_,Still.refl _ _ _ _⟩
 .have hx:=Still.E9 (k:=k) (dst:=J s) (A1:=A1) (st:=st) (.loc k)
  have key:∀d,l6=d++st.l6->Still k (J s) A1 d st { (z6.E9 st (.loc k)).2 with T:=st.T.set s (z6.E9 st (.loc k)).1,l6 }:=by
   intro d hd;refine ⟨hx.L,hx.Gb,hx.Gt,λs' hs=>?_,hd,λid _ hn=>hx.H id rfl hn,hx.Gg,hx.gA,U⟩;simp_all
  rcases FY with rfl|⟨rfl,_⟩
  .exact ⟨[.slot s],key _ rfl⟩
  .exact ⟨[],key _ rfl⟩
theorem Still.x8 {E:Env}{j8:List x9}{i:x9}{rs:List Nat}(hk:F9 st i.op=F)(hn:A1.isSome=i.op.y3)(h:x8 E j8 A1 k i st=J (st',rs)):∃d,Still k i.dst A1 d st st' :=by
 unfold z6.x8 at h;split at h
 .split at h
  next st1 Zg hW=>
   split at h
   next st2 hts=>
    cases h;have h1:∃d,Still k i.dst A1 d st st1:=by
     unfold z6.B4 at hW;split at hW
     .split at hW
      next he=>
       cases hW;exact Still.C7 hk hn he
      .cases hW
     .split at hW
      .cases hW
       exact ⟨_,(Still.E9 _).trans (Still.put _)⟩
      .split at hW
       .cases hW
        exact ⟨_,Still.put _⟩
       .cases hW
    obtain ⟨d1,h1⟩:=h1;obtain ⟨d2,h2⟩:=Still.D5 (A1:=A1) hts;exact ⟨_,h1.trans h2⟩
   .cases h
  .cases h
 .split at h
  next hts=>
   cases h;obtain ⟨d2,h2⟩:=Still.D5 (A1:=A1) hts;exact ⟨_,(Still.put _).trans h2⟩
  .cases h
 .cases h
theorem Still.F7 (h:Still k dst A1 d st st'){x:A4}(hl:k∉x.bf)(ht:∀s,s∈x.slots->dst≠J s):F7 st'.T st'.L x=F7 st.T st.L x:=by
 cases x with
 |loc j =>
  exact h.L j (λe=>hl (by simp [A4.bf,e]))
 |slot s =>
  exact h.T s (ht s (by simp [A4.slots]))
 |const v=>rfl
def Still.wanted (h:Still k dst A1 d st st'){g:Option (Nat×Bool)}(hg:∀j b,g=J (j,b)->j≠k):y6 st'.L g=y6 st.L g:=by
 cases g with
 |none=>rfl
 |some p =>
  obtain ⟨j,want⟩:=p;have hj:=hg j want rfl;have h1:=h.Gb j hj;have h2:=h.Gt j hj
  grind [y6,absurd]
theorem Still.Di {E:Env}{i:x9}{rs:List Nat}(h:Still k dst A1 d st st'):(T6 E i A1 st st' rs).Di=Y3 A1++d:=by
 simp only [T6,h.l6];simp
def Still.reads {E:Env}{i:x9}{rs:List Nat}(h:Still k dst A1 d st st'){ids:List Nat}(hh:F3 (T6 E i A1 st st' rs).Di ids=F){id:Nat}(hid:id∈ids):O7 st'.H[id]? st.H[id]? :=by
 rw [h.Di] at hh;unfold F3 at hh;have hno:∀t,t∈(Y3 A1++d:List Touch)->t.F1 id=F:=by
  grind
 refine h.H id ?_ ?_
 all_goals grind [List.any_eq_false,Y3,Touch.F1]
end
end Go.z6
namespace Go.z6
variable [D6]
section
variable {E:Env} {j8:List x9} {A1:Option Nat} {k q:Nat} {v:c7} {st st1 st2 st' :G5}
theorem mU {x:A4}(h:q∉x.bf):F7 (put st q v).T (put st q v).L x=F7 st.T st.L x:=by
 simp_all [F7,put,A4.bf]<;>grind
theorem put_comm (h:q≠k)(u:c7):put (put st q v) k u=put (put st k u) q v:=by
 simp_all [put,List.set_comm]
theorem jZ {l:List c7}{q j:Nat}(h:q≠j)(v:c7):(l.set q v)[j]? =l[j]? :=x5 h
def xX {x:A4}(h:q∉x.bf):E9 (put st q v) x=((E9 st x).1,put (E9 st x).2 q v):=by
 cases x with
 |loc j =>
  grind [A4.bf,E9,put,jZ,F7,List.getD,List.set_comm]
 |slot s=>rfl
 |const c=>rfl
theorem cw (o:x6):D4 (put st q v) A1 o=put (D4 st A1 o) q v:=by cases A1<;>rfl
theorem fU:newId (put st q v) A1=newId st A1:=rfl
def Ag {x:A4}(h:q∉x.bf):Z9 (put st q v) x=Z9 st x:=by
 simp_all [A4.bf,Z9,put]<;>grind
def EK {l:G9}{sz:Nat}{op:F6}(h:q∉op.N6.flatMap A4.bf):X6 l (put st q v) sz op=(X6 l st sz op).map λp=>(p.1,p.2.1,put p.2.2 q v):=by
 unfold X6;split
 .have e1:(put st q v).l6=st.l6:=rfl
  have e2:(put st q v).T=st.T:=rfl;simp [e1,e2];split
  .rfl
  .split
   .split
    all_goals rfl
   .rfl
 next x=>
  have hx:q∉x.bf:=λe=>h (by simp [F6.N6,e])
  rw [Ag hx];have e1:(put st q v).l6=st.l6:=rfl;have e2:(put st q v).H=st.H:=rfl;split
  .simp [e1,e2]
   split
   .rfl
   .split
    .split
     .split
      all_goals rfl
     .rfl
    .rfl
  .rfl
 .rfl
def tX {l:G9}{sz:Nat}{x:A4}(h:q∉x.bf)(h2:∀j a,x= .loc j->j8[j]? =J a->q∉a.op.N6.flatMap A4.bf) :
  P4 l j8 (put st q v) sz x=(P4 l j8 st sz x).map λp=>(p.1,p.2.1,put p.2.2 q v):=by
 cases x with
 |const c =>
  unfold P4;cases c<;>first|rfl|skip
  simp_all
 |slot s=>rfl
 |loc j =>
  have hj:q≠j:=λe=>h (by simp [A4.bf,e])
  have e:(put st q v).L[j]? =st.L[j]? :=by simp_all [put,jZ]
  simp [P4];rw [e];cases hl:st.L[j]? with
  |none=>rfl
  |some b =>
   cases b with
   |own z len cells =>
    grind [put,List.set_comm]
   |d x =>
    cases x with
    |slice n c =>
     cases ha:j8[j]? with
     |none=>rfl
     |some a=>simp_all [EK]
    |_=>rfl
   |_=>rfl
def sO (h:q≠k){f:FuncId}{args:List c7}:B9 E k f args (put st q v)=(B9 E k f args st).map λs=>put s q v:=by
 have e1:(put st q v).H=st.H:=rfl;have e2:(put st q v).l6=st.l6:=rfl;have key:∀(H:k8) (t:List Touch) (u:c7),put { put st q v with H:=H,l6:=t } k u=put (put { st with H:=H,l6:=t } k u) q v:=by
  simp_all [put,List.set_comm]
 unfold B9;simp [e1];split
 .split
  all_goals simp_all
 .split
  .split
   .split
    all_goals simp_all
   .split
    all_goals simp_all
   .split
    all_goals simp_all
  .rfl
def BQ (h:q≠k){n:Nat}{a:c7}{x:A4}(hx:q∉x.bf):P0 E k n (put st q v) a x=(P0 E k n st a x).map λs=>put s q v:=by
 unfold P0;simp [xX hx];cases a with
 |ptr id off =>
  simp only;split
  .split
   .have e:(put (E9 st x).2 q v).H=(E9 st x).2.H:=rfl
    split
    all_goals simp_all [put,B8,List.set_comm]
   .rfl
  .rfl
 |_=>rfl
def AP (h:q≠k){sz:Nat}{zero:List c7}{a:c7}:U5 E k sz zero (put st q v) a=(U5 E k sz zero st a).map λs=>put s q v:=by
 have e:(put st q v).H=st.H:=rfl;unfold U5;split
 .split
  .split
   all_goals grind [put,List.set_comm]
  .rfl
 all_goals grind [put_comm]
def yL (h:q≠k){kk:KK}{m key x:c7}:R7 E k kk (put st q v) m key x=(R7 E k kk st m key x).map λs=>put s q v:=by
 have e:(put st q v).H=st.H:=rfl;unfold R7;split
 .rw [e]
  split
  .split
   .split
    .split
     .simp only [put,B8]
      congr 2
      exact List.set_comm _ _ h
     .rfl
    .rfl
   .rfl
  .rfl
 .rfl
theorem Gl {l:G9}{op:F6}(h:q∉op.N6.flatMap A4.bf):fm l (put st q v) op=fm l st op:=by
 unfold fm;split
 .rfl
 next x=>
  have hx:q∉x.bf:=λe=>h (by simp [F6.N6,e])
  rw [Ag hx];rfl
 .rfl
def JB {l:G9}{x:A4}(h:q∉x.bf)(h2:∀j a,x= .loc j->j8[j]? =J a->q∉a.op.N6.flatMap A4.bf):isNil l j8 (put st q v) x=isNil l j8 st x:=by
 cases x with
 |const c=>cases c<;>rfl
 |slot s=>rfl
 |loc j =>
  grind [A4.bf,put,jZ,isNil,Gl]
def nF (h:q≠k){sz bytes:Nat}{ob:Bool}{x:A4}{y:c7}(hx:q∉x.bf)(h2:∀j a,x= .loc j->j8[j]? =J a->q∉a.op.N6.flatMap A4.bf) :
  J7 E j8 A1 k sz bytes ob (put st q v) x y=(J7 E j8 A1 k sz bytes ob st x y).map λs=>put s q v:=by
 have e:(put st q v).H=st.H:=rfl;unfold J7;rw [e,JB hx h2,tX hx h2];split
 .split
  .grind [put_comm,cw,fU]
  .split
   all_goals grind [P4,put_comm]
 .rfl
theorem L9 {i:x9}{x:A4}(hx:x∈i.op.N6)(h:q∉bD j8 i):q∉x.bf:=by
 simp_all [bD,F5,List.mem_append_left,List.mem_flatMap]
def bI {i:x9}{g:Nat}{b:Bool}(hg:i.guard=J (g,b))(h:q∉bD j8 i):g≠q:=by
 grind [bD]
def yM {i:x9}{sz bytes:Nat}{ob:Bool}{x y:A4}(hop:i.op= .append sz bytes ob x y)(h:q∉bD j8 i):∀j a,x= .loc j->j8[j]? =J a->q∉a.op.N6.flatMap A4.bf:=by
 grind [bD,List.mem_append_right]
def wM {i:x9}{sz bytes:Nat}{x y:A4}(hop:i.op= .M7 sz bytes x y)(h:q∉bD j8 i):∀j a,x= .loc j->j8[j]? =J a->q∉a.op.N6.flatMap A4.bf:=by
 rintro j a rfl ha hq;apply h;unfold bD;rw [hop];simp only [ha];exact List.mem_append_right _ hq
def wN {i:x9}{sz:Nat}{x:A4}(hop:i.op= .own sz x)(h:q∉bD j8 i):∀j a,x= .loc j->j8[j]? =J a->q∉a.op.N6.flatMap A4.bf:=by
 rintro j a rfl ha hq;apply h;unfold bD;rw [hop];simp only [ha];exact List.mem_append_right _ hq
def yw (h:q≠k){sz bytes id lo len:Nat}{y:c7}:Q7 E A1 k sz bytes (put st q v) id lo len y=(Q7 E A1 k sz bytes st id lo len y).map λs=>put s q v:=by
 unfold Q7;split
 .have e1:(put st q v).H=st.H:=rfl
  have e2:newId (put st q v) A1=newId st A1:=by cases A1<;>rfl
  rw [e1,e2];split
  .split
   .simp only [B8,Option.some.injEq]
    rw [<- put_comm h];cases A1<;>rfl
   .rfl
  .rfl
 .rfl
def Cg (st:G5)(op:F6)(v:c7):Prop:=∀sz AL ob x y id z lo n,op= .append sz AL ob x y->F7 st.T st.L x= .s5 id z lo n->v.kill id=v
def Cg.of {op:F6}(h:F9 st op=F):Cg st op v:=λ_ _ _ _ _ _ _ _ _ e hx=>by subst e;simp [F9,hx] at h
theorem zR (id:Nat):∀(l:List c7) (j:Nat) (x:c7),L3 id (l.set j x)=(L3 id l).set j (x.kill id)
 |[],_,_=>rfl
 |a::l,0,x=>rfl
 |a::l,j+1,x=>by simp only [o7,L3,zR id l j x]
def yx (h:q≠k){sz bytes id lo len:Nat}{y:c7}(hv:v.kill id=v):S7 E k sz bytes (put st q v) id lo len y=(S7 E k sz bytes st id lo len y).map λs=>put s q v:=by
 unfold S7;split
 .have e1:(put st q v).H=st.H:=rfl
  rw [e1];split
  .split
   .simp only [B8,Option.some.injEq]
    rw [<- put_comm h];simp only [put,zR,hv]
   .rfl
  .rfl
 .rfl
def Jb {i:x9}(h:q≠k)(hu:q∉bD j8 i)(hk:Cg st i.op v):C7 E j8 A1 k (put st q v) i.op=(C7 E j8 A1 k st i.op).map λs=>put s q v:=by
 have hρ:∀x,x∈i.op.N6->F7 (put st q v).T (put st q v).L x=F7 st.T st.L x:=λx hx=>mU (L9 hx hu)
 cases hop:i.op<;>simp only [hop,F6.N6] at hρ<;>simp only [C7]<;>try rfl
 case alloc zero=>simp only [cw,fU,put_comm h,B8]
 case box x =>
  rw [hρ x U];split
  .simp only [cw,fU,put_comm h,B8]
  .rfl
 case makeMap=>simp only [cw,fU,put_comm h,B8]
 case ot x=>simp only [put_comm h,B8]
 case gW sz zero x y =>
  rw [hρ x U,hρ y U];split
  .simp only [cw,fU,put_comm h,B8]
  .rfl
 case N5 sz len zero parts ob =>
  cases ob
  .rfl
  .have e:(parts.map λx=>(x.1,x.2.1,F7 (put st q v).T (put st q v).L x.2.2))=(parts.map λx=>(x.1,x.2.1,F7 st.T st.L x.2.2)):=hU hρ
   simp only [e];cases U2 zero (parts.map λx=>(x.1,x.2.1,F7 st.T st.L x.2.2)) with
   |none=>rfl
   |some cs =>
    simp only;split
    .simp only [cw,fU,put_comm h,B8]
    .rfl
 case store n a x =>
  rw [hρ a U];exact BQ h (L9 (by simp [hop,F6.N6]) hu)
 case append sz bytes ob x y =>
  rw [hρ x U,hρ y U];split
  next hx=>
   split
   .exact yx h (hk _ _ _ _ _ _ _ _ _ hop hx)
   .rfl
  .exact nF h (L9 (by simp [hop,F6.N6]) hu) (yM hop hu)
 case M7 sz bytes x y =>
  rw [hρ x U,hρ y U];have key:∀r r2:Option G5,r2=r.map (λs=>put s q v)->dI (put st q v) r2=(dI st r).map λs=>put s q v:=by
   rintro r _ rfl;cases r<;>rfl
  refine key _ _ ?_;split
  .split
   .exact yw h
   .rfl
  .exact nF h (L9 (by simp [hop,F6.N6]) hu) (wM hop hu)
 case own sz x =>
  rw [tX (L9 (by simp [hop,F6.N6]) hu) (wN hop hu)];cases P4 E.lim j8 st sz x with
  |none=>rfl
  |some p =>
   obtain ⟨len,cells,s1⟩:=p;simp only [B8,put_comm h]
 case clear sz zero x =>
  rw [hρ x U];exact AP h
 case call f xs =>
  rw [R9 hρ];exact sO h
 case bV x xs =>
  rw [hρ x U,R9 (l:=xs) λy hy=>hρ y (by simp [hy])];split
  .exact sO h
  .rfl
 case dU kk m key x =>
  rw [hρ m U,hρ key U,hρ x U];exact yL h
 case defer x =>
  rw [hρ x U];split
  .split
   .simp only [put_comm h,B8]
   .rfl
  .rfl
def xJ (h:q≠k){dst:Option Nat}:s6 A1 (put st q v) k dst=(s6 A1 st k dst).map λs=>put s q v:=by
 have hx:q∉(A4.loc k).bf:=by grind [A4.bf]
 have e1:(put st q v).T=st.T:=rfl;have e2:(put st q v).l6=st.l6:=rfl;cases A1<;>cases dst<;>simp [s6,D5,R4,xX hx,e1]<;>first|rfl|(split<;>rfl)
def wanted_put {g:Option (Nat×Bool)}(h:∀j b,g=J (j,b)->j≠q):y6 (put st q v).L g=y6 st.L g:=by
 cases g with
 |none=>rfl
 |some p =>
  grind [y6,put,jZ]
def fV {i:x9}(h:q≠k)(hu:q∉bD j8 i)(hk:Cg st i.op v):x8 E j8 A1 k i (put st q v)=(x8 E j8 A1 k i st).map λp=>(put p.1 q v,p.2):=by
 have hρ:∀x,x∈i.op.N6->F7 (put st q v).T (put st q v).L x=F7 st.T st.L x:=λx hx=>mU (L9 hx hu)
 have hW:B4 E j8 A1 k i.op (put st q v)=(B4 E j8 A1 k i.op st).map λp=>(put p.1 q v,p.2):=by
  unfold B4;split
  .rw [Jb h hu hk]
   cases C7 E j8 A1 k st i.op<;>rfl
  .cases hop:i.op with
   |dV x =>
    simp only [xX (L9 (x:=x) (by simp [hop,F6.N6]) hu),put_comm h,B8]
   |_ =>
    simp only;rw [<- hop,jV hρ];have e:(put st q v).H=st.H:=rfl;rw [e];cases hp:l5 (F7 st.T st.L) st.H i.op with
    |none=>rfl
    |some p=>simp only [put_comm h,B8]
 unfold x8;rw [wanted_put (λj b hg=>bI hg hu),hW];split
 .cases hp:B4 E j8 A1 k i.op st with
  |none=>rfl
  |some p =>
   obtain ⟨s1,rs⟩:=p;simp only [B8];rw [xJ h];cases s6 A1 s1 k i.dst<;>rfl
 .rw [put_comm h,xJ h]
  cases s6 A1 (put st k (.tuple [])) k i.dst<;>rfl
 .rfl
def O9 (st:G5)(i:Nat)(o:x6):G5:={ st with H:=st.H.set i o }
theorem mC {H:k8}{n i:Nat}{o:x6}(h:n<=i):(H.set i o).take n=H.take n:=List.take_set_of_le h
theorem zT (H:k8)(s:Nat):∀(j m:Nat),m<=D7 H s j m
 |0,m=>by simp [D7]
 |j+1,m=>by
  unfold D7;split
  .omega
  .simp only
   split
   .omega
   .exact o5 (Nat.le_max_left _ _) (zT H s j _)
theorem gb (H:k8)(s i:Nat)(o:x6):∀(j n:Nat),D7 H s j n<=i->D7 (H.set i o) s j n=D7 H s j n
 |0,n,_=>rfl
 |j+1,n,h=>by
  have hn:n<=i:=o5 (zT H s (j+1) n) h;unfold D7 at h ⊢;split
  .rfl
  next aO=>
   rw [if_neg aO] at h;simp [mC hn] at h ⊢;split
   .rfl
   next hm=>
    rw [if_neg hm] at h;exact gb H s i o j _ h
def sU (H:k8)(s i:Nat)(o:x6)(j n:Nat)(h:D7 (H.set i o) s j n<=i):D7 H s j n=D7 (H.set i o) s j n:=by
 rcases y8 i (O H) with hi|hi
 .have:=gb (H.set i o) s i H[i] j n h
  simp_all
 .rw [List.set_eq_of_length_le hi]
def BR {H:k8}{s n i:Nat}{o:x6}(h:n<=i):B1 (H.set i o) s n=B1 H s n:=by
 grind [B1,mC]
def CU {H:k8}{n i:Nat}{o:x6}(h:n<=i):(H.set i o).drop n=(H.drop n).set (i - n) o:=by
 apply List.ext_getElem?
 grind
theorem uY {A H:k8}{n i:Nat}{o:x6}(ha:O A=n)(h:n<=i):A++(H.set i o).drop n=(A++H.drop n).set i o:=by
 simp_all [CU,List.set_append,if_neg]
def pE {f:FuncId}{args:List c7}{i:Nat}{o:x6}(hi:i<O st.H)(hs:(if E.prom f then O st.H else D7 st.H E.lim.strict 8 (A2 args))<=i) :
  B9 E k f args (O9 st i o)=(B9 E k f args st).map λs=>O9 s i o:=by
 have e1:(O9 st i o).H=st.H.set i o:=rfl;have e2:(O9 st i o).l6=st.l6:=rfl;unfold B9;simp [e1]
 by_cases hp:E.prom f=W
 .grind
 .rw [if_neg hp] at hs
  rw [if_neg hp,if_neg hp,gb _ _ _ _ _ _ hs];simp [mC hs,BR hs,List.length_set];split
  .split
   .split
    all_goals simp_all [B8,put,O9,uY]
   .split
    .split
     all_goals rfl
    .rfl
   .split
    all_goals grind [put,O9,uY,o5]
  .rfl
def tY {dst:Option Nat}{i:Nat}{o:x6}:s6 A1 (O9 st i o) k dst=(s6 A1 st k dst).map λs=>O9 s i o:=by
 have hx:E9 (O9 st i o) (.loc k)=((E9 st (.loc k)).1,O9 (E9 st (.loc k)).2 i o):=by
  grind [E9,O9]
 have e1:(O9 st i o).T=st.T:=rfl;have e2:(O9 st i o).l6=st.l6:=rfl;cases A1<;>cases dst<;>simp [s6,D5,R4,hx,e1]<;>first|rfl|(split<;>rfl)
def ny (i:x9):Bool:=match i.op with
 | .call .. =>W
 | .bV .. =>W
 |_=>F
def pO (j8:List x9)(i:x9):Bool:=match i.op with
 | .M7 _ _ (.loc j) _=>(match j8[j]? with
  |some a=>(match a.op with
   | .N5 .. =>W
   |_=>F)
  |none=>F)
 |_=>F
def vG {i:x9}(h:pO j8 i=W):∃sz AL j y a,i.op= .M7 sz AL (.loc j) y/\j8[j]? =J a/\∀l st,fm l st a.op=F:=by
 unfold pO at h;split at h
 next sz AL j y hop=>
  split at h
  next a ha=>
   split at h
   next hb=>
    exact ⟨_,_,_,_,a,hop,ha,λl st=>by rw [hb];rfl⟩
   .cases h
  .cases h
 .cases h
def zM {l:G9}{st2:G5}{j:Nat}{a:x9}(ha:j8[j]? =J a)(hn:∀l st,fm l st a.op=F)(hL:st2.L[j]? =st.L[j]?):isNil l j8 st2 (.loc j)=isNil l j8 st (.loc j):=by
 simp only [isNil,hL,ha,hn]
def jh {α β:Type}{c:Prop} [Decidable c] (g:α->β){a:Option α}{b:Option β}(h:b=a.map g):(if c then b else K)=(if c then a else K).map g:=by
 subst h
 by_cases hc:c<;>simp [hc]
def mj {H:k8}{sz m:Nat}{o:x6}{y:c7}(h:y.H7<=m):B5 (H.set m o) sz y=B5 H sz y:=by
 cases y
 case s5 id z lo len =>
  simp only [c7.H7] at h;simp only [B5,rd];rw [x5 V]
 case d x=>cases x<;>rfl
 all_goals rfl
def IZ {sz bytes j m:Nat}{y:A4}{o:x6}{a:x9}(ha:j8[j]? =J a)(hn:∀l st,fm l st a.op=F)(hm:m<O st.H)(hs:max (F7 st.T st.L (.loc j)).H7 (F7 st.T st.L y).H7<=m) :
  C7 E j8 A1 k (O9 st m o) (.M7 sz bytes (.loc j) y)=(C7 E j8 A1 k st (.M7 sz bytes (.loc j) y)).map λs=>O9 s m o:=by
 have e:∀x,F7 (O9 st m o).T (O9 st m o).L x=F7 st.T st.L x:=λ_=>rfl
 have e1:(O9 st m o).H=st.H.set m o:=rfl;have e2:newId (O9 st m o) K=newId st K:=by simp [newId,O9]
 simp only [C7,e];have key:∀r r2:Option G5,r2=r.map (λs=>O9 s m o)->dI (O9 st m o) r2=(dI st r).map λs=>O9 s m o:=by
  rintro r _ rfl;cases r with
  |none=>rfl
  |some s=>simp [dI,O9]
 refine key _ _ ?_;split
 next id z lo len hx=>
  rw [hx] at hs;simp only [c7.H7] at hs;refine jh _ ?_;unfold Q7;rw [e1,x5 (show m≠id by omega),mj V,e2];refine jh _ ?_;cases h1:st.H[id]? with
  |none=>rfl
  |some ob =>
   cases ob with
   |cells l =>
    cases h2:B5 st.H sz (F7 st.T st.L y) with
    |none=>rfl
    |some p =>
     refine jh _ ?_;simp only [B8,Option.some.injEq,put,D4,O9,newId,List.length_set,Option.getD_none];rw [List.set_append_left _ _ (by simpa using hm),List.set_comm _ _ (show m≠id by omega)]
   |_=>rfl
 .unfold J7
  rw [e1,mj V,zM (st:=st) (st2:=O9 st m o) ha hn rfl];cases h2:B5 st.H sz (F7 st.T st.L y) with
  |none=>rfl
  |some p =>
   obtain ⟨m',cs⟩:=p;simp only [if_true]
   by_cases hc:isNil E.lim j8 st (.loc j)=W/\roomFor m' bytes=W/\0<sz
   case neg=>simp only [hc,if_false,Option.map_none]
   simp only [hc,and_self,if_true]
   by_cases h0:m' =0
   .simp only [h0,if_true];rfl
   .simp only [h0,if_false,B8,Option.some.injEq,put,D4,O9,newId,List.length_set,Option.getD_none]
    rw [List.set_append_left _ _ hm]
def nU {i:x9}{m:Nat}{o:x6}(hW:B4 E j8 A1 k i.op (O9 st m o)=(B4 E j8 A1 k i.op st).map λp=>(O9 p.1 m o,p.2)):x8 E j8 A1 k i (O9 st m o)=(x8 E j8 A1 k i st).map λp=>(O9 p.1 m o,p.2):=by
 unfold x8;have e3:y6 (O9 st m o).L i.guard=y6 st.L i.guard:=rfl;rw [e3,hW];split
 .cases hp:B4 E j8 A1 k i.op st with
  |none=>rfl
  |some p =>
   obtain ⟨s1,rs⟩:=p;simp only [B8];rw [tY];cases s6 A1 s1 k i.dst<;>rfl
 .have e4:put (O9 st m o) k (.tuple [])=O9 (put st k (.tuple [])) m o:=rfl
  rw [e4,tY];cases s6 A1 (put st k (.tuple [])) k i.dst<;>rfl
 .rfl
def EB {i:x9}{m:Nat}{o:x6}(hc:pO j8 i=W)(hi:m<O st.H)(hs:G8 E st i.op<=m):x8 E j8 A1 k i (O9 st m o)=(x8 E j8 A1 k i st).map λp=>(O9 p.1 m o,p.2):=by
 obtain ⟨sz,AL,j,y,a,hop,ha,hn⟩:=vG hc;refine nU ?_;rw [hop] at hs ⊢;simp only [B4,F6.B3,if_true];rw [IZ ha hn hi hs];cases C7 E j8 A1 k st (.M7 sz AL (.loc j) y)<;>rfl
def GF {i:x9}{m:Nat}{o:x6}(hc:ny i=W)(hi:m<O st.H)(hs:G8 E st i.op<=m):x8 E j8 A1 k i (O9 st m o)=(x8 E j8 A1 k i st).map λp=>(O9 p.1 m o,p.2):=by
 have hW:B4 E j8 A1 k i.op (O9 st m o)=(B4 E j8 A1 k i.op st).map λp=>(O9 p.1 m o,p.2):=by
  unfold ny at hc;unfold B4;have e:∀x,F7 (O9 st m o).T (O9 st m o).L x=F7 st.T st.L x:=λ_=>rfl
  split at hc
  next f xs hop=>
   rw [hop] at hs ⊢;simp only [F6.B3,if_true,C7];have:B9 E k f (xs.map (F7 (O9 st m o).T (O9 st m o).L)) (O9 st m o)=(B9 E k f (xs.map (F7 st.T st.L)) st).map λs=>O9 s m o:=pE hi hs
   rw [this];cases B9 E k f (xs.map (F7 st.T st.L)) st<;>rfl
  next x xs hop=>
   rw [hop] at hs ⊢;simp only [F6.B3,if_true,C7];rw [e x];simp only [G8] at hs;cases hx:F7 st.T st.L x with
   |func f first caps =>
    rw [hx] at hs;simp only at hs ⊢;have:B9 E k f (first++xs.map (F7 (O9 st m o).T (O9 st m o).L)++caps) (O9 st m o)=(B9 E k f (first++xs.map (F7 st.T st.L)++caps) st).map λs=>O9 s m o:=pE hi hs
    rw [this];cases B9 E k f (first++xs.map (F7 st.T st.L)++caps) st<;>rfl
   |_=>rfl
  .cases hc
 exact nU hW
def Kg {i:x9}{m:Nat}{o:x6}(hs:G8 E (O9 st m o) i.op<=m):G8 E st i.op=G8 E (O9 st m o) i.op:=by
 have e:∀x,F7 (O9 st m o).T (O9 st m o).L x=F7 st.T st.L x:=λ_=>rfl
 have e1:(O9 st m o).H=st.H.set m o:=rfl;cases hop:i.op<;>rw [hop] at hs<;>simp only [G8] at hs ⊢
 case call f xs =>
  simp only [e1,List.length_set] at hs ⊢
  by_cases hp:E.prom f=W
  .rw [if_pos hp,if_pos hp]
  .rw [if_neg hp] at hs ⊢
   rw [if_neg hp];exact sU _ _ _ _ _ _ hs
 case bV x xs =>
  simp only [e x,e1,List.length_set] at hs ⊢;split at hs
  next f first caps hx=>
   by_cases hp:E.prom f=W
   .simp only [hp,if_true]
   .rw [if_neg hp] at hs ⊢
    rw [if_neg hp];exact sU _ _ _ _ _ _ hs
  .rfl
 case M7=>rfl
def Q8 (s:G5)(dst:Option Nat)(u:c7):G5:=match dst with
 |none=>s
 |some t=>{ s with T:=s.T.set t u }
def xq (s:G5)(dst:Option Nat)(u:c7):(Q8 s dst u).L=s.L:=by cases dst<;>rfl
def sr (s:G5)(dst:Option Nat)(u:c7):(Q8 s dst u).H=s.H:=by cases dst<;>rfl
def NR (s:G5)(dst:Option Nat)(u:c7):(Q8 s dst u).l6=s.l6:=by cases dst<;>rfl
def Aj (s:G5)(dst:Option Nat)(u:c7):O (Q8 s dst u).T=O s.T:=by cases dst<;>simp [Q8]
theorem mc {s:G5}{dst:Option Nat}{u:c7}{x:A4}(h:∀t,dst=J t->t∉x.slots):F7 (Q8 s dst u).T (Q8 s dst u).L x=F7 s.T s.L x:=by
 simp_all [F7,Q8,A4.slots]<;>grind
def pG {f:FuncId}{args:List c7}{dst:Option Nat}{u:c7}:B9 E k f args (Q8 st dst u)=(B9 E k f args st).map λs=>Q8 s dst u:=by
 cases dst with
 |none=>grind [Q8,B9]
 |some t =>
  unfold B9;have e1:(Q8 st (J t) u).H=st.H:=rfl;have e2:(Q8 st (J t) u).l6=st.l6:=rfl;simp [e1];split
  .split
   .split<;>rfl
   .rfl
  .split
   .split
    .split
     .split<;>rfl
     .rfl
    .split
     .split<;>rfl
     .rfl
    .split
     .split<;>rfl
     .rfl
   .rfl
def tZ {dst dst' :Option Nat}{u:c7}(h:∀s,dst=J s->dst' ≠J s):s6 A1 (Q8 st dst' u) k dst=(s6 A1 st k dst).map λs=>Q8 s dst' u:=by
 cases dst' with
 |none=>simp_all [Q8,s6]
 |some t =>
  have hx:E9 (Q8 st (J t) u) (.loc k)=((E9 st (.loc k)).1,Q8 (E9 st (.loc k)).2 (J t) u):=by
   simp [E9,Q8];cases st.L[k]? with
   |none=>rfl
   |some a=>cases a<;>rfl
  have e2:(Q8 st (J t) u).l6=st.l6:=rfl;have e3:O (Q8 st (J t) u).T=O st.T:=Aj _ _ _;cases dst with
  |none=>cases A1<;>rfl
  |some s =>
   have hne:t≠s:=λe=>h s rfl (by rw [e])
   have e4:∀x,(Q8 st (J t) u).T.set s x=(st.T.set s x).set t u:=λx=>List.set_comm _ _ hne
   cases A1<;>simp [s6,D5,R4,hx,e2,e3,e4]<;>split<;>rfl
def yA (i:x9):Bool:= !i.op.B3&&(match i.op with
 | .dV _=>F
 |_=>W)
def xB {op:F6}(h:op.B3=F)(hm:∀y,op≠ .dV y):B4 E j8 A1 k op st=(l5 (F7 st.T st.L) st.H op).map λp=>(put st k p.1,p.2):=by
 unfold B4;rw [h];cases op<;>first
  |exact (hm _ rfl).elim
  |(simp only [j6,if_false]
    generalize l5 _ _ _=r;cases r<;>rfl)
def Hj {i:x9}(h:yA i=W):i.op.B3=F/\∀y,i.op≠ .dV y:=by
 simp only [yA,c9,o9] at h;refine ⟨h.1,λy e=>?_⟩;rw [e] at h;cases h.2
def iR {i:x9}(h:yA i=W)(st:G5):F9 st i.op=F:=by
 have h1:=(Hj h).1;cases hop:i.op<;>rw [hop] at h1<;>first|rfl|(cases h1)
def nV {i:x9}{dst:Option Nat}{u:c7}(hd:∀s,i.dst=J s->dst≠J s)(hW:B4 E j8 A1 k i.op (Q8 st dst u)=(B4 E j8 A1 k i.op st).map λp=>(Q8 p.1 dst u,p.2)) :
  x8 E j8 A1 k i (Q8 st dst u)=(x8 E j8 A1 k i st).map λp=>(Q8 p.1 dst u,p.2):=by
 unfold x8;rw [xq,hW];split
 .cases hp:B4 E j8 A1 k i.op st with
  |none=>rfl
  |some p =>
   obtain ⟨s1,rs⟩:=p;simp only [B8];rw [tZ hd];cases s6 A1 s1 k i.dst<;>rfl
 .have e4:put (Q8 st dst u) k (.tuple [])=Q8 (put st k (.tuple [])) dst u:=by cases dst<;>rfl
  rw [e4,tZ hd];cases s6 A1 (put st k (.tuple [])) k i.dst<;>rfl
 .rfl
def Ja {sz bytes j:Nat}{x y:A4}{dst:Option Nat}{u:c7}{a:x9}(hxj:x= .loc j)(ha:j8[j]? =J a)(hn:∀l st,fm l st a.op=F)(hy:F7 (Q8 st dst u).T (Q8 st dst u).L y=F7 st.T st.L y) :
  C7 E j8 A1 k (Q8 st dst u) (.M7 sz bytes x y)=(C7 E j8 A1 k st (.M7 sz bytes x y)).map λs=>Q8 s dst u:=by
 subst hxj;have e:F7 (Q8 st dst u).T (Q8 st dst u).L (.loc j)=F7 st.T st.L (.loc j):=by simp only [F7,xq]
 simp only [C7,e,hy];have key:∀r r2:Option G5,r2=r.map (λs=>Q8 s dst u)->dI (Q8 st dst u) r2=(dI st r).map λs=>Q8 s dst u:=by
  rintro r _ rfl;cases r with
  |none=>rfl
  |some s=>cases dst<;>rfl
 refine key _ _ ?_;have e2:newId (Q8 st dst u) K=newId st K:=by simp only [newId,sr]
 split
 next id z lo len hx=>
  refine jh _ ?_;unfold Q7;rw [sr,e2];refine jh _ ?_;cases h1:st.H[id]? with
  |none=>rfl
  |some ob =>
   cases ob with
   |cells l =>
    cases h2:B5 st.H sz (F7 st.T st.L y) with
    |none=>rfl
    |some p =>
     refine jh _ ?_;cases dst<;>rfl
   |_=>rfl
 .unfold J7
  rw [sr,zM (st:=st) (st2:=Q8 st dst u) ha hn (by rw [xq])];cases h2:B5 st.H sz (F7 st.T st.L y) with
  |none=>rfl
  |some p =>
   obtain ⟨m',cs⟩:=p;simp only [if_true]
   by_cases hc:isNil E.lim j8 st (.loc j)=W/\roomFor m' bytes=W/\0<sz
   case neg=>simp only [hc,if_false,Option.map_none]
   simp only [hc,and_self,if_true]
   by_cases h0:m' =0
   .simp only [h0,if_true];cases dst<;>rfl
   .simp only [h0,if_false];cases dst<;>rfl
def tV {i:x9}{dst:Option Nat}{u:c7}(hc:pO j8 i=W)(hu:∀t,dst=J t->t∉cD i)(hd:∀s,i.dst=J s->dst≠J s) :
  x8 E j8 A1 k i (Q8 st dst u)=(x8 E j8 A1 k i st).map λp=>(Q8 p.1 dst u,p.2):=by
 obtain ⟨sz,AL,j,y,a,hop,ha,hn⟩:=vG hc;refine nV hd ?_;have hy:F7 (Q8 st dst u).T (Q8 st dst u).L y=F7 st.T st.L y:=by
  refine mc λt ht hs=>hu t ht ?_
  unfold cD;exact List.mem_flatMap.2 ⟨y,by rw [hop];simp [F6.N6],hs⟩
 rw [hop];simp only [B4,F6.B3,if_true];rw [Ja rfl ha hn hy];cases C7 E j8 A1 k st (.M7 sz AL (.loc j) y)<;>rfl
def oT {i:x9}{dst:Option Nat}{u:c7}(hc:ny i=W\/yA i=W)(hu:∀t,dst=J t->t∉cD i)(hd:∀s,i.dst=J s->dst≠J s) :
  x8 E j8 A1 k i (Q8 st dst u)=(x8 E j8 A1 k i st).map λp=>(Q8 p.1 dst u,p.2):=by
 have hρ:∀x,x∈i.op.N6->F7 (Q8 st dst u).T (Q8 st dst u).L x=F7 st.T st.L x:=by
  intro x hx;refine mc λt ht hs=>hu t ht ?_
  unfold cD;exact List.mem_flatMap.2 ⟨x,hx,hs⟩
 have hW:B4 E j8 A1 k i.op (Q8 st dst u)=(B4 E j8 A1 k i.op st).map λp=>(Q8 p.1 dst u,p.2):=by
  rcases B6 (yA i) with hd1|hd1
  .obtain ⟨h1,h2⟩:=Hj hd1
   rw [xB h1 h2,xB h1 h2,jV hρ,sr];have e4:∀v,put (Q8 st dst u) k v=Q8 (put st k v) dst u:=λv=>by cases dst<;>rfl
   cases l5 (F7 st.T st.L) st.H i.op with
   |none=>rfl
   |some p=>simp only [B8,e4]
  replace hc:ny i=W:=hc.resolve_right (by rw [hd1];simp)
  unfold ny at hc;unfold B4;split at hc
  next f xs hop=>
   rw [hop] at hρ ⊢;simp only [F6.B3,if_true,C7];rw [R9 (l:=xs) λy hy=>hρ y (by simp [F6.N6,hy]),pG];cases B9 E k f (xs.map (F7 st.T st.L)) st<;>rfl
  next x xs hop=>
   rw [hop] at hρ ⊢;simp only [F6.B3,if_true,C7];rw [hρ x (by simp [F6.N6]),R9 (l:=xs) λy hy=>hρ y (by simp [F6.N6,hy])];cases hx:F7 st.T st.L x with
   |func f first caps =>
    simp only;rw [pG];cases B9 E k f (first++xs.map (F7 st.T st.L)++caps) st<;>rfl
   |_=>rfl
  .cases hc
 exact nV hd hW
end
end Go.z6
namespace Go.z6
variable [D6]
def vH (i:x9):Bool:= !i.op.B3&&i.dst.isNone&&(match i.op with
 | .dV (.loc _)=>F
 |_=>W)
def nA (i:x9):Bool:=match i.op with
 | .ot _=>W
 | .alloc _=>W
 | .box _=>W
 | .makeMap=>W
 | .gW .. =>W
 | .N5 _ _ _ _ b=>b
 |_=>F
section
variable {E:Env} {j8:List x9} {A1:Option Nat} {k q:Nat} {st st1 st2 st' :G5}
def dM {i:x9}(h:vH i=W)(st:G5):F9 st i.op=F:=by
 simp_all [vH,F6.B3,F9]<;>grind
def bZ {i:x9}(h:vH i=W)(st:G5):G8 E st i.op=0:=by
 simp_all [vH,F6.B3,G8]<;>grind
def aa {i:x9}(h:nA i=W)(st:G5):F9 st i.op=F:=by
 grind [nA,F9]
def bY {i:x9}(h:nA i=W)(st:G5):G8 E st i.op=0:=by
 grind [nA,G8]
def dL {i:x9}(h:nA i=W):i.op.y3=W:=by
 grind [nA,F6.y3]
def IW {i:x9}(h:ny i=W)(st:G5):F9 st i.op=F:=by
 grind [ny,F9]
theorem ij {s:G5}{dst:Option Nat}(h:dst.isNone=W):s6 A1 s k dst=J s:=by
 cases dst with
 |none=>cases A1<;>rfl
 |some _=>simp at h
def AA {i:x9}(hP:vH i=W){rs:List Nat}(h:x8 E j8 A1 k i st=J (st',rs)) :
  ∃v,st' =put st k v/\∀s2:G5,(∀x,x∈i.op.N6->F7 s2.T s2.L x=F7 st.T st.L x)->y6 s2.L i.guard=y6 st.L i.guard->(∀id,id∈rs->O7 s2.H[id]? st.H[id]?) ->
   x8 E j8 A1 k i s2=J (put s2 k v,rs):=by
 simp only [vH,c9,o9] at hP;obtain ⟨⟨h1,h2⟩,h3⟩:=hP;unfold x8 at h;split at h
 next hw=>
  split at h
  next s1 Zg hW=>
   rw [ij h2] at h;cases h;unfold B4 at hW;rw [h1] at hW;simp [j6,if_false] at hW;have other:∀{v:c7},(∀x,i.op≠ .dV x)->l5 (F7 st.T st.L) st.H i.op=J (v,rs)->st' =put st k v->∃v,st' =put st k v/\∀s2:G5,(∀x,x∈i.op.N6->F7 s2.T s2.L x=F7 st.T st.L x)->y6 s2.L i.guard=y6 st.L i.guard->(∀id,id∈rs->O7 s2.H[id]? st.H[id]?) ->
     x8 E j8 A1 k i s2=J (put s2 k v,rs):=by
    intro v hm hp e;refine ⟨v,e,λs2 hρ Xk hr=>?_⟩;unfold x8;rw [Xk,hw];have:B4 E j8 A1 k i.op s2=J (put s2 k v,rs):=by
     unfold B4;have hp2:l5 (F7 s2.T s2.L) s2.H i.op=J (v,rs):=Ei (by simp_all [jV]) hr;simp_all
    simp_all [ij]
   split at hW
   next x hop=>
    cases hW;refine ⟨(E9 st x).1,?_,λs2 hρ Xk hr=>?_⟩
    .cases x with
     |loc j=>simp_all
     |slot s=>rfl
     |const c=>rfl
    .unfold x8
     have e1:E9 s2 x=((E9 st x).1,s2):=by
      simp_all [F6.N6,E9]<;>grind
     simp_all [B4,F6.B3,j6,if_false,ij]
   grind
  .cases h
 all_goals grind [ij,x8]
def jY (s:G5)(n:Nat):Option x6->G5
 |some o=>O9 s n o
 |none=>s
inductive NF (k n:Nat) (dst:Option Nat):(G5->G5)->Prop where
 |mk (o:Option x6) (v u:c7):NF k n dst (λs=>Q8 (put (jY s n o) k v) dst u)
inductive Vh (k:Nat) (dst:Option Nat):(G5->G5)->Prop where
 |mk (v u:c7):Vh k dst (λs=>Q8 (put s k v) dst u)
structure Alike (i:x9)(st s2:G5):Prop where
 T:O s2.T=O st.T
 L:O s2.L=O st.L
 l6:∀s,i.dst=J s->s2.l6.any (Touch.Q6 s)=W
def EN {s:G5}{v:c7}{dst:Option Nat}(hv:∀z n c,v≠ .own z n c){s' :G5}(h:R4 (put s k v) k dst=J s') :
  ∃u,s' =Q8 (put s k v) dst u/\∀s2:G5,O s2.T=O s.T->O s2.L=O s.L->(∀t,dst=J t->s2.l6.any (Touch.Q6 t)=W)->R4 (put s2 k v) k dst=J (Q8 (put s2 k v) dst u):=by
 cases dst with
 |none=>cases h;exact ⟨.any,rfl,λs2 _ _ _=>rfl⟩
 |some t =>
  have hx:∀s:G5,E9 (put s k v) (.loc k)=((if k<O s.L then v.KE else .any),put s k v):=by
   simp_all [E9,put,F7,List.getD,c7.I7,c7.KE,absurd]<;>grind
  simp only [R4,hx] at h;split at h
  next hc=>
   simp [c9,decide_eq_true_eq] at hc;cases h;refine ⟨_,rfl,λs2 h1 h2 h3=>?_⟩;simp only [R4,hx];have:(decide (t<O (put s2 k v).T)&&(put s2 k v).l6.any (Touch.Q6 t))=W:=by
    simp_all [c9,decide_eq_true_eq,put]
   rw [if_pos this,h2];rfl
  .cases h
def BJ (s:G5)(n:Nat)(o:Option x6):(jY s n o).T=s.T:=by cases o<;>rfl
def xm (s:G5)(n:Nat)(o:Option x6):(jY s n o).L=s.L:=by cases o<;>rfl
def Ev (s:G5)(n:Nat)(o:Option x6):(jY s n o).l6=s.l6:=by cases o<;>rfl
def Ay {i:x9}{n:Nat}(hN:nA i=W){rs:List Nat}(h:x8 E j8 (J n) k i st=J (st',rs)) :
  rs=[]/\∃f,NF k n i.dst f/\(i.op.makes=F->Vh k i.dst f)/\st' =f st/\∀s2:G5,(∀x,x∈i.op.N6->F7 s2.T s2.L x=F7 st.T st.L x)->y6 s2.L i.guard=y6 st.L i.guard->Alike i st s2->x8 E j8 (J n) k i s2=J (f s2,[]):=by
 unfold nA at hN;have h3:=hN;have aX9:i.op.B3=W:=by
  grind [F6.B3]
 have slot:∀(o:Option x6) (v:c7),(i.op.makes=F->o=K)->(∀z n c,v≠ .own z n c)->(∀s2:G5,(∀x,x∈i.op.N6->F7 s2.T s2.L x=F7 st.T st.L x)->y6 s2.L i.guard=y6 st.L i.guard->x8 E j8 (J n) k i s2=(R4 (put (jY s2 n o) k v) k i.dst).map λs=>(s,[])) ->
   rs=[]/\∃f,NF k n i.dst f/\(i.op.makes=F->Vh k i.dst f)/\st' =f st/\∀s2:G5,(∀x,x∈i.op.N6->F7 s2.T s2.L x=F7 st.T st.L x)->y6 s2.L i.guard=y6 st.L i.guard->Alike i st s2->x8 E j8 (J n) k i s2=J (f s2,[]):=by
  intro o v ho hv hs;rw [hs st (λ_ _=>rfl) rfl] at h;cases ht:R4 (put (jY st n o) k v) k i.dst with
  |none=>simp_all
  |some s' =>
   rw [ht] at h;obtain ⟨rfl,rfl⟩:=h;obtain ⟨u,h4,h5⟩:=EN hv ht;refine ⟨rfl,_,NF.mk o v u,λhm=>by rw [ho hm];exact Vh.mk v u,h4,λs2 hρ hw ha=>?_⟩;rw [hs s2 hρ hw,h5 (jY s2 n o) (by rw [BJ,BJ];exact ha.T) (by rw [xm,xm];exact ha.L) (λt ht=>by rw [Ev];exact ha.l6 t ht)];rfl
 obtain ⟨wd,hw⟩:∃wd,y6 st.L i.guard=wd:=⟨_,rfl⟩;cases wd with
 |none=>simp_all [x8]
 |some b =>
  cases b with
  |false =>
   refine slot K (.tuple []) (λ_=>rfl) U λs2 hρ Xk=>?_
   unfold x8
   grind [s6,jY,R4,put]
  |true =>
   by_cases Wz:∃x,i.op= .ot x
   .obtain ⟨x,hx⟩:=Wz
    refine slot K (.d x) (λ_=>rfl) U λs2 hρ Xk=>?_
    grind [x8,B4,F6.B3,C7,s6,jY,R4,put]
   have hmk:i.op.makes=W:=by
    cases hop:i.op<;>rw [hop] at h3<;>first|exact h3|simp_all|simp_all|rfl
   have key:∀(o:x6) (v:c7),(∀z n c,v≠ .own z n c)->(∀s2:G5,(∀x,x∈i.op.N6->F7 s2.T s2.L x=F7 st.T st.L x)->C7 E j8 (J n) k s2 i.op=J (put (O9 s2 n o) k v)) ->
     rs=[]/\∃f,NF k n i.dst f/\(i.op.makes=F->Vh k i.dst f)/\st' =f st/\∀s2:G5,(∀x,x∈i.op.N6->F7 s2.T s2.L x=F7 st.T st.L x)->y6 s2.L i.guard=y6 st.L i.guard->Alike i st s2->x8 E j8 (J n) k i s2=J (f s2,[]):=by
    intro o v hv h5;refine slot (J o) v (λh=>M) hv λs2 hρ Xk=>?_
    unfold x8
    grind [B4,put,O9,s6,jY,R4]
   obtain ⟨op,hop⟩:∃op,i.op=op:=⟨_,rfl⟩;have he:∃s1,C7 E j8 (J n) k st i.op=J s1:=by
    grind [x8,B4]
   obtain ⟨s1,he⟩:=he;have ao0 :∀x,op≠ .ot x:=λx e=>Wz ⟨x,hop.trans e⟩
   cases op<;>(try (exact absurd rfl (ao0 _)))<;>rw [hop] at h3<;>simp at h3<;>(try (cases h3;done))<;>rw [hop] at he<;>simp only [C7] at he
   next zero=>
    refine key (.cells zero) (.ptr n 0) U (λs2 _=>?_);rw [hop];rfl
   next x=>
    split at he
    next l hl=>
     refine key (.cells l) (.ptr n 0) U (λs2 hρ=>?_);rw [hop];simp only [C7];rw [hρ x (by simp [hop,F6.N6]),hl];rfl
    .cases he
   next sz len zero parts ob=>
    subst h3;simp only at he;split at he
    next cs hcs=>
     split at he
     next hl=>
      refine key (.cells cs) (.s5 n sz 0 len) U (λs2 hρ=>?_);rw [hop];simp only [C7];have e:(parts.map λx=>(x.1,x.2.1,F7 s2.T s2.L x.2.2))=(parts.map λx=>(x.1,x.2.1,F7 st.T st.L x.2.2)):=hU (λx hx=>hρ x (by grind [F6.N6]));have kK :U2 zero (parts.map λx=>(x.1,x.2.1,F7 st.T st.L x.2.2))=J cs:=hcs;simp only [e,kK,if_pos hl];rfl
     .cases he
    .cases he
   .refine key (.map []) (.map n) U (λs2 _=>?_)
    rw [hop];rfl
   next sz zero x y=>
    split at he
    next m hm=>
     refine key (.cells (c8 m zero).flatten) (.s5 n sz 0 m) U (λs2 hρ=>?_);rw [hop];simp only [C7];rw [hρ x (by simp [hop,F6.N6]),hρ y (by simp [hop,F6.N6]),hm];rfl
    .cases he
end
end Go.z6
namespace Go.z6
variable [D6]
def Pg (i:x9):Bool:=match i.op with
 | .ot _=>W
 |_=>F
def rD {i:x9}(h:Pg i=W):nA i=W/\i.op.makes=F:=by
 unfold Pg at h;unfold nA;cases hop:i.op<;>rw [hop] at h<;>first|exact ⟨rfl,rfl⟩|(cases h)
def IV {j8:List x9}{i:x9}(h:pO j8 i=W)(st:G5):F9 st i.op=F:=by
 obtain ⟨sz,AL,j,y,a,hop,_⟩:=vG h;rw [hop];rfl
def dK {j8:List x9}{i:x9}(h:ny i=W\/pO j8 i=W)(st:G5):F9 st i.op=F:=h.elim (λh=>IW h st) λh=>IV h st
def Bx (j8:List x9)(j:Nat)(a:x9)(i:Nat)(b:x9):Bool :=
 !(bD j8 b).contains j&& !(bD j8 a).contains i &&
 (match b.dst with|some s=> !(cD a).contains s&&a.dst != J s|none=>W)&&(match a.dst with|some s=> !(cD b).contains s|none=>W) &&
 ((vH a&&(vH b||a.Z2.contains i))||(vH b&&b.Z2.contains j)||(nA a&&nA b)||(nA a&&(ny b||pO j8 b)&&a.Z2.contains i)||((ny a||pO j8 a)&&nA b&&b.Z2.contains j)||(Pg a&&yA b)||(yA a&&Pg b))
def GU (E:Env)(j8:List x9)(S6:Nat->Option Nat)(lg:Nat->dA)(k:Nat)(st st' :G5):Prop :=
 ∃i,j8[k]? =J i/\fD E j8 (S6 k) k i st=J (st',lg k)
structure IK (j8:List x9)(S6:Nat->Option Nat):Prop where
 alloc:∀(k:Nat) i,j8[k]? =J i->(S6 k).isSome=i.op.y3
 inj:∀j k n,S6 j=J n->S6 k=J n->j=k
def GS (j8:List x9)(lg:Nat->dA):Prop :=
 ∀(k:Nat) i e,j8[k]? =J i->e∈i.Z2->F3 (lg e).Di (lg k).reads=F/\(i.op.makes=W->(lg e).Kf<=(lg k).id)
section
variable {E:Env} {j8:List x9} {A1:Option Nat} {k q:Nat} {v:c7} {st st1 st2 st' :G5}
def ak {i:x9}{l:dA}:fD E j8 A1 k i st=J (st',l)↔(F9 st i.op&&j8.any λa=>a.Z2.contains k&& !calm st i.op a)=F/\∃rs,x8 E j8 A1 k i st=J (st',rs)/\l=T6 E i A1 st st' rs:=by
 grind [fD]
def bB {i:x9}{l:dA}(h:F9 st i.op=F/\∃rs,x8 E j8 A1 k i st=J (st',rs)/\l=T6 E i A1 st st' rs):fD E j8 A1 k i st=J (st',l) :=
 ak.2 ⟨by rw [h.1];rfl,h.2⟩
def Ij {j:Nat}{i b:x9}{q:Nat}(h:(F9 st i.op&&j8.any λa=>a.Z2.contains j&& !calm st i.op a)=F)(hk:F9 st i.op=W)(hb:j8[q]? =J b)(hu:j∈b.Z2):calm st i.op b=W:=by
 grind
def Cy {op:F6}{a:x9}(h:calm st op a=W):∃sz AL ob x y s id z lo n j o,op= .append sz AL ob x y/\a.op= .dV (.slot s)/\a.dst=K/\a.guard=K/\F7 st.T st.L x= .s5 id z lo n/\st.T[s]? =J (.ptr j o)/\j≠id:=by
 unfold calm at h;split at h
 next sz AL ob x y s ho=>
  simp [c9,Option.isNone_iff_eq_none] at h;obtain ⟨⟨h1,h2⟩,h3⟩:=h;split at h3
  next id z lo n j o h4 h5=>
   exact ⟨_,_,_,_,_,_,_,_,_,_,_,_,rfl,ho,h1,h2,h4,h5,λe=>M⟩
  .cases h3
 .cases h
def vz {s2:G5}{op:F6}{a:x9}(h:∀x,x∈op.N6->F7 s2.T s2.L x=F7 st.T st.L x)(hT:s2.T=st.T):calm s2 op a=calm st op a:=by
 unfold calm
 grind [F6.N6]
def Cz {sz AL :Nat}{ob:Bool}{x y:A4}{id z lo n j o:Nat}(h:F7 st.T st.L x= .s5 id z lo n)(hj:j≠id):Cg st (.append sz AL ob x y) (.ptr j o):=λ_ _ _ x' _ id' _ _ _ e hx=>by
 simp_all [c7.kill]
def qx {a:x9}{s j o:Nat}(h1:a.op= .dV (.slot s))(h2:a.dst=K)(h3:a.guard=K)(h:st.T[s]? =J (.ptr j o)):x8 E j8 A1 k a st=J (put st k (.ptr j o),[]):=by
 have e:(E9 st (.slot s))=(.ptr j o,st):=by simp [E9,F7,h,c7.I7]
 simp [x8,h3,B4,h1,e,h2];cases A1<;>rfl
def Cn {i:x9}{sz AL :Nat}{ob:Bool}{x y:A4}{id z lo n s j o:Nat}{rs:List Nat}(hop:i.op= .append sz AL ob x y)(hx:F7 st.T st.L x= .s5 id z lo n)(h:x8 E j8 A1 k i st=J (st',rs))(hs:i.dst≠J s)(hT:st.T[s]? =J (.ptr j o))(hj:j≠id):st'.T[s]? =J (.ptr j o):=by
 have slot:∀s1 s2:G5,s6 A1 s1 k i.dst=J s2->s1.T[s]? =J (.ptr j o)->s2.T[s]? =J (.ptr j o):=by
  intro s1 s2 h h1;cases hd:i.dst with
  |none=>rw [hd] at h;cases A1<;>cases h<;>exact h1
  |some t =>
   cases A1<;>simp only [s6,D5,R4] at h<;>split at h<;>first|grind|grind
 unfold x8 at h;split at h
 .split at h
  next s1 Zg h1=>
   split at h
   next s2 h2=>
    cases h;refine slot _ _ h2 ?_;simp [B4,hop,F6.B3,if_true,C7,hx] at h1;split at h1
    next s3 h3=>
     cases h1;split at h3
     .unfold S7 at h3
      split at h3
      .split at h3
       .split at h3
        .cases h3
         have e:∀(l:List c7) (s:Nat),l[s]? =J (.ptr j o)->(L3 id l)[s]? =J (.ptr j o):=by
          intro l
          induction l with
          |nil=>simp_all
          |cons a l ih =>
           grind [L3,c7.kill]
         exact e _ _ hT
        .cases h3
       .cases h3
      .cases h3
     .cases h3
    .cases h1
   .cases h
  .cases h
 .split at h
  next s2 h2=>
   cases h;exact slot _ _ h2 hT
  .cases h
 .cases h
def ey {s2:G5}{op:F6}(h:∀x,x∈op.N6->F7 s2.T s2.L x=F7 st.T st.L x):F9 s2 op=F9 st op:=by
 cases op<;>simp [F9];simp_all [F6.N6]
def dX {s2:G5}{op:F6}(h:∀x,x∈op.N6->F7 s2.T s2.L x=F7 st.T st.L x)(hH:s2.H=st.H):G8 E s2 op=G8 E st op:=by
 cases op<;>simp only [G8,F6.N6] at h ⊢
 case call f xs=>rw [hH,R9 h]
 case bV x xs=>rw [hH,h x U,R9 (l:=xs) λy hy=>h y (by simp [hy])]
 case M7 sz AL x y=>rw [h x U,h y U]
def S2 {i:x9}(hu:q∉bD j8 i):∀x,x∈i.op.N6->F7 (put st q v).T (put st q v).L x=F7 st.T st.L x :=
 λ_ hx=>mU (L9 hx hu)
theorem NF.F7 {n:Nat}{dst:Option Nat}{f:G5->G5}(hf:NF k n dst f){x:A4}(h:k∉x.bf)(ht:∀t,dst=J t->t∉x.slots)(s:G5):F7 (f s).T (f s).L x=F7 s.T s.L x:=by
 cases hf with
 |mk o v u =>
  simp_all [mc,mU,BJ,xm]
def NF.wanted {n:Nat}{dst:Option Nat}{f:G5->G5}(hf:NF k n dst f){g:Option (Nat×Bool)}(h:∀j b,g=J (j,b)->j≠k)(s:G5):y6 (f s).L g=y6 s.L g:=by
 cases hf with
 |mk o v u =>
  simp_all [xq,wanted_put,xm]
theorem NF.l6 {n:Nat}{dst:Option Nat}{f:G5->G5}(hf:NF k n dst f)(s:G5):(f s).l6=s.l6:=by
 cases hf with
 |mk o v u =>
  rw [NR];exact Ev _ _ _
def NF.V2 {n:Nat}{dst:Option Nat}{f:G5->G5}(hf:NF k n dst f)(s:G5):O (f s).T=O s.T:=by
 cases hf with
 |mk o v u =>
  rw [Aj];show O (jY s n o).T=_
  rw [BJ]
def NF.gA {n:Nat}{dst:Option Nat}{f:G5->G5}(hf:NF k n dst f)(s:G5):O (f s).L=O s.L:=by
 cases hf with
 |mk o v u =>
  simp_all [xq,put,xm]
def NF.comm {n m j i:Nat}{d e:Option Nat}{f g:G5->G5}(hf:NF j n d f)(hg:NF i m e g)(hji:j≠i)(hnm:n≠m)(hde:∀s,e=J s->d≠J s)(s:G5):f (g s)=g (f s):=by
 cases hf with
 |mk o v u =>
  cases hg with
  |mk o' v' u' =>
   have nC:∀(l:List x6) (a b:x6),(l.set m b).set n a=(l.set n a).set m b:=λl a b=>List.set_comm _ _ (λe=>hnm e.symm)
   have hL:∀(l:List c7) (a b:c7),(l.set i b).set j a=(l.set j a).set i b:=λl a b=>List.set_comm _ _ (λe=>hji e.symm)
   cases o<;>cases o' <;>cases d<;>cases e<;>simp [Q8,jY,O9,put,hL]
   all_goals grind [set,List.set_comm]
def Gz {i:x9}{m:Nat}{o:x6}(hs:G8 E st i.op<=m):G8 E (O9 st m o) i.op=G8 E st i.op:=by
 have e:∀x,F7 (O9 st m o).T (O9 st m o).L x=F7 st.T st.L x:=λ_=>rfl
 have e1:(O9 st m o).H=st.H.set m o:=rfl;have e2:∀xs,List.map (F7 (O9 st m o).T (O9 st m o).L) xs=List.map (F7 st.T st.L) xs:=λ_=>rfl
 cases hop:i.op<;>rw [hop] at hs<;>simp only [G8] at hs ⊢
 case call f xs =>
  simp only [e1,e2,List.length_set]
  by_cases hp:E.prom f=W
  .rw [if_pos hp,if_pos hp]
  .rw [if_neg hp] at hs ⊢
   rw [if_neg hp];exact gb _ _ _ _ _ _ hs
 case bV x xs =>
  simp only [e x,e1,e2,List.length_set];split at hs
  next f first caps hx=>
   by_cases hp:E.prom f=W
   .simp only [hp,if_true]
   .rw [if_neg hp] at hs ⊢
    rw [if_neg hp];exact gb _ _ _ _ _ _ hs
  .rfl
 case M7=>rfl
def NF.Kf {n j:Nat}{dst:Option Nat}{f:G5->G5}(hf:NF j n dst f){i:x9}(hu:j∉bD j8 i)(ht:∀t,dst=J t->t∉cD i) :
  ∃o:Option x6,G8 E (f st) i.op=G8 E (jY st n o) i.op:=by
 cases hf with
 |mk o v u =>
  refine ⟨o,?_⟩;refine dX (λx hx=>?_) ?_
  .grind [mc,mU,L9,cD]
  .simp [sr]
   rfl
def VQ {i:x9}{n j:Nat}{dst:Option Nat}{f:G5->G5}(hf:NF j n dst f)(hC:ny i=W\/pO j8 i=W)(hjk:j≠k)(hu:j∉bD j8 i)(ht:∀t,dst=J t->t∉cD i)(hd:∀s,i.dst=J s->dst≠J s)(hn:n<O st.H)(hs:G8 E st i.op<=n) :
  x8 E j8 A1 k i (f st)=(x8 E j8 A1 k i st).map (λp=>(f p.1,p.2))/\G8 E (f st) i.op=G8 E st i.op:=by
 refine ⟨?_,?_⟩
 .cases hf with
  |mk o v u =>
   have h1:=hC.elim (λhC=>oT (E:=E) (j8:=j8) (A1:=A1) (k:=k) (st:=put (jY st n o) j v) (u:=u) (.inl hC) ht hd) λhC=>tV (E:=E) (j8:=j8) (A1:=A1) (k:=k) (st:=put (jY st n o) j v) (u:=u) hC ht hd
   have h2:=fV (E:=E) (A1:=A1) (v:=v) (st:=jY st n o) hjk hu (.of (dK hC _));have h3:x8 E j8 A1 k i (jY st n o)=(x8 E j8 A1 k i st).map (λp=>(jY p.1 n o,p.2)):=by
    cases o with
    |none=>simp only [jY];cases x8 E j8 A1 k i st<;>rfl
    |some o=>exact hC.elim (λhC=>GF hC hn hs) λhC=>EB hC hn hs
   simp only;rw [h1,h2,h3];cases x8 E j8 A1 k i st<;>rfl
 .obtain ⟨o,ho⟩:=hf.Kf (E:=E) (st:=st) hu ht
  rw [ho];cases o with
  |none=>rfl
  |some o=>exact Gz hs
def Rs {i:x9}{j:Nat}{dst:Option Nat}{f:G5->G5}(hf:Vh j dst f)(hC:(ny i=W\/pO j8 i=W)\/yA i=W)(hjk:j≠k)(hu:j∉bD j8 i)(ht:∀t,dst=J t->t∉cD i)(hd:∀s,i.dst=J s->dst≠J s) :
  x8 E j8 A1 k i (f st)=(x8 E j8 A1 k i st).map (λp=>(f p.1,p.2))/\G8 E (f st) i.op=G8 E st i.op:=by
 cases hf with
 |mk v u =>
  have h1:x8 E j8 A1 k i (Q8 (put st j v) dst u)=(x8 E j8 A1 k i (put st j v)).map λp=>(Q8 p.1 dst u,p.2):=by
   rcases hC with (hC|hC)|hC
   .exact oT (.inl hC) ht hd
   .exact tV hC ht hd
   .exact oT (.inr hC) ht hd
  have h2:=fV (E:=E) (A1:=A1) (v:=v) (st:=st) hjk hu (.of (hC.elim (λh=>dK h _) (λh=>iR h _)));refine ⟨?_,?_⟩
  .simp only
   rw [h1,h2];cases x8 E j8 A1 k i st<;>rfl
  .refine dX (λx hx=>?_) (by rw [sr];rfl)
   rw [mc (λt ht' =>λhs=>ht t ht' (by unfold cD;exact List.mem_flatMap.2 ⟨x,hx,hs⟩)),mU (L9 hx hu)]
def IF {i:x9}{n j:Nat}{dst:Option Nat}{f:G5->G5}(hf:NF j n dst f)(hu:j∉bD j8 i)(ht:∀t,dst=J t->t∉cD i)(hs:G8 E (f st) i.op<=n):G8 E st i.op=G8 E (f st) i.op:=by
 obtain ⟨o,ho⟩:=hf.Kf (E:=E) (st:=st) hu ht;rw [ho] at hs ⊢;cases o with
 |none=>rfl
 |some o=>exact Kg hs
def jf {i:x9}{s s2 s' s2' :G5}{rs:List Nat}(h1:s2.l6=s.l6)(h2:s2'.l6=s'.l6)(h3:G8 E s2 i.op=G8 E s i.op):T6 E i A1 s2 s2' rs=T6 E i A1 s s' rs:=by
 simp_all [T6]
def cu {i:x9}{s s2 s' s2' :G5}{rs:List Nat}(h1:s2'.l6.take (O s2'.l6 - O s2.l6)=s'.l6.take (O s'.l6 - O s.l6))(h3:G8 E s2 i.op=G8 E s i.op):T6 E i A1 s2 s2' rs=T6 E i A1 s s' rs:=by
 simp_all [T6]
def Still.BG {i b:x9}{d:List Touch}{uu:Option Nat}{kb:Nat}(h:Still kb b.dst uu d st st')(hl:kb∉bD j8 i)(ht:∀s,b.dst=J s->s∉cD i):∀x,x∈i.op.N6->z6.F7 st'.T st'.L x=z6.F7 st.T st.L x:=by
 intro x hx;refine h.F7 (L9 hx hl) λs hs e=>ht s e ?_
 simp_all [cD,List.mem_flatMap]
def Still.nj {i b:x9}{d:List Touch}{uu:Option Nat}{kb:Nat}(h:Still kb b.dst uu d st st')(hl:kb∉bD j8 i):y6 st'.L i.guard=y6 st.L i.guard :=
 h.wanted λ_ _ hg=>bI hg hl
def fW (j8:List x9)(st:G5):Prop:=∀(k:Nat) i s,j8[k]? =J i->i.op.y3=W->i.dst=J s->st.l6.any (Touch.Q6 s)=W
def Still.marked {kb:Nat}{dst uu:Option Nat}{d:List Touch}(h:Still kb dst uu d st st')(hm:fW j8 st):fW j8 st' :=by
 intro k i s hi ha hd;rw [h.l6,List.any_append,hm k i s hi ha hd];simp
def sy {i:x9}{rs:List Nat}(hn:A1.isSome=i.op.y3)(h:x8 E j8 A1 k i st=J (st',rs)):O st.H<=O st'.H/\∃d,st'.l6=d++st.l6:=by
 cases hk:F9 st i.op with
 |false =>
  obtain ⟨d,hd⟩:=Still.x8 hk hn h;exact ⟨hd.Gg,d,hd.l6⟩
 |true =>
  have slot:∀{s s2:G5} {dst:Option Nat},s6 A1 s k dst=J s2->O s.H=O s2.H/\∃d,s2.l6=d++s.l6:=by
   intro s s2 dst h;have hx:(E9 s (.loc k)).2.H=s.H/\(E9 s (.loc k)).2.l6=s.l6:=by
    simp only [E9];split<;>exact ⟨rfl,rfl⟩
   cases dst with
   |none=>cases A1<;>simp only [s6,D5,R4,Option.some.injEq] at h<;>subst h<;>exact ⟨rfl,[],rfl⟩
   |some t =>
    cases A1<;>simp only [s6,D5,R4] at h
    .split at h
     .cases h;exact ⟨by simp only [hx.1],[_],rfl⟩
     .cases h
    .split at h
     .cases h;exact ⟨by simp only [hx.1],[],by simp only [hx.2];rfl⟩
     .cases h
  have aA5:∀{v:c7} {s2:G5},s6 A1 (put st k v) k i.dst=J s2->O st.H<=O s2.H/\∃d,s2.l6=d++st.l6:=by
   intro v s2 h;obtain ⟨h1,d,h2⟩:=slot h;exact ⟨Nat.le_of_eq h1,d,h2⟩
  simp only [x8] at h;split at h
  .split at h
   next s1 Zg h1=>
    split at h
    next s2 h2=>
     cases h;obtain ⟨e1,d,e2⟩:=slot h2;have hw:O st.H<=O s1.H/\∃d,s1.l6=d++st.l6:=by
      cases hop:i.op<;>rw [hop] at hk h1<;>simp only [F9,j6] at hk
      next sz bytes ob x y=>
       simp only [B4,F6.B3,if_true] at h1;split at h1
       next s3 h3=>
        cases h1;simp only [C7] at h3;split at hk
        next id z lo len hr=>
         rw [hr] at h3;simp only at h3;split at h3
         .simp only [S7] at h3
          split at h3
          .split at h3
           .split at h3
            .cases h3
             refine ⟨by simp [put];omega,[_],rfl⟩
            .cases h3
           .cases h3
          .cases h3
         .cases h3
        .cases hk
       .cases h1
     obtain ⟨e3,d2,e4⟩:=hw;exact ⟨V,d++d2,by rw [e2,e4,F5]⟩
    .cases h
   .cases h
  .split at h
   next s2 h2=>
    cases h;exact aA5 h2
   .cases h
  .cases h
theorem fW.ext (hm:fW j8 st)(h:∃d,st'.l6=d++st.l6):fW j8 st' :=by
 obtain ⟨d,h⟩:=h;intro k i s hi ha hd;rw [h,List.any_append,hm k i s hi ha hd];simp
def swap {S6:Nat->Option Nat}{lg:Nat->dA}(hn:IK j8 S6)(PJ:GS j8 lg){j i:Nat}{a b:x9}(hp:Bx j8 j a i b=W)(ha:j8[j]? =J a)(hb:j8[i]? =J b)(hji:j≠i)
  (hin:∀k n,S6 k=J n->n<O st.H) (oF:fW j8 st) (h1:GU E j8 S6 lg j st st1) (h2:GU E j8 S6 lg i st1 st2):∃Ez,GU E j8 S6 lg i st Ez /\GU E j8 S6 lg j Ez st2:=by
 obtain ⟨a',Vo,h1⟩:=h1;rw [ha] at Vo;cases Vo;obtain ⟨b',hb',h2⟩:=h2;rw [hb] at hb';cases hb';obtain ⟨ka0,VI,sa,la⟩:=ak.1 h1;obtain ⟨kb0,rsb,sb,lb⟩:=ak.1 h2;simp only [Bx,c9,o9,List.contains_eq_mem,decide_eq_false_iff_not] at hp;obtain ⟨⟨⟨⟨u1,u2⟩,t1⟩,t2⟩,cF⟩:=hp;have VJ :∀s,b.dst=J s->s∉cD a:=by
  intro s hs;rw [hs] at t1;simp at t1;exact t1.1
 have t3:∀s,b.dst=J s->a.dst≠J s:=by
  intro s hs;rw [hs] at t1;simp at t1;exact t1.2
 have t4:∀s,a.dst=J s->b.dst≠J s:=λs hs h=>t3 s h hs
 have UU :∀s,a.dst=J s->s∉cD b:=by
  intro s hs;rw [hs] at t2;simpa using t2
 have MW:=hn.alloc j a ha;have uu:=hn.alloc i b hb;simp only [Bool.or_eq_true,c9,decide_eq_true_eq] at cF;cases kb:F9 st1 b.op with
 |true =>
  have hu:vH a=W/\i∈a.Z2:=by
   rcases cF with (((((h|h)|h)|h)|h)|h)|h
   .rcases h.2 with h2|h2
    .rw [dM h2] at kb;cases kb
    .exact ⟨h.1,h2⟩
   .rw [dM h.1] at kb;cases kb
   .rw [aa h.2] at kb;cases kb
   .rw [dK h.1.2] at kb;cases kb
   .rw [aa h.1.2] at kb;cases kb
   .rw [iR h.2] at kb;cases kb
   .rw [aa (rD h.2).1] at kb;cases kb
  obtain ⟨sz,AL,ob,x,y,s,id,z,lo,n,jd,o,hop,Mn,hd,hg,hx,hT,hne⟩:=Cy (Ij kb0 kb ha hu.2);obtain ⟨v,e0,_⟩:=AA hu.1 sa;have hT0:st.T[s]? =J (.ptr jd o):=by rw [e0] at hT;exact hT
  rw [qx Mn hd hg hT0] at sa;obtain ⟨rfl,rfl⟩:put st j (.ptr jd o)=st1/\[]=VI:=by simpa using sa
  have hx0:F7 st.T st.L x= .s5 id z lo n:=by rw [<- S2 u1 x (by simp [hop,F6.N6])];exact hx
  rw [fV hji u1 (by rw [hop];exact Cz hx0 hne)] at sb;cases wu:x8 E j8 (S6 i) i b st with
  |none=>rw [wu] at sb;cases sb
  |some p =>
   obtain ⟨s',rs'⟩:=p;rw [wu] at sb;simp only [B8,Option.some.injEq,Prod.mk.injEq] at sb;obtain ⟨rfl,rfl⟩:=sb;have Wt:=Cn hop hx0 wu (λe=>VJ s e (by simp [cD,Mn,F6.N6,A4.slots])) hT0 hne;refine ⟨s',⟨b,hb,ak.2 ⟨?_,rs',wu,?_⟩⟩,a,ha,ak.2 ⟨by rw [dM hu.1];rfl,[],qx Mn hd hg Wt,?_⟩⟩
   .rw [<- kb0,ey (S2 u1)]
    simp only [vz (S2 u1) (show (put st j (.ptr jd o)).T=st.T from rfl)]
   .rw [lb];exact jf rfl rfl (dX (S2 u1) rfl)
   .rw [la];exact (cu (by simp [put]) (by rw [bZ hu.1,bZ hu.1])).symm
 |false =>
 cases ka:F9 st a.op with
 |true =>
  have hu:vH b=W/\j∈b.Z2:=by
   rcases cF with (((((h|h)|h)|h)|h)|h)|h
   .rw [dM h.1] at ka;cases ka
   .exact ⟨h.1,h.2⟩
   .rw [aa h.1] at ka;cases ka
   .rw [aa h.1.1] at ka;cases ka
   .rw [dK h.1.1] at ka;cases ka
   .rw [aa (rD h.1).1] at ka;cases ka
   .rw [iR h.1] at ka;cases ka
  obtain ⟨sz,AL,ob,x,y,s,id,z,lo,n,jd,o,hop,Mn,hd,hg,hx,hT,hne⟩:=Cy (Ij ka0 ka hb hu.2);have hT1:=Cn hop hx sa (λe=>UU s e (by simp [cD,Mn,F6.N6,A4.slots])) hT hne;rw [qx Mn hd hg hT1] at sb;obtain ⟨rfl,rfl⟩:put st1 i (.ptr jd o)=st2/\[]=rsb:=by simpa using sb
  refine ⟨put st i (.ptr jd o),⟨b,hb,ak.2 ⟨by rw [dM hu.1];rfl,[],qx Mn hd hg hT,?_⟩⟩,a,ha,ak.2 ⟨?_,VI,?_,?_⟩⟩
  .rw [lb];exact cu (by simp [put]) (by rw [bZ hu.1,bZ hu.1])
  .rw [<- ka0,ey (S2 u2)]
   simp only [vz (S2 u2) (show (put st i (.ptr jd o)).T=st.T from rfl)]
  .rw [fV (λe=>hji e.symm) u2 (by rw [hop];exact Cz hx hne),sa]
   rfl
  .rw [la];exact (jf (s:=st) (s2:=put st i (.ptr jd o)) (s' :=st1) (s2' :=put st1 i (.ptr jd o)) rfl rfl (dX (S2 u2) rfl)).symm
 |false =>
 obtain ⟨da,US⟩:=Still.x8 ka MW sa;have TX:nA a=W->((ny b=W\/pO j8 b=W)\/yA b=W)->(a.op.makes=W->(ny b=W\/pO j8 b=W)/\i∈a.Z2)->∃Ez,GU E j8 S6 lg i st Ez /\GU E j8 S6 lg j Ez st2:=by
  intro KH Ws Mm;have hkb:∀s,F9 s b.op=F:=λs=>Ws.elim (λh=>dK h s) (λh=>iR h s)
  have uj:=dL KH;rw [uj] at MW;obtain ⟨n,RR⟩:=Option.isSome_iff_exists.1 MW;rw [RR] at sa;obtain ⟨rfl,f,hf,hf0,rfl,Ta⟩:=Ay KH sa;obtain ⟨hs1,hs2⟩:x8 E j8 (S6 i) i b (f st)=(x8 E j8 (S6 i) i b st).map (λp=>(f p.1,p.2))/\G8 E (f st) b.op=G8 E st b.op:=by
   cases hmk:a.op.makes with
   |true =>
    have PO:G8 E (f st) b.op<=n:=by
     have:=(PJ j a i ha (Mm hmk).2).2 hmk;rw [lb,la] at this;simpa [T6,RR] using this
    have Xa:=IF hf u1 UU PO;exact VQ (E:=E) (j8:=j8) (A1:=S6 i) hf (Mm hmk).1 hji u1 UU t3 (hin j n RR) (by rw [Xa];exact PO)
   |false=>exact Rs (hf0 hmk) Ws hji u1 UU t3
  rw [hs1] at sb;cases wu:x8 E j8 (S6 i) i b st with
  |none=>rw [wu] at sb;cases sb
  |some p =>
   obtain ⟨s',rs'⟩:=p;rw [wu] at sb;simp only [B8,Option.some.injEq,Prod.mk.injEq] at sb;obtain ⟨rfl,rfl⟩:=sb;obtain ⟨db,Re⟩:=Still.x8 (hkb st) uu wu;refine ⟨s',⟨b,hb,bB ⟨hkb _,rs',wu,?_⟩⟩,a,ha,bB ⟨aa KH _,[],?_,?_⟩⟩
   .rw [lb]
    exact jf (hf.l6 _) (hf.l6 _) hs2
   .rw [RR]
    exact Ta s' (Re.BG u2 VJ) (Re.nj u2) ⟨Re.V2,Re.gA,λs hs=>Re.marked oF j a s ha uj hs⟩
   .rw [la]
    refine cu ?_ ?_
    .simp [hf.l6]
    .rw [bY KH,bY KH]
 have TY:nA b=W->((ny a=W\/pO j8 a=W)\/yA a=W)->(b.op.makes=W->(ny a=W\/pO j8 a=W)/\j∈b.Z2)->∃Ez,GU E j8 S6 lg i st Ez /\GU E j8 S6 lg j Ez st2:=by
  intro KI Ws Mm;have hka:∀s,F9 s a.op=F:=λs=>Ws.elim (λh=>dK h s) (λh=>iR h s)
  have uj:=dL KI;rw [uj] at uu;obtain ⟨m,Ff⟩:=Option.isSome_iff_exists.1 uu;rw [Ff] at sb;obtain ⟨rfl,g,hg,OM,rfl,Tb⟩:=Ay KI sb;obtain ⟨hs1,hs2⟩:x8 E j8 (S6 j) j a (g st)=(x8 E j8 (S6 j) j a st).map (λp=>(g p.1,p.2))/\G8 E (g st) a.op=G8 E st a.op:=by
   cases hmk:b.op.makes with
   |true =>
    have PO:G8 E st a.op<=m:=by
     have:=(PJ i b j hb (Mm hmk).2).2 hmk;rw [lb,la] at this;simpa [T6,Ff] using this
    exact VQ (E:=E) (j8:=j8) (A1:=S6 j) hg (Mm hmk).1 (λe=>hji e.symm) u2 VJ t4 (hin i m Ff) PO
   |false=>exact Rs (OM hmk) Ws (λe=>hji e.symm) u2 VJ t4
  have Zi:x8 E j8 (J m) i b st=J (g st,[]) :=
   Tb st (λx hx=>(US.BG u1 UU x hx).symm) (US.nj u1).symm ⟨US.V2.symm,US.gA.symm,λs hs=>oF i b s hb uj hs⟩
  refine ⟨g st,⟨b,hb,bB ⟨aa KI _,[],by rw [Ff];exact Zi,?_⟩⟩,a,ha,bB ⟨hka _,VI,?_,?_⟩⟩
  .rw [lb]
   refine cu ?_ ?_
   .simp [hg.l6]
   .rw [bY KI,bY KI]
  .rw [hs1,sa];rfl
  .rw [la]
   exact (jf (hg.l6 _) (hg.l6 _) hs2).symm
 rcases cF with (((((cF|cF)|cF)|cF)|cF)|cF)|cF
 ·
  obtain ⟨hPa,cF⟩:=cF;obtain ⟨v,rfl,Ta⟩:=AA hPa sa;have kb' :F9 st b.op=F:=by rw [<- ey (S2 u1)];exact kb
  have hs:=fV (E:=E) (A1:=S6 i) (v:=v) hji u1 (.of kb');rw [hs] at sb;cases wu:x8 E j8 (S6 i) i b st with
  |none=>rw [wu] at sb;cases sb
  |some p =>
   obtain ⟨s',rs'⟩:=p;rw [wu] at sb;simp only [B8,Option.some.injEq,Prod.mk.injEq] at sb;obtain ⟨rfl,rfl⟩:=sb;have lb' :lg i=T6 E b (S6 i) st s' rs' :=by rw [lb];exact jf rfl rfl (dX (S2 u1) rfl)
   obtain ⟨db,Re⟩:=Still.x8 kb' uu wu;refine ⟨s',⟨b,hb,bB ⟨kb',rs',wu,lb'⟩⟩,a,ha,bB ⟨dM hPa _,VI,?_,?_⟩⟩
   .refine Ta s' (Re.BG u2 VJ) (Re.nj u2) λid hid=>?_
    rcases cF with Vn|hun
    .obtain ⟨u,rfl,_⟩:=AA Vn wu
     exact O7.refl _
    .have:=(PJ j a i ha hun).1
     rw [lb',la] at this;exact Re.reads (E:=E) (i:=b) (rs:=rs') this hid
   .rw [la]
    refine (cu ?_ ?_).symm
    .simp [put]
    .rw [bZ hPa,bZ hPa]
 ·
  obtain ⟨Vn,hun⟩:=cF;obtain ⟨v,rfl,Tb⟩:=AA Vn sb;have Zi:x8 E j8 (S6 i) i b st=J (put st i v,rsb):=by
   refine Tb st (λx hx=>(US.BG u1 UU x hx).symm) (US.nj u1).symm λid hid=>?_
   have:=(PJ i b j hb hun).1;rw [la,lb] at this;exact (US.reads (E:=E) (i:=a) (rs:=VI) this hid).symm
  refine ⟨put st i v,⟨b,hb,bB ⟨dM Vn _,rsb,Zi,?_⟩⟩,a,ha,bB ⟨by rw [ey (S2 u2)];exact ka,VI,?_,?_⟩⟩
  .rw [lb]
   refine (cu ?_ ?_)
   .simp [put]
   .rw [bZ Vn,bZ Vn]
  .rw [fV (λe=>hji e.symm) u2 (.of ka),sa]
   rfl
  .rw [la]
   exact (jf (s:=st) (s2:=put st i v) (s' :=st1) (s2' :=put st1 i v) rfl rfl (dX (S2 u2) rfl)).symm
 ·
  obtain ⟨KH,KI⟩:=cF;rw [dL KH] at MW;rw [dL KI] at uu;obtain ⟨n,RR⟩:=Option.isSome_iff_exists.1 MW;obtain ⟨m,Ff⟩:=Option.isSome_iff_exists.1 uu;rw [RR] at sa;rw [Ff] at sb;obtain ⟨rfl,f,hf,hf0,rfl,Ta⟩:=Ay KH sa;obtain ⟨rfl,g,hg,OM,rfl,Tb⟩:=Ay KI sb;have hnm:n≠m:=by
   rintro rfl;exact hji (hn.inj j i n RR Ff)
  have ut:∀{c:x9} {x:A4} {t:Nat},x∈c.op.N6->t∉cD c->t∉x.slots:=by
   intro c x t hx ht h;apply ht;unfold cD;exact List.mem_flatMap.2 ⟨x,hx,h⟩
  have Zi:x8 E j8 (J m) i b st=J (g st,[]) :=
   Tb st (λx hx=>(hf.F7 (L9 hx u1) (λt ht=>ut hx (UU t ht)) st).symm) (hf.wanted (λ_ _ h=>bI h u1) st).symm ⟨(hf.V2 st).symm,(hf.gA st).symm,λs hs=>oF i b s hb (dL KI) hs⟩
  have sa0:x8 E j8 (J n) j a (g st)=J (f (g st),[]) :=
   Ta (g st) (λx hx=>hg.F7 (L9 hx u2) (λt ht=>ut hx (VJ t ht)) st) (hg.wanted (λ_ _ h=>bI h u2) st) ⟨hg.V2 st,hg.gA st,λs hs=>by rw [hg.l6];exact oF j a s ha (dL KH) hs⟩
  refine ⟨g st,⟨b,hb,bB ⟨aa KI _,[],by rw [Ff];exact Zi,?_⟩⟩,a,ha,bB ⟨aa KH _,[],by rw [RR,sa0,hf.comm hg hji hnm t3],?_⟩⟩
  .rw [lb]
   refine cu ?_ ?_
   .simp [hf.l6,hg.l6]
   .rw [bY KI,bY KI]
  .rw [la]
   refine (cu ?_ ?_)
   .simp [hf.l6,hg.l6]
   .rw [bY KH,bY KH]
 .exact TX cF.1.1 (.inl cF.1.2) λ_=>⟨cF.1.2,cF.2⟩
 .exact TY cF.1.2 (.inl cF.1.1) λ_=>⟨cF.1.1,cF.2⟩
 .exact TX (rD cF.1).1 (.inr cF.2) λh=>by rw [(rD cF.1).2] at h;cases h
 .exact TY (rD cF.2).1 (.inr cF.1) λh=>by rw [(rD cF.2).2] at h;cases h
end
end Go.z6
namespace Go.z6
variable [D6]
inductive pe (E:Env) (j8:List x9) (S6:Nat->Option Nat) (lg:Nat->dA):List Nat->G5->G5->Prop where
 |nil (st:G5):pe E j8 S6 lg [] st st
 |cons {k:Nat} {ks:List Nat} {st st1 st2:G5}:GU E j8 S6 lg k st st1->pe E j8 S6 lg ks st1 st2->pe E j8 S6 lg (k::ks) st st2
section
variable {E:Env} {j8:List x9} {S6:Nat->Option Nat} {lg:Nat->dA} {st st1 st2 fin:G5}
theorem GU.len (hn:IK j8 S6){k:Nat}(h:GU E j8 S6 lg k st st1):O st.H<=O st1.H:=by
 obtain ⟨i,hi,h⟩:=h;obtain ⟨hk,rs,hs,_⟩:=ak.1 h;exact (sy (hn.alloc k i hi) hs).1
def GU.marked (hn:IK j8 S6){k:Nat}(h:GU E j8 S6 lg k st st1)(hm:fW j8 st):fW j8 st1:=by
 obtain ⟨i,hi,h⟩:=h;obtain ⟨hk,rs,hs,_⟩:=ak.1 h;exact hm.ext (sy (hn.alloc k i hi) hs).2
theorem pe.front (hn:IK j8 S6)(PJ:GS j8 lg){i:Nat}{b:x9}(hb:j8[i]? =J b){rest:List Nat} :
  ∀(js:List Nat) (st:G5),(∀j,j∈js->j≠i/\∃a,j8[j]? =J a/\Bx j8 j a i b=W)->(∀k n,S6 k=J n->n<O st.H)->fW j8 st->pe E j8 S6 lg (js++i::rest) st fin ->
   ∃st',GU E j8 S6 lg i st st' /\pe E j8 S6 lg (js++rest) st' fin
 |[],st,_,_,_,h=>by
  cases h with
  |cons h1 h2=>grind
 |j::js,st,hj,hin,oF,h=>by
  cases h with
  |cons h1 h2 =>
   obtain ⟨s2,g1,g2⟩:=pe.front hn PJ hb js _ (λj' hj' =>hj j' (by simp [hj'])) (λk n hk=>Nat.lt_of_lt_of_le (hin k n hk) (h1.len hn)) (h1.marked hn oF) h2;obtain ⟨hne,a,ha,hp⟩:=hj j U;obtain ⟨s1,e1,e2⟩:=swap hn PJ hp ha hb hne hin oF h1 g1;exact ⟨s1,e1,pe.cons e2 g2⟩
end
def direct (o:Oper):List Nat:=(o.after.toList.filter (Region.binds .any)).map (·.on)
def Fs:List Oper->List (List Nat)->List (List Nat)
 |[],acc=>acc
 |o::os,acc=>Fs os (acc++[((direct o).flatMap λe=>e::acc.getD e []).eraseDups])
def DY (Q0:List (List Nat))(k:Nat)(o:Oper):Bool :=
 (Q0.getD k []).all λj=>(direct o).contains j||(direct o).any λe=>(Q0.getD e []).contains j
def vD (j8:List x9)(Q0:List (List Nat))(i:Nat)(b:x9):Bool :=
 (List.range i).all λj=>(Q0.getD i []).contains j||(match j8[j]? with
  |some a=>Bx j8 j a i b
  |none=>F)
def kZ (X:Cx)(j8:List x9)(Q0:List (List Nat)):List x9->Nat->Bool
 |[],k=>X.ops.size==k
 |i::is,k=>(match X.ops[k]? with
  |some o=>DY Q0 k o&&(direct o).all (λe=>decide (e<k))&&oo X (λj=>(Q0.getD k []).contains j) o i&&vD j8 Q0 k i
  |none=>F)&&kZ X j8 Q0 is (k+1)
theorem vB {X:Cx}{j8:List x9}{Q0:List (List Nat)}:∀(is:List x9) (k:Nat),j8.drop k=is->kZ X j8 Q0 is k=W->∀(m:Nat) b,k<=m->j8[m]? =J b ->
  ∃o,X.ops[m]? =J o/\DY Q0 m o=W/\(∀e,e∈direct o->e<m)/\oo X (λj=>(Q0.getD m []).contains j) o b=W/\vD j8 Q0 m b=W
 |[],k,hd,_,m,b,hkm,hb=>by
  simp_all [List.length]<;>grind
 |i::is,k,hd,h,m,b,hkm,hb=>by
  simp only [kZ,c9] at h
  by_cases e:m=k
  .subst e
   have hi:j8[m]? =J i:=by
    have:(j8.drop m)[0]? =J i:=by rw [hd];rfl
    grind
   grind
  .have hd' :j8.drop (k+1)=is:=by
    have:=congrArg (List.drop 1) hd
    grind [List.drop_drop]
   exact vB is (k+1) hd' h.2 m b V hb
theorem lu {X:Cx}{j8:List x9}{Q0:List (List Nat)}:∀(is:List x9) (k:Nat),kZ X j8 Q0 is k=W->X.ops.size=k+O is
 |[],k,h=>by grind [kZ]
 |i::is,k,h=>by
  simp [kZ,c9] at h;have:=lu is (k+1) h.2
  grind
def KS (X:Cx)(S:Nat->Prop):Prop:=∀(k:Nat) o,S k->X.ops[k]? =J o->∀e,e∈direct o->S e
def Ft {X:Cx}{Q0:List (List Nat)}{S:Nat->Prop}(hc:KS X S)(hok:∀(k:Nat) o,X.ops[k]? =J o->DY Q0 k o=W/\∀e,e∈direct o->e<k)(hout:∀k,X.ops.size<=k->Q0.getD k []=[]) :
  ∀(n k:Nat),k<=n->∀o,X.ops[k]? =J o->(∀e,e∈direct o->S e)->∀j,j∈Q0.getD k []->S j:=by
 intro n
 induction n with
 |zero =>
  grind [DY]
 |succ n ih =>
  intro k hk o ho hd j hj;obtain ⟨h1,h2⟩:=hok k o ho;have:=List.all_eq_true.1 h1 j hj;simp [Bool.or_eq_true,List.contains_eq_mem,decide_eq_true_eq,List.any_eq_true] at this
  rcases this with h|⟨e,he,hej⟩
  .exact hd j h
  .have hlt:=h2 e he
   cases hoe:X.ops[e]? with
   |none =>
    simp_all
   |some oe=>exact ih e V oe hoe (hc e oe (hd e he) hoe) j hej
def bz (n:Nat)(listed:Array Bool):List Nat:=(List.range n).filter λj=> !listed.getD j F
def Eo {n i:Nat}{listed:Array Bool}(hi:i<n)(hu:listed.getD i F=F)(hs:listed.size=n) :
  ∃js rest,bz n listed=js++i::rest/\bz n (listed.setIfInBounds i W)=js++rest/\∀j,j∈js->j<i/\listed.getD j F=F:=by
 refine ⟨(List.range i).filter λj=> !listed.getD j F,(List.range' (i+1) (n - i - 1)).filter λj=> !listed.getD j F,?_,?_,?_⟩
 .unfold bz
  have:List.range n=List.range i++i::List.range' (i+1) (n - i - 1):=by
   have h:=List.range'_append_1 (s:=0) (m:=i) (n:=n - i - 1+1)
   grind [List.range_eq_range',List.range'_succ]
  simp_all
 .unfold bz
  have:List.range n=List.range i++i::List.range' (i+1) (n - i - 1):=by
   have h:=List.range'_append_1 (s:=0) (m:=i) (n:=n - i - 1+1)
   grind [List.range_eq_range',List.range'_succ]
  rw [this,List.filter_append,List.filter_cons];have e1:(!(listed.setIfInBounds i W).getD i F)=F:=by simp [hs,hi]
  rw [e1]
  congr 1
  .refine List.filter_congr λj hj=>?_
   simp_all<;>grind
  .refine List.filter_congr λj hj=>?_
   simp_all<;>grind
 simp_all
section
variable {X:Cx} {j8:List x9} {E:Env} {nt:Nat} {S6:Nat->Option Nat} {lg:Nat->dA} {fin:G5} {Q0:List (List Nat)}
def IP (hst:Stat X nt)(HM:kO X.P E.cf E.prom)(dG:∀f args H lm r,E.cf f args H lm=J r->R3 X.P f=W)(hs:E.lim.strict<=E.lim.base)(Tu:E.lim.base<=E.entry)(Q:Exit->Act->World->Prop)
  (Dg:kZ X j8 Q0 j8 0=W) (hout:∀k,X.ops.size<=k->Q0.getD k []=[]) (hn:IK j8 S6) (hne:∀k n,S6 k=J n->E.entry<=n) (PJ:GS j8 lg) :
  ∀(fuel:Nat) (listed:Array Bool) (st:G5) (a:Act) (w:World) (G:Gh) (I:P3) (N:Nat->Prop),Rg X j8 E nt (λj=>listed.getD j F=W) st a w G I N->listed.size=O j8->KS X (λj=>listed.getD j F=W) ->
   (∀k n,S6 k=J n->n<O st.H)->fW j8 st->(∀k n,S6 k=J n->listed.getD k F=F->¬ N n)->pe E j8 S6 lg (bz (O j8) listed) st fin->O (bz (O j8) listed)<=fuel ->
   (∀a' w' G' I' N',Fin X j8 E nt st w G I N fin a' w' G' I' N' ->Q .normal a' w')->wpAny X.P .any X.ops Q fuel listed a w:=by
 have hsize:X.ops.size=O j8:=by grind [lu]
 have um:=λ(m:Nat) b hb=>vB j8 0 U Dg m b (s8 _) hb
 have Mo:∀(k:Nat) o,X.ops[k]? =J o->DY Q0 k o=W/\∀e,e∈direct o->e<k:=by
  intro k o ho;have hk:k<O j8:=by
   grind
  obtain ⟨o',h1,h2,h3,_⟩:=um k j8[k] (o3 hk);simp_all
 have hdone:∀(listed:Array Bool),listed.size=O j8->Region.ready .any X.ops listed=[]->bz (O j8) listed=[]:=by
  intro listed hls hr;cases Mp:bz (O j8) listed with
  |nil=>rfl
  |cons i rest =>
   exfalso;have hi:i<O j8/\listed.getD i F=F/\∀j,j<i->listed.getD j F=W:=by
    have hm:i∈bz (O j8) listed:=M
    unfold bz at hm;simp only [List.mem_filter,List.mem_range,o9] at hm;refine ⟨hm.1,hm.2,λj hj=>?_⟩;cases hlj:listed.getD j F with
    |true=>rfl
    |false =>
     have hjm:j∈bz (O j8) listed:=by
      grind [bz,o9]
     have ZN:(bz (O j8) listed).Pairwise (·<·):=List.Pairwise.filter _ List.pairwise_lt_range
     grind [F2]
   obtain ⟨o,ho,_,hlt,_⟩:=um i j8[i] (o3 hi.1);have:i∈Region.ready .any X.ops listed:=by
    grind [mem_ready,direct]
   simp_all
 have hend:∀(listed:Array Bool) (st:G5) (a:Act) (w:World) (G:Gh) (I:P3) (N:Nat->Prop),Rg X j8 E nt (λj=>listed.getD j F=W) st a w G I N->listed.size=O j8->pe E j8 S6 lg (bz (O j8) listed) st fin->bz (O j8) listed=[] ->
   Fin X j8 E nt st w G I N fin a w G I N:=by
  intro listed st a w G I N hR hls hrun Mp;rw [Mp] at hrun;cases hrun;refine ⟨hR.congr λj=>?_,X8.refl _ _ _ _ _ _⟩;constructor
  .grind
  simp_all [bz,List.mem_filter,List.mem_range,o9]
 intro fuel
 induction fuel with
 |zero =>
  intro listed st a w G I N hR hls hcl hin oF hfr hrun hfl hQ;have Mp:bz (O j8) listed=[]:=List.length_eq_zero_iff.1 V;refine ⟨?_,hQ _ _ _ _ _ (hend listed st a w G I N hR hls hrun Mp)⟩;cases hr:Region.ready .any X.ops listed with
  |nil=>rfl
  |cons i rest =>
   exfalso;have:i∈Region.ready .any X.ops listed:=by rw [hr];simp
   obtain ⟨h0,o,ho,_⟩:=mem_ready.1 this;have hi:i<O j8:=by grind
   have xZ:i<listed.size:=V
   have:i∈bz (O j8) listed:=by
    grind [bz,o9]
   grind
 |succ fuel ih =>
  intro listed st a w G I N hR hls hcl hin oF hfr hrun hfl hQ;refine ⟨λhr=>hQ _ _ _ _ _ (hend listed st a w G I N hR hls hrun (hdone listed hls hr)),λi hi=>?_⟩;obtain ⟨h0,o,ho,hall⟩:=mem_ready.1 hi;have hia:i<O j8:=by grind
  have xZ:i<listed.size:=V
  have hun:listed.getD i F=F:=by
   grind
  obtain ⟨b,hb⟩:∃b,j8[i]? =J b:=⟨_,o3 hia⟩;obtain ⟨o',ho',hoa,hlt,hci,eM⟩:=um i b hb;rw [ho] at ho';cases ho';have ao3:∀e,e∈direct o->listed.getD e F=W:=by
   grind [direct]
  have an6:=Ft hcl Mo hout i i (k9 _) o ho ao3;obtain ⟨js,rest,WV,Jx,hjs⟩:=Eo hia hun hls;rw [WV] at hrun;obtain ⟨st1,ar2,aJ3⟩:=pe.front hn PJ hb js st (λj hj=>by
   obtain ⟨hji,hju⟩:=hjs j hj
   grind [vD]) hin oF hrun
  obtain ⟨b',hb',hD⟩:=ar2;rw [hb] at hb';cases hb';obtain ⟨hk,rs,hstep,aZ2⟩:=ak.1 hD;have hstill:=(sy (hn.alloc i b hb) hstep).2;refine tW hst HM dG hs Tu hR (d9:=λj=>(Q0.getD i []).contains j) (λj hj=>an6 j (by simpa using hj)) (by grind) ho hb hci (A1:=S6 i) (λuj=>?_) (λn hni=>⟨hne i n hni,hin i n hni⟩) hstep _ _ ?_
  .have:=hn.alloc i b hb
   rw [uj] at this;obtain ⟨n,hni⟩:=Option.isSome_iff_exists.1 this;rw [hni];have h1:=hne i n hni;exact ⟨hfr i n hni hun,(λm hm=>by grind),by grind [newId],by grind [newId]⟩
  .intro a' w' G' I' N' hdn
   have nC:∀j,(listed.setIfInBounds i W).getD j F=W↔(listed.getD j F=W\/j=i):=by
    intro j
    by_cases e:j=i
    .subst e;simp [xZ]
    .rw [Go.getD_set_ne F (λh=>e h.symm)]
     simp [e]
   refine ih (listed.setIfInBounds i W) st1 a' w' G' I' N' (hdn.rg.congr λj=>(nC j).symm) (by simp [hls]) ?_ (λk n hk=>Nat.lt_of_lt_of_le (hin k n hk) hdn.len) (oF.ext hstill) ?_ (by grind) ?_ ?_
   .intro k ok hk hok e he
    rw [nC] at hk ⊢
    rcases hk with hk|rfl
    .exact Or.inl (hcl k ok hk hok e he)
    grind
   .intro k n hk hku hN
    have ap3 :listed.getD k F=F/\k≠i:=by
     grind
    rcases hdn.old n (hin k n hk) hN with h|h
    .grind
    .exact ap3.2 (hn.inj k i n hk h)
   .grind
   .intro a'' w'' VT I'' N'' hf
    exact hQ _ _ _ _ _ ⟨hf.rg,hdn.since.trans hf.since⟩
def nQ (j8:List x9)(base:Nat)(k:Nat):Option Nat :=
 match j8[k]? with
 |some i=>if i.op.y3 then J (base+O ((j8.take k).filter (·.op.y3))) else K
 |none=>K
def Qo (j8:List x9)(base:Nat):IK j8 (nQ j8 base):=by
 refine ⟨λk i hi=>?_,λj k n hj hk=>?_⟩
 .grind [nQ]
 .have key:∀a b n,a<b->nQ j8 base a=J n->nQ j8 base b=J n->False:=by
   intro a b n hab ha hb;unfold nQ at ha hb;split at ha
   .split at ha
    .split at hb
     .split at hb
      .have h1:O ((j8.take (a+1)).filter (·.op.y3))=O ((j8.take a).filter (·.op.y3))+1:=by
        simp_all [List.take_add_one,List.filter_append]
       grind [List.Sublist.length_le,List.Sublist.filter,List.take_sublist_take_left]
      .cases hb
     .cases hb
    .cases ha
   .cases ha
  grind
theorem tQ {base:Nat}:∀(is:List x9) (k:Nat) (na:Nat) (st st2:G5) (Gi:List dA) (Xw:Nat->dA),j8.drop k=is->na=base+O ((j8.take k).filter (·.op.y3))->M8 E j8 is k na st=J (st2,Gi) ->
  (∀m,m<O is->Xw (k+m)=Gi.getD m ⟨[],[],0,0⟩)->O Gi=O is/\pe E j8 (nQ j8 base) Xw (List.range' k (O is)) st st2
 |[],k,na,st,st2,Gi,Xw,hd,hna,h,hl=>by
  cases h;exact ⟨rfl,pe.nil _⟩
 |i::is,k,na,st,st2,Gi,Xw,hd,hna,h,hl=>by
  have hi:j8[k]? =J i:=by
   have:(j8.drop k)[0]? =J i:=by rw [hd];rfl
   grind
  have hd' :j8.drop (k+1)=is:=by
   have:=congrArg (List.drop 1) hd
   grind [List.drop_drop]
  simp [M8] at h;split at h
  next st1 l hstep=>
   split at h
   next UR lg3 hrun=>
    cases h;have ap7 :(if i.op.y3=W then na+1 else na)=base+O ((j8.take (k+1)).filter (·.op.y3)):=by
     grind
    obtain ⟨g1,g2⟩:=tQ is (k+1) _ st1 st2 lg3 Xw hd' ap7 hrun (λm hm=>by
     simp_all<;>grind)
    refine ⟨by simp [g1],?_⟩;refine pe.cons ⟨i,hi,?_⟩ g2
    grind [nQ]
   .cases h
  .cases h
def JN {Gi:List dA}(hlen:O Gi=O j8)(h:br j8 Gi=W):GS j8 (λk=>Gi.getD k ⟨[],[],0,0⟩):=by
 intro k i e hi he;unfold br at h;have hk:=y9 hi;have hz:(i,Gi.getD k ⟨[],[],0,0⟩)∈j8.zip Gi:=by
  refine List.mem_of_getElem? (i:=k) ?_;simp_all
 grind
end
end Go.z6
namespace Go.z6
variable [D6]
structure Cd (P:Program)(names:List Tmp)(E:Env)(nt:Nat)(st:St)(a:Act)(w:World)(G:Gh)(I:P3)(N:Nat->Prop):Prop where
 T:∀(s:Nat) t,names[s]? =J t->VR G I N w (.slot s) (st.T.getD s .any) (a.tmps.getD t undef)
 H:HR G I N w st.H
 wf:WF G w
 R8:IG E.lim st.H
 V2:O st.T=O names
 Z8:∀id,N id->id<O st.H
 AZ:E.entry<=O st.H
 size:a.tmps.size=nt
 idle:∀d,d∈a.defers->Ch P E.idle d
def oy (names:List Tmp):List (Option Tmp)->Bool
 |[]=>W
 |none::r=>oy names r
 |some d::r=>(names.contains d|| !r.contains (J d))&&oy names r
def gX:List Tmp->Bool
 |[]=>W
 |x::xs=> !xs.contains x&&gX xs
theorem nP:∀(l:List Tmp),gX l=W->∀(s s' :Nat) t,l[s]? =J t->l[s']? =J t->s=s'
 |[],_,s,s',t,h,_=>by simp at h
 |x::xs,hok,s,s',t,h,h' =>by
  simp [gX,c9,List.contains_eq_mem] at hok;cases s with
  |zero =>
   grind
  |succ s =>
   cases s' with
   |zero =>
    grind
   |succ s' =>rw [nP xs hok.2 s s' t (by simpa using h) M]
theorem qd (names:List Tmp):∀(l:List (Option Tmp)),oy names l=W->∀(i j:Nat) d,l[i]? =J (J d)->l[j]? =J (J d)->names.contains d=F->i=j
 |[],_,i,j,d,h,_,_=>by simp at h
 |x::xs,hok,i,j,d,h,h',hn=>by
  have qp:oy names xs=W:=by
   cases x with
   |none=>exact hok
   |some d' =>simp_all [oy,c9]
  have hnot:x=J d->J d∉xs:=by
   grind [oy,absurd]
  cases i with
  |zero =>
   grind
  |succ i =>
   cases j with
   |zero =>
    grind
   |succ j=>rw [qd names xs qp i j d (by simpa using h) M hn]
def bX (P:Program)(names:List Tmp)(nt:Nat)(ops:Array Oper)(j8:List x9)(draw:Bool):Bool :=
 oy names (ops.toList.map (·.dst))&&(ops.toList.all λo=>match o.dst with|some d=>decide (d<nt)|none=>W) &&
 (if draw then
   let Q0:=Fs ops.toList []
   decide (O Q0<=ops.size)&&kZ ⟨P,names,ops⟩ j8 Q0 j8 0&&P.follows .mixedOrders
  else jC ⟨P,names,ops⟩ j8 0)
def Rf {P:Program}{names:List Tmp}{nt:Nat}{ops:Array Oper}{j8:List x9}{draw:Bool}(hn:gX names=W)(h:bX P names nt ops j8 draw=W):Stat ⟨P,names,ops⟩ nt:=by
 simp [bX,c9] at h;obtain ⟨⟨h1,h2⟩,_⟩:=h;have get:∀(i:Nat) d,(ops[i]?).bind (·.dst)=J d->(ops.toList.map (·.dst))[i]? =J (J d):=by
  simp_all<;>grind
 refine ⟨λi j d hi hj hc=>qd names _ h1 i j d (get i d hi) (get j d hj) hc,λi d hd=>?_,λs s' t=>nP names hn s s' t⟩
 grind
section
variable {P:Program} {names:List Tmp} {E:Env} {nt:Nat} {st:St} {a:Act} {w:World} {G:Gh} {I:P3} {N:Nat->Prop} {ops:Array Oper} {j8:List x9}
def Cd.start (h:Cd P names E nt st a w G I N)(X:Cx)(hX:X=⟨P,names,ops⟩){S:Nat->Prop}(hS:∀j,¬ S j){H' :k8}(ext:k8)(hH:H' =st.H++ext)(WE:∀o,o∈ext->o= .dead){L:List c7}(hL:O L=O j8)(l6:List Touch) :
  Rg X j8 E nt S ⟨st.T,H',L,l6⟩ a w G I N:=by
 subst hX;subst hH;have get:∀(id:Nat) o,(st.H++ext)[id]? =J o->st.H[id]? =J o\/o= .dead:=by
  intro id o ho
  rcases y8 id (O st.H) with hlt|hge
  .grind
  .rw [x7 hge] at ho
   exact Or.inr (WE o (List.mem_of_getElem? ho))
 refine ⟨⟨h.T,λj hj=>absurd hj (hS j),λid o ho=>?_,h.wf,λid o ho=>?_⟩,⟨λj _ _ _ _ hj=>absurd hj (hS j),λj _ _ _ _ _ _ hj=>absurd hj (hS j)⟩,λj _ _ hj=>absurd hj (hS j),h.V2,hL,λid hid=>?_,?_,h.size,h.idle⟩
 .rcases get id o ho with h1|rfl
  .exact h.H id o h1
  .simp [OR]
 .rcases get id o ho with h1|rfl
  .exact h.R8 id o h1
  .simp [x6.H7]
 .have:=h.Z8 id hid;simp;omega
 .have:=h.AZ;simp;omega
theorem Cd.drew (h:Cd P names E nt st a w G I N)(n:Nat)(hn:w.drawn<=n):Cd P names E nt st a { w with drawn:=n } G I N/\X8 E st.H w G I N st.H { w with drawn:=n } G I N:=by
 have hx:Ext G w G { w with drawn:=n }:=(Ext.refl G w).drew n hn;have hk:∀pl,Y8 pl G w G { w with drawn:=n }:=λ_ _ _ h=>⟨h,rfl⟩
 refine ⟨⟨λs t ht=>VR.mono hx (λ_ _=>rfl) (λ_ h=>h) _ _ _ (Or.inr (hk _)) (h.T s t ht),λid o ho=>OR.mono (w:=w) hx.sub (λ_ _=>rfl) (λ_ h=>h) id o (λh=>⟨h,rfl⟩) (λ_=>hk _) (h.H id o ho),h.wf,h.R8,h.V2,h.Z8,h.AZ,h.size,h.idle⟩,?_⟩;exact ⟨hx,λid _=>⟨λ_ h=>⟨h,rfl⟩,λ_=>hk _⟩,λ_ _ _=>rfl,λ_ _ h=>h,λ_ _ h=>h,λ_ o _ h=>Or.inr ⟨o,h,k9 _⟩⟩
def Cd.done {X:Cx}(hX:X=⟨P,names,ops⟩){S:Nat->Prop}{r:G5}(h:Rg X j8 E nt S r a w G I N):Cd P names E nt ⟨r.T,r.H⟩ a w G I N:=by
 subst hX;exact ⟨h.ri.T,h.ri.H,h.ri.wf,h.ri.R8,h.V2,h.Z8,h.AZ,h.size,h.idle⟩
structure GP (P:Program)(E:Env):Prop where
 cf:kO P E.cf E.prom
 can:∀f args H lm r,E.cf f args H lm=J r->R3 P f=W
 strict:E.lim.strict<=E.lim.base
 base:E.lim.base<=E.entry
def X8.al9 {H0 ext H:k8}{w0 w:World}{G0 G:Gh}{I0 I:P3}{N0 N:Nat->Prop}(hb:E.lim.base<=O H0)(h:X8 E (H0++ext) w0 G0 I0 N0 H w G I N):X8 E H0 w0 G0 I0 N0 H w G I N:=by
 refine ⟨h.ext,h.bu,h.inj,h.mono,h.old,λid o' hid ho=>?_⟩
 rcases h.hle id o' hid ho with h1|⟨o,h1,h2⟩
 all_goals grind
def qF (hE:GP P E)(hn:gX names=W){draw:Bool}(hc:bX P names nt ops j8 draw=W)(h:Cd P names E nt st a w G I N){r:G5}(hr:P7 E j8 draw st.T st.H=J r)(id:Nat)(Q:Exit->Act->World->Prop)
  (hQ:∀a' w' G' I' N',Rg ⟨P,names,ops⟩ j8 E nt (λj=>j<O j8) r a' w' G' I' N' ->X8 E st.H w G I N r.H w' G' I' N' ->Q .normal a' w'):(Code.region id ops draw).wp P Q a w:=by
 have hst:=Rf hn hc;simp only [bX,c9] at hc;obtain ⟨_,hc⟩:=hc;unfold P7 at hr;cases draw with
 |false =>
  refine wp_region ?_;have hsz:ops.size=O j8:=by
   have:∀(is:List x9) (k:Nat),jC ⟨P,names,ops⟩ is k=W->ops.size=k+O is:=by
    intro is
    induction is with
    |nil=>simp_all [jC]
    |cons i is ih =>
     grind [jC]
   grind
  rw [hsz,List.range_eq_range'];have hR:Rg ⟨P,names,ops⟩ j8 E nt (λj=>j<0) ⟨st.T,st.H,c8 (O j8) .any,[]⟩ a w G I N :=
   h.start _ rfl (λj=>U) [] U U U []
  refine BI (X:=⟨P,names,ops⟩) hst hE.cf hE.can hE.strict hE.base Q j8 0 U U hc _ a w G I N r hR hr ?_;intro a' w' G' I' N' hf;exact hQ a' w' G' I' N' hf.rg hf.since
 |true =>
  simp only [if_true,c9,decide_eq_true_eq] at hr hc;obtain ⟨⟨Bh,Ww⟩,ap6⟩:=hc;split at hr
  next r' Gi hrun=>
   split at hr
   next hok=>
    cases hr;refine wp_region_any ap6 ?_;obtain ⟨h2,TP⟩:=h.drew (w.drawn+1) (Nat.le_succ _);have hR:Rg ⟨P,names,ops⟩ j8 E nt (λj=>(Array.replicate ops.size F).getD j F=W) ⟨st.T,st.H++T5 j8,c8 (O j8) .any,slotsOf j8⟩ a { w with drawn:=w.drawn+1 } G I N :=
     h2.start _ rfl (λj=>by
      simp_all<;>grind) (T5 j8) rfl (by
      simp_all [T5]) U (slotsOf j8)
    have WR:fW j8 ⟨st.T,st.H++T5 j8,c8 (O j8) .any,slotsOf j8⟩:=by
     intro k i s hi ha hd;simp_all [Touch.Q6,slotsOf]<;>grind
    have hsize:ops.size=O j8:=by
     have:=lu (X:=⟨P,names,ops⟩) j8 0 Ww;simp_all
    obtain ⟨hlen,aV4⟩:=tQ (base:=O st.H) j8 0 (O st.H) _ r Gi (λk=>Gi.getD k ⟨[],[],0,0⟩) U U hrun (λm _=>U);have Mp:bz (O j8) (Array.replicate ops.size F)=List.range' 0 (O j8):=by
     simp_all [bz,List.filter_eq_self,List.range_eq_range']
    have hlt:∀k n,nQ j8 (O st.H) k=J n->O st.H<=n/\n<O (st.H++T5 j8):=by
     intro k n hk;unfold nQ at hk;split at hk
     .split at hk
      .have h1:O ((j8.take (k+1)).filter (·.op.y3))=O ((j8.take k).filter (·.op.y3))+1:=by
        simp_all [List.take_add_one,List.filter_append]
       grind [List.Sublist.length_le,List.Sublist.filter,List.take_sublist,T5]
      .cases hk
     .cases hk
    refine IP (X:=⟨P,names,ops⟩) (Q0:=Fs ops.toList []) (S6:=nQ j8 (O st.H)) (lg:=λk=>Gi.getD k ⟨[],[],0,0⟩) (fin:=r) hst hE.cf hE.can hE.strict hE.base Q Ww (λk hk=>?_) (Qo j8 _) (λk n hk=>?_) (JN hlen hok)
     ops.size (Array.replicate ops.size F) _ a _ G I N hR (by simp [hsize]) ?_ (λk n hk=>(hlt k n hk).2) WR (λk n hk _ hN=>?_) M M ?_
    .grind
    .have:=(hlt k n hk).1;have:=h.AZ;omega
    .intro k o hk
     simp_all<;>grind
    .have h1:=h.Z8 n hN;grind
    .intro a' w' G' I' N' hf
     have hb:E.lim.base<=O st.H:=o5 hE.base h.AZ;exact hQ a' w' G' I' N' hf.rg (TP.trans (hf.since.al9 hb))
   .cases hr
  .cases hr
end
end Go.z6
namespace Go.z6
variable [D6]
section
variable {P:Program} {names:List Tmp} {E:Env} {nt:Nat} {st st' :St} {a:Act} {w:World} {G:Gh} {I:P3} {N:Nat->Prop}
theorem tP:∀(cs:List c7) (k i id sz lo len:Nat),qE cs k=J (i,id,sz,lo,len)->∃j,i=k+j/\cs[j]? =J (.s5 id sz lo len)
 |[],_,_,_,_,_,_,h=>by simp [qE] at h
 |c::cs,k,i,id,sz,lo,len,h=>by
  cases c
  case s5 id' sz' lo' len' =>
   simp_all [qE,Option.some.injEq,Prod.mk.injEq]
  all_goals
   obtain ⟨j,h1,h2⟩:=tP cs (k+1) i id sz lo len (by simp_all [qE]);simp_all<;>grind
def FH {pl:Place}{v:c7}{d:Data}{x:Value}(hd:v.data? =J d)(h:VR G I N w pl v x):DR G w d x:=by
 have h2:VR G I N w pl v.I7 x:=h.I7;cases v<;>simp [c7.data?] at hd<;>first|cases hd|skip
 all_goals simp_all [c7.I7,VR]
theorem LF (b:Nat)(TE:∀o,fE G b o):∀(vs:List c7) (xs:List Data) (o:Nat),J3 vs=J xs->(∀j v,vs[j]? =J v->∃u,w.cell? (ad b (o+j))=J u/\∀d,v.data? =J d->DR G w d u)->dx G w b o xs
 |[],xs,o,h,_=>by simp_all [J3,dx]
 |v::vs,xs,o,h,hv=>by
  unfold J3 at h;cases hd:v.data? with
  |none=>simp_all
  |some d =>
   rw [hd] at h;cases hds:J3 vs with
   |none=>simp_all
   |some ds =>
    rw [hds] at h;cases h;obtain ⟨u,h1,h2⟩:=hv 0 v rfl;refine ⟨TE o,⟨u,V,h2 d hd⟩,LF b TE vs ds (o+1) hds λj v' hj=>?_⟩;obtain ⟨u',g1,g2⟩:=hv (j+1) v' M
    grind
def Md (h:Cd P names E nt st a w G I N){s:Nat}(hr:ql E.lim E.entry s st=J st'):∃G' N',Cd P names E nt st' a w G' I N' /\X8 E st.H w G I N st'.H w G' I N' :=by
 unfold ql at hr;split at hr
 next b hT=>
  split at hr
  next cs hb=>
   split at hr
   next i id sz lo len aq7=>
    split at hr
    next vs hvs=>
     split at hr
     next xs hxs=>
      split at hr
      next W5=>
       cases hr;obtain ⟨hbase,FU,hmay,hbb,hne⟩:=W5;obtain ⟨j,hj,ZE⟩:=tP cs 0 i id sz lo len aq7;obtain rfl:i=j:=V
       obtain ⟨old,hold,hlen,as2⟩:∃old,st.H[id]? =J (.cells old)/\lo+len * sz<=O old/\vs=(old.drop lo).take (len * sz):=by
        grind [rd]
       have hO:=h.H id _ hold;simp only [OR] at hO;obtain ⟨hN,c,e,f,g1,g2,g3,g4,g5⟩:=hO;have hlt:(I id).1<w.heap.size:=by
        grind
       have PI:=y9 hold;have hx:Ext G w (dF G (I id).1 .iA) w:=by
        refine ⟨rfl,rfl,rfl,λ_=>k9 _,k9 _,λb' o hi=>⟨?_,rfl⟩,λb' hb' =>⟨?_,rfl⟩,λ_ c _ _ hc=>⟨c,hc,rfl⟩⟩
        all_goals grind [fE,mF,H6]
       have hkp:∀q,Y8 q G w (dF G (I id).1 .iA) w:=λq b' n hb' =>⟨by grind [H6],rfl⟩
       have PM:∀id',id' ≠id->∀b',G b' = .obj id' ->(dF G (I id).1 .iA) b' = .obj id' /\w.heap[b']? =w.heap[b']? :=λid' hid b' hb' =>⟨by grind [H6],rfl⟩
       have vr:∀{pl:Place} {v:c7} {u:Value},VR G I N w pl v u->VR (dF G (I id).1 .iA) I (λi=>N i/\i≠id) w pl (v.kill id) u :=
        λhv=>VR.mono hx (λ_ _=>rfl) (λ_ h=>h) _ _ _ (Or.inr (hkp _)) (VR.kill id _ _ _ hv)
       have nC:∀(id' :Nat) (o' :x6),(((st.H.take E.lim.base++(st.H.drop E.lim.base).map (x6.kill id)).set id .dead).set b (.cells ((L3 id cs).set i (.d (.slice len xs)))))[id']? =J o' ->
         (id' =b/\o' = .cells ((L3 id cs).set i (.d (.slice len xs))))\/(id' ≠b/\id' =id/\o' = .dead)\/(id' ≠b/\id' ≠id/\id' <E.lim.base/\st.H[id']? =J o')\/(id' ≠b/\id' ≠id/\E.lim.base<=id' /\∃o1,st.H[id']? =J o1/\o' =o1.kill id):=by
        intro id' o' ho'
        by_cases e1:id' =b
        .grind
        .rw [x5 (λe=>e1 e.symm)] at ho'
         grind
       have rL:A2 ((L3 id cs).set i (.d (.slice len xs)))<=A2 cs:=o5 (jB _ _ _) (bU id cs);refine ⟨dF G (I id).1 .iA,λi=>N i/\i≠id,⟨?_,?_,?_,?_,?_,?_,?_,h.size,h.idle⟩,⟨hx,?_,λ_ _ _=>rfl,?_,λ_ _ hn=>hn.1,?_⟩⟩
       .intro s' t ht
        simp only [rJ];exact vr (h.T s' t ht)
       .intro id' o' ho'
        rcases nC id' o' ho' with ⟨rfl,rfl⟩|⟨_,rfl,rfl⟩|⟨e1,e2,e3,e4⟩|⟨e1,e2,e3,o1,e4,rfl⟩
        .have hk:=OR.kill id (λe=>hne e.symm) _ (h.H id' _ hb)
         have hk:=OR.mono hx (λ_ _=>rfl) (λ_ h=>h) id' _ (λhb' =>PM id' (λe=>hne e.symm) _ hb') (λ_=>hkp _) hk;simp only [x6.kill,OR] at hk ⊢;obtain ⟨k0,c2,e2,f2,k1,k2,k3,k4,k5⟩:=hk;refine ⟨k0,c2,e2,f2,k1,k2,k3,by grind,λi' x' hx' =>?_⟩
         by_cases ei:i' =i
         .subst ei
          have xZ:i' <O (L3 id cs):=by grind
          rw [E6 xZ] at hx';cases hx';have hOb:=h.H id' _ hb;simp only [OR] at hOb;obtain ⟨_,c3,e3,f3,m1,_,_,_,m5⟩:=hOb;rw [k1] at m1;cases m1;obtain ⟨u,u1,u2⟩:=m5 i' _ ZE;refine ⟨u,u1,?_⟩;simp only [VR] at u2 ⊢;obtain ⟨_,cap,rfl,u3,_⟩:=u2;simp only [DR];refine Or.inr ⟨(I id).1,(I id).2+lo,cap,rfl,u3,LF _ (λo=>by grind [fE,mF]) vs xs _ hxs λj v hj=>?_⟩;subst as2;have hj2:j<len * sz/\old[lo+j]? =J v:=by
           grind
          obtain ⟨y,y1,y2⟩:=g5 _ _ hj2.2;refine ⟨y,?_,λd hd=>DR.mono hx.iA _ _ (FH hd y2)⟩
          grind [World.cell?,M6]
         grind
        .simp [OR]
        .have Ml:=OR.low (n:=E.lim.base) e3 o' ((h.R8 id' o' e4).2 e3) (h.H id' o' e4)
         exact OR.mono hx (λ_ _=>rfl) (λi hi=>⟨hi.1,V⟩) id' o' (λhb' =>PM id' e2 _ hb') (λ_=>hkp _) Ml
        .exact OR.mono hx (λ_ _=>rfl) (λ_ h=>h) id' _ (λhb' =>PM id' e2 _ hb') (λ_=>hkp _) (OR.kill id e2 o1 (h.H id' o1 e4))
       .intro b' hb'
        rw [H6 V];exact h.wf b' hb'
       .intro id' o' ho'
        rcases nC id' o' ho' with ⟨rfl,rfl⟩|⟨_,rfl,rfl⟩|⟨e1,e2,e3,e4⟩|⟨e1,e2,e3,o1,e4,rfl⟩
        .obtain ⟨d1,d2⟩:=h.R8 id' _ hb
         grind [x6.H7,o5]
        .simp_all [x6.H7]
        .exact h.R8 id' o' e4
        .obtain ⟨d1,d2⟩:=h.R8 id' o1 e4
         grind [zZ,o5]
       .rw [O6];exact h.V2
       .intro id' hn
        have:=h.Z8 id' hn.1
        grind
       .grind
       .intro id' hm
        grind
       all_goals grind
      .cases hr
     .cases hr
    .cases hr
   .cases hr
  .cases hr
 .cases hr
def yj (E:Env)(H:k8)(w:World)(G:Gh)(I:P3)(N:Nat->Prop)(H' :k8)(w' :World)(G' :Gh)(I' :P3)(N' :Nat->Prop):Prop :=
 ∀H0 w0 G0 I0 N0,(E.entry=0->∀b n pl,G0 b≠ .grow n pl)->X8 E H0 w0 G0 I0 N0 H w G I N->X8 E H0 w0 G0 I0 N0 H' w' G' I' N'
def X8.Zr {E:Env}{H H' :k8}{w w' :World}{G G' :Gh}{I I' :P3}{N N' :Nat->Prop}(h:X8 E H w G I N H' w' G' I' N'):yj E H w G I N H' w' G' I' N' :=
 λ_ _ _ _ _ _ h0=>h0.trans h
theorem yj.refl (E:Env)(H:k8)(w:World)(G:Gh)(I:P3)(N:Nat->Prop):yj E H w G I N H w G I N:=λ_ _ _ _ _ _ h=>h
theorem yj.trans {E:Env}{H0 H1 H2:k8}{w0 w1 w2:World}{G0 G1 G2:Gh}{I0 I1 I2:P3}{N0 N1 N2:Nat->Prop}
  (h:yj E H0 w0 G0 I0 N0 H1 w1 G1 I1 N1) (k:yj E H1 w1 G1 I1 N1 H2 w2 G2 I2 N2):yj E H0 w0 G0 I0 N0 H2 w2 G2 I2 N2 :=
 λH w G I N hg hs=>k H w G I N hg (h H w G I N hg hs)
theorem cq:∀l:List c7,O (O4 l)=O l
 |[]=>rfl
 |_::l=>by simp [O4,cq l]
theorem lH:∀(l:List c7) (i:Nat),(O4 l)[i]? =(l[i]?).map c7.forget
 |[],_=>by rfl
 |_::_,0=>by rfl
 |_::l,i+1=>by simpa [O4] using lH l i
def ta (l:List c7)(s:Nat):(O4 l).getD s .any=(l.getD s .any).forget:=by
 grind [lH,c7.forget]
section
variable {G' :Gh} {I' :P3} {N' :Nat->Prop}
mutual
theorem VR.forget (hI:∀id,N id->I' id=I id)(hN:∀id,N id->N' id):∀(pl:Place) (v:c7) (u:Value),VR G I N w pl v u->VR G' I' N' w pl v.forget u
 |_,.any,_,_=>by simp [c7.forget,VR]
 |_,.d x,_,h=>by
  cases x
  case slice n cells =>
   cases cells with
   |nil =>
    simp_all [c7.forget,VR,DR,dx]
   |cons c cs=>simp [c7.forget,VR]
  all_goals simp_all [c7.forget,VR,DR]
 |_,.ptr id off,_,h=>by
  simp_all [c7.forget,VR]
 |_,.Z5 _,_,_=>by simp [c7.forget,VR]
 |_,.s5 id sz lo len,_,h=>by
  simp_all [c7.forget,VR]
 |_,.own _ _ _,_,_=>by simp [c7.forget,VR]
 |_,.O5,_,h=>by simp_all [c7.forget,VR]
 |_,.agg l,_,h=>by
  obtain ⟨cs,h1,h2⟩:=h;exact ⟨cs,h1,I6.forget hI hN l _ h2⟩
 |_,.tuple l,_,h=>by
  obtain ⟨cs,h1,h2⟩:=h;exact ⟨cs,h1,I6.forget hI hN l _ h2⟩
 |_,.func f a b,_,h=>by
  obtain ⟨x,y,h1,h2,h3⟩:=h;exact ⟨x,y,h1,I6.forget hI hN a _ h2,I6.forget hI hN b _ h3⟩
 |_,.map id,_,h=>by
  simp_all [c7.forget,VR]
theorem I6.forget (hI:∀id,N id->I' id=I id)(hN:∀id,N id->N' id):∀(l:List c7) (vs:List Value),I6 G I N w l vs->I6 G' I' N' w (O4 l) vs
 |[],_,h=>by grind [O4,I6]
 |a::as,vs,h=>by
  obtain ⟨x,xs,h1,h2,h3⟩:=h;exact ⟨x,xs,h1,VR.forget hI hN .none a x h2,I6.forget hI hN as xs h3⟩
end
theorem ER.forget (hI:∀id,N id->I' id=I id)(hN:∀id,N id->N' id):∀(l:List (Key×c7)) (es:List MapEntry),ER G I N w l es->ER G' I' N' w (l.map λp=>(p.1,p.2.forget)) es
 |[],_,h=>by grind [ER]
 |(k,v)::r,es,h=>by
  obtain ⟨e,es',h1,h2,h3,h4⟩:=h;exact ⟨e,es',h1,h2,VR.forget hI hN _ _ _ h3,ER.forget hI hN r es' h4⟩
theorem OR.forget (hI:∀id,N id->I' id=I id)(hN:∀id,N id->N' id)(hG:∀b id,G b= .obj id->G' b= .obj id)(id:Nat)(o:x6)(h:OR G I N w id o):OR G' I' N' w id o.forget:=by
 cases o with
 |dead=>simp [x6.forget,OR]
 |cells l =>
  simp [x6.forget,OR] at h ⊢
  grind [cq,lH,VR.forget]
 |map es =>
  grind [x6.forget,OR,ER.forget]
end
theorem tJ:∀(cs:List c7) (k i sz len:Nat) (xs:List Data),tH cs k=J (i,sz,len,xs)->∃j,i=k+j/\cs[j]? =J (.own sz len xs)
 |[],_,_,_,_,_,h=>by simp [tH] at h
 |c::cs,k,i,sz,len,xs,h=>by
  cases c
  case own sz' len' xs' =>
   simp_all [tH,Option.some.injEq,Prod.mk.injEq]
  all_goals
   obtain ⟨j,h1,h2⟩:=tJ cs (k+1) i sz len xs (by simp_all [tH]);simp_all<;>grind
theorem AX {b:Nat}:∀(xs:List Data) (o i:Nat) (d:Data),dx G w b o xs->xs[i]? =J d->∃x,w.cell? (ad b (o+i))=J x/\DR G w d x
 |[],_,_,_,_,h=>by simp at h
 |c::cs,o,0,d,hd,h=>by
  simp_all [dx]
 |c::cs,o,i+1,d,hd,h=>by
  obtain ⟨x,h1,h2⟩:=AX cs (o+1) i d hd.2.2 (by simpa using h)
  grind
def Hv {G' :Gh}{d:Data}{x:Value}(hf:d.flat=W)(h:DR G w d x):DR G' w d x:=by
 cases d
 case slice n cs=>simp [Data.flat] at hf
 all_goals simp_all [DR]
def Om (_h:Cd P names E nt st a w G I N){b2 n2 m:Nat}{pl2:Place}(aO5:b2<w.heap.size)(k6:G b2= .grow n2 pl2)(hG:∀b' id,G b' = .obj id->dF G b2 (.obj m) b' = .obj id)(FU:E.entry=0)(hbase:E.lim.base=0){H' :k8}{I' :P3}{N' :Nat->Prop} :
  yj E st.H w G I N H' w (dF G b2 (.obj m)) I' N' :=by
 intro H0 w0 G0 I0 N0 hg hs;have hne:∀b',(fE G0 b' =fE G0 b')/\((G0 b' = .iA\/∃n,G0 b' = .held n)->b' ≠b2):=λb' =>⟨rfl,λhi e=>by
  subst e;have:=(hs.ext.still b' hi).1;simp_all⟩
 have TE:∀b' o',fE G0 b' o' ->G0 b' = .iA\/∃n,G0 b' = .held n:=λb' o' hi=>by
  grind [fE,absurd]
 refine ⟨⟨hs.ext.os,hs.ext.tape,hs.ext.output,hs.ext.drawn,hs.ext.size,λb' o' hi=>?_,λb' hi=>?_,hs.ext.shape⟩,?_,?_,?_,?_,?_⟩
 .obtain ⟨q1,q2⟩:=hs.ext.iA b' o' hi
  grind [fE,H6]
 .obtain ⟨q1,q2⟩:=hs.ext.still b' hi
  simp_all [H6]
 .intro id hm
  obtain ⟨p1,p2⟩:=hs.bu id hm;refine ⟨λb' hb' =>?_,λoff b' n hb' =>absurd hb' (hg FU _ _ _)⟩;simp_all
 all_goals omega
def Td (hbase:E.lim.base=0){H' :k8}:yj E st.H w G I N H' w G I N:=λ_ _ _ _ _ _ hs=>⟨hs.ext,hs.bu,hs.inj,hs.mono,hs.old,λid o' hlt=>V⟩
def Ol (h:Cd P names E nt st a w G I N){s:Nat}(hr:EM E.lim E.entry s st=J st'):∃G' I' N',Cd P names E nt st' a w G' I' N' /\yj E st.H w G I N st'.H w G' I' N' :=by
 unfold EM at hr;split at hr
 next b hT=>
  split at hr
  next cs hb=>
   split at hr
   next i sz len xs how=>
    split at hr
    .cases hr
     exact ⟨G,I,N,h,yj.refl _ _ _ _ _ _⟩
    split at hr
    next hl0 W5=>
     cases hr;obtain ⟨FU,hbase,Ms,HN⟩:=W5;obtain ⟨j,hj,ZE⟩:=tJ cs 0 i sz len xs how;obtain rfl:i=j:=V
     have hO:=h.H b _ hb;simp only [OR] at hO;obtain ⟨hN,c,e,f,g1,g2,g3,g4,g5⟩:=hO;obtain ⟨v,v1,v2⟩:=g5 i _ ZE;simp only [VR] at v2;obtain ⟨hlen,v2⟩:=v2
     rcases v2 with ⟨_,v2⟩|⟨_,b2,o,cap,c2,e2,f2,rfl,k2,k3,k4,k5,k6,k7⟩
     .exact absurd v2 hl0
     have Tt:b2<w.heap.size:=by
      rcases y8 b2 w.heap.size with h|h
      .exact h
      .rw [Array.getElem?_eq_none h] at k3;cases k3
     have hbl:=y9 hb;have hI:∀id,N id->(λk=>if k=O st.H then (b2,o) else I k) id=I id:=λid hid=>by
      have:=h.Z8 id hid;simp only;rw [if_neg V]
     have Vm :∀id,N id->(λk=>N k\/k=O st.H) id:=λid hid=> .inl hid
     have hG:∀b' id,G b' = .obj id->dF G b2 (.obj (O st.H)) b' = .obj id:=λb' id hb' =>by
      rw [H6 (by rintro rfl;rw [k6] at hb';cases hb')];exact hb'
     have nC:∀(id' :Nat) (o' :x6),((st.H.map x6.forget).set b (.cells ((O4 cs).set i (.s5 (O st.H) sz 0 len)))++[.cells (xs.map .d)])[id']? =J o' ->
       (id' =b/\o' = .cells ((O4 cs).set i (.s5 (O st.H) sz 0 len)))\/(id' ≠b/\∃o1,st.H[id']? =J o1/\o' =o1.forget)\/(id' =O st.H/\o' = .cells (xs.map .d)):=by
      intro id' o' ho'
      rcases y8 id' (O st.H) with hlt|hge
      .rw [y7 (by simpa using hlt)] at ho'
       by_cases e1:id' =b
       .subst e1
        rw [E6 (by simpa using hlt)] at ho';cases ho';exact .inl ⟨rfl,rfl⟩
       .rw [x5 (λe=>e1 e.symm),List.getElem?_map] at ho'
        cases h1:st.H[id']? with
        |none=>rw [h1] at ho';cases ho'
        |some o1 =>
         rw [h1] at ho';cases ho';exact .inr (.inl ⟨e1,o1,rfl,rfl⟩)
      .rw [x7 (by simpa using hge)] at ho'
       have h0:id' - O ((st.H.map x6.forget).set b (.cells ((O4 cs).set i (.s5 (O st.H) sz 0 len))))=0:=by
        have:=y9 ho';simp only [E5] at this;omega
       rw [h0] at ho';simp only [List.length_set,A3] at h0;simp only [List.getElem?_cons_zero,Option.some.injEq] at ho';exact .inr (.inr ⟨V,ho'.symm⟩)
     have Xb:VR (dF G b2 (.obj (O st.H))) (λk=>if k=O st.H then (b2,o) else I k) (λk=>N k\/k=O st.H) w (.cell b i) (.s5 (O st.H) sz 0 len) (.slice (J (ad b2 o)) len cap):=by
      simp only [VR,if_true,Nat.add_zero];exact ⟨.inr trivial,cap,rfl,k2,c2,e2,f2,k3,k4⟩
     refine ⟨dF G b2 (.obj (O st.H)),λk=>if k=O st.H then (b2,o) else I k,λk=>N k\/k=O st.H,⟨?_,?_,?_,?_,?_,?_,?_,h.size,h.idle⟩,?_⟩
     .intro s' t ht
      simp only [ta];exact VR.forget hI Vm _ _ _ (h.T s' t ht)
     .intro id' o' ho'
      rcases nC id' o' ho' with ⟨rfl,rfl⟩|⟨_,o1,h1,rfl⟩|⟨rfl,rfl⟩
      .have hk:=OR.forget hI Vm hG id' _ (h.H id' _ hb)
       simp only [x6.forget,OR] at hk ⊢;obtain ⟨q0,c3,e3,f3,q1,q2,q3,q4,q5⟩:=hk;refine ⟨q0,c3,e3,f3,q1,q2,q3,by simpa using q4,λi' x' hx' =>?_⟩
       by_cases ei:i' =i
       .subst ei
        rw [E6 (by rw [cq];exact y9 ZE)] at hx';cases hx';rw [if_neg V,g1] at q1;cases q1;refine ⟨_,?_,Xb⟩;rw [if_neg V];exact v1
       .rw [x5 (λe=>ei e.symm)] at hx'
        exact q5 i' x' hx'
      .exact OR.forget hI Vm hG id' _ (h.H id' o1 h1)
      .simp only [OR,if_true]
       refine ⟨.inr trivial,c2,e2,f2,k3,mF _ _ _,k5,?_,λi' x' hx' =>?_⟩
       .have:=F8 sz k2
        rw [A3,hlen];omega
       .rw [List.getElem?_map] at hx'
        cases hd:xs[i']? with
        |none=>rw [hd] at hx';cases hx'
        |some d =>
         rw [hd] at hx';cases hx';obtain ⟨x,x1,x2⟩:=AX xs o i' d k7 hd;refine ⟨x,?_,?_⟩
         .simp only [World.cell?,k3] at x1
          simpa using x1
         .simp only [VR]
          exact Hv (List.all_eq_true.1 HN d (List.mem_of_getElem? hd)) x2
     .intro b' hb'
      rw [H6 V];exact h.wf b' hb'
     .intro id' o' ho'
      exact ⟨λhh=>V,λhh=>V⟩
     .rw [cq];exact h.V2
     .intro id' hn
      rcases hn with hn|rfl
      .have:=h.Z8 id' hn
       simp;omega
      .simp
     .have:=h.AZ
      simp;omega
     .exact Om h Tt k6 hG FU hbase
    .cases hr
   .cases hr
  .cases hr
 next sz len xs hT=>
  split at hr
  .cases hr
   exact ⟨G,I,N,h,yj.refl _ _ _ _ _ _⟩
  split at hr
  next hl0 W5=>
   cases hr;obtain ⟨FU,hbase,Ms,HN⟩:=W5;have oF:=y9 hT;have hlt:=h.V2;obtain ⟨t,ht⟩:∃t,names[s]? =J t:=⟨_,o3 V⟩;have v2:=h.T s t ht;rw [List.getD_eq_getElem?_getD,hT,Option.getD_some] at v2;simp only [VR] at v2;obtain ⟨hlen,v2⟩:=v2
   rcases v2 with ⟨_,v2⟩|⟨_,b2,o,cap,c2,e2,f2,hv,k2,k3,k4,k5,k6,k7⟩
   .exact absurd v2 hl0
   have Tt:b2<w.heap.size:=by
    rcases y8 b2 w.heap.size with h|h
    .exact h
    .rw [Array.getElem?_eq_none h] at k3;cases k3
   have hI:∀id,N id->(λk=>if k=O st.H then (b2,o) else I k) id=I id:=λid hid=>by
    have:=h.Z8 id hid;simp only;rw [if_neg V]
   have Vm :∀id,N id->(λk=>N k\/k=O st.H) id:=λid hid=> .inl hid
   have hG:∀b' id,G b' = .obj id->dF G b2 (.obj (O st.H)) b' = .obj id:=λb' id hb' =>by
    rw [H6 (by rintro rfl;rw [k6] at hb';cases hb')];exact hb'
   refine ⟨dF G b2 (.obj (O st.H)),λk=>if k=O st.H then (b2,o) else I k,λk=>N k\/k=O st.H,⟨?_,?_,?_,?_,?_,?_,?_,h.size,h.idle⟩,Om h Tt k6 hG FU hbase⟩
   .intro s' t' ht'
    by_cases e:s' =s
    .subst e
     rw [ht] at ht';cases ht';rw [List.getD_eq_getElem?_getD,E6 (by rw [cq];exact oF),Option.getD_some,hv];simp only [VR,if_true,Nat.add_zero];exact ⟨.inr trivial,cap,rfl,k2,c2,e2,f2,k3,k4⟩
    .rw [List.getD_eq_getElem?_getD,x5 (λh=>e h.symm),<- List.getD_eq_getElem?_getD,ta]
     exact VR.forget hI Vm _ _ _ (h.T s' t' ht')
   .intro id' o' ho'
    rcases y8 id' (O st.H) with hlt' |hge
    .rw [y7 (by simpa using hlt'),List.getElem?_map] at ho'
     cases h1:st.H[id']? with
     |none=>rw [h1] at ho';cases ho'
     |some o1 =>
      rw [h1] at ho';cases ho';exact OR.forget hI Vm hG id' _ (h.H id' o1 h1)
    .rw [x7 (by simpa using hge)] at ho'
     have h0:id' - O (st.H.map x6.forget)=0:=by
      have:=y9 ho';simp only [E5] at this;omega
     rw [h0] at ho';simp only [A3] at h0;simp only [List.getElem?_cons_zero,Option.some.injEq] at ho';obtain rfl:id' =O st.H:=V
     subst ho';simp only [OR,if_true];refine ⟨.inr trivial,c2,e2,f2,k3,mF _ _ _,k5,?_,λi' x' hx' =>?_⟩
     .have:=F8 sz k2
      rw [A3,hlen];omega
     .rw [List.getElem?_map] at hx'
      cases hd:xs[i']? with
      |none=>rw [hd] at hx';cases hx'
      |some d =>
       rw [hd] at hx';cases hx';obtain ⟨x,x1,x2⟩:=AX xs o i' d k7 hd;refine ⟨x,?_,?_⟩
       .simp only [World.cell?,k3] at x1
        simpa using x1
       .simp only [VR]
        exact Hv (List.all_eq_true.1 HN d (List.mem_of_getElem? hd)) x2
   .intro b' hb'
    rw [H6 V];exact h.wf b' hb'
   .intro id' o' ho'
    exact ⟨λhh=>V,λhh=>V⟩
   .rw [List.length_set,cq];exact h.V2
   .intro id' hn
    rcases hn with hn|rfl
    .have:=h.Z8 id' hn
     simp;omega
    .simp
   .have:=h.AZ
    simp;omega
  .cases hr
 .split at hr
  next hc=>
   cases hr;obtain ⟨_,hb,hst⟩:=hc;refine ⟨G,I,N,⟨h.T,λid' o' ho' =>?_,h.wf,λid' o' ho' =>⟨λhh=>V,λhh=>V⟩,h.V2,λid' hn=>?_,?_,h.size,h.idle⟩,Td hb⟩
   .rcases y8 id' (O st.H) with hlt|hge
    .rw [y7 hlt] at ho'
     exact h.H id' o' ho'
    .rw [x7 hge] at ho'
     have:=List.mem_of_getElem? ho';rw [List.mem_singleton] at this;subst this;simp only [OR]
   .have:=h.Z8 id' hn
    simp;omega
   .have:=h.AZ
    simp;omega
  .cases hr
 .cases hr
def Tl (h:Cd P names E nt st a w G I N){s:Nat}(hr:kI E.lim E.entry s st=J st'):∃G' I' N',Cd P names E nt st' a w G' I' N' /\yj E st.H w G I N st'.H w G' I' N' :=by
 unfold kI at hr;split at hr
 next r h1=>
  cases hr;obtain ⟨G',N',h2,h3⟩:=Md h h1;exact ⟨G',I,N',h2,h3.Zr⟩
 .exact Ol h hr
end
end Go.z6


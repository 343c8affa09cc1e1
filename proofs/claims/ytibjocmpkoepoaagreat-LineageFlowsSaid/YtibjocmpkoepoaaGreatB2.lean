import Derived.Test.YtibjocmpkoepoaaGreatB0
import Derived.Orders
set_option linter.all false
open Bool renaming and_eq_true → c7, eq_false_or_eq_true → B7, false_eq_true → j4, not_eq_true' → o7, or_eq_false_iff → G8
open List renaming all_eq_true → Q2, append_assoc → D2, getElem?_append_left → A8, getElem?_append_right → u9, getElem?_eq_getElem → n9, getElem?_set_ne → B5, getElem?_set_self → L0, length_append → k9, length_cons → p8, length_map → B9, length_nil → y8, map_cons → L8, mem_cons → B8, mem_singleton → s8, replicate → c9, set_cons_succ → s4
open Nat renaming add_assoc → M6, le_refl → n5, le_trans → F9, lt_or_ge → A5
open Option renaming map_some → M7
namespace Go.A2
variable [C9]
mutual
theorem VR.kill {G:Gh}{I:S7}{N:Nat->Prop}{w:World}(id:Nat):∀ (pl:Place) (a:c8) (x:Value),VR G I N w pl a x->VR G I (fun i=>N i/\i≠id) w pl (a.kill id) x
 |_,.any,_,_=>by simp [c8.kill,VR]
 |_,.d _,_,h=>by grind [c8.kill,VR]
 |_,.ptr i o,x,h=>by
  grind [c8.kill,VR]
 |_,.T4 _,_,h=>by grind [c8.kill,VR]
 |_,.B4 i z lo n,x,h=>by
  grind [c8.kill,VR]
 |_,.own _ _ _,_,h=>by simp_all [c8.kill,VR]
 |_,.O2,_,h=>by simp_all [c8.kill,VR]
 |_,.agg l,x,h=>by
  obtain ⟨cs,h1,h2⟩:=h;exact ⟨cs,h1,J4.kill id l _ h2⟩
 |_,.tuple l,x,h=>by
  obtain ⟨cs,h1,h2⟩:=h;exact ⟨cs,h1,J4.kill id l _ h2⟩
 |_,.func f a b,x,h=>by
  obtain ⟨u,v,h1,h2,h3⟩:=h;exact ⟨u,v,h1,J4.kill id a _ h2,J4.kill id b _ h3⟩
 |_,.map i,x,h=>by
  grind [c8.kill,VR]
theorem J4.kill {G:Gh}{I:S7}{N:Nat->Prop}{w:World}(id:Nat):∀ (l:List c8) (xs:List Value),J4 G I N w l xs->J4 G I (fun i=>N i/\i≠id) w (I6 id l) xs
 |[],_,h=>by grind [I6,J4]
 |a::as,xs,h=>by
  obtain ⟨x,xs',h1,h2,h3⟩:=h;exact ⟨x,xs',h1,VR.kill id _ a x h2,J4.kill id as xs' h3⟩
end
mutual
theorem VR.low {G:Gh}{I:S7}{N:Nat->Prop}{w:World}(n:Nat):∀ (pl:Place) (a:c8) (x:Value),a.O5<=n->VR G I N w pl a x->VR G I (fun i=>N i/\i<n) w pl a x
 |_,.any,_,_,_=>by simp [VR]
 |_,.d _,_,_,h=>by grind [VR]
 |_,.ptr i o,x,hb,h=>by grind [c8.O5,VR]
 |_,.T4 _,_,_,h=>by grind [VR]
 |_,.B4 i z lo n',x,hb,h=>by grind [c8.O5,VR]
 |_,.own _ _ _,_,_,h=>by simp_all [VR]
 |_,.O2,_,_,h=>by simp_all [VR]
 |_,.agg l,x,hb,h=>by
  obtain ⟨cs,h1,h2⟩:=h;exact ⟨cs,h1,J4.low n l _ hb h2⟩
 |_,.tuple l,x,hb,h=>by
  obtain ⟨cs,h1,h2⟩:=h;exact ⟨cs,h1,J4.low n l _ hb h2⟩
 |_,.func f a b,x,hb,h=>by
  simp [c8.O5] at hb;obtain ⟨u,v,h1,h2,h3⟩:=h;exact ⟨u,v,h1,J4.low n a _ (by omega) h2,J4.low n b _ (by omega) h3⟩
 |_,.map i,x,hb,h=>by grind [c8.O5,VR]
theorem J4.low {G:Gh}{I:S7}{N:Nat->Prop}{w:World}(n:Nat):∀ (l:List c8) (xs:List Value),C5 l<=n->J4 G I N w l xs->J4 G I (fun i=>N i/\i<n) w l xs
 |[],_,_,h=>by grind [J4]
 |a::as,xs,hb,h=>by
  simp [C5] at hb;obtain ⟨x,xs',h1,h2,h3⟩:=h;exact ⟨x,xs',h1,VR.low n _ a x (by omega) h2,J4.low n as xs' (by omega) h3⟩
end
section
variable {P:Program} {X:Cx} {l:H7} {S:Nat->Prop} {st:H6} {a:Act} {w w' :World} {G:Gh} {I:S7} {N:Nat->Prop} {D:Nat->Bool} {l5:List o9}
theorem ER.kill (id:Nat):∀ (es:List (Key×c8)) (xs:List MapEntry),ER G I N w es xs->ER G I (fun i=>N i/\i≠id) w (es.map fun p=>(p.1,p.2.kill id)) xs
 |[],_,h=>by grind [ER]
 |(k,v)::r,xs,h=>by
  obtain ⟨e,es',h1,h2,h3,h4⟩:=h;exact ⟨e,es',h1,h2,VR.kill id _ v _ h3,ER.kill id r es' h4⟩
theorem ER.low (n:Nat):∀ (es:List (Key×c8)) (xs:List MapEntry),C5 (es.map (·.2))<=n->ER G I N w es xs->ER G I (fun i=>N i/\i<n) w es xs
 |[],_,_,h=>by grind [ER]
 |(k,v)::r,xs,hb,h=>by
  simp [L8,C5] at hb;obtain ⟨e,es',h1,h2,h3,h4⟩:=h;exact ⟨e,es',h1,h2,VR.low n _ v _ (by omega) h3,ER.low n r es' (by omega) h4⟩
theorem gI (id:Nat):∀ (l:List c8) (i:Nat),(I6 id l)[i]? =(l[i]?).map (c8.kill id)
 |[],i=>by simp [I6]
 |v::vs,0=>by simp [I6]
 |v::vs,i+1=>by simp [I6,gI id vs i]
theorem S1 (id:Nat)(l:List c8):(I6 id l).length=l.length:=by
 induction l with
 |nil=>rfl
 |cons v vs ih=>simp [I6,ih]
def wN (id:Nat)(l:List c8)(i:Nat):(I6 id l).getD i .any=(l.getD i .any).kill id:=by
 grind [List.getD,gI,c8.kill]
mutual
theorem IJ (id:Nat):∀ (a:c8),(a.kill id).O5<=a.O5
 | .any=>by simp [c8.kill]
 | .d _=>by simp [c8.kill]
 | .ptr i o=>by grind [c8.kill,c8.O5]
 | .T4 _=>by simp [c8.kill]
 | .B4 i z lo n=>by grind [c8.kill,c8.O5]
 | .own _ _ _=>by simp [c8.kill]
 | .O2=>by simp [c8.kill]
 | .agg l=>by exact eB id l
 | .tuple l=>by exact eB id l
 | .func f a b=>by
  simp [c8.kill,c8.O5];have:=eB id a;have:=eB id b;omega
 | .map i=>by grind [c8.kill,c8.O5]
theorem eB (id:Nat):∀ (l:List c8),C5 (I6 id l)<=C5 l
 |[]=>by simp [I6]
 |v::vs=>by
  simp [I6,C5];have:=IJ id v;have:=eB id vs;omega
end
theorem DY (id:Nat):∀ (es:List (Key×c8)),C5 ((es.map fun p=>(p.1,p.2.kill id)).map (·.2))<=C5 (es.map (·.2))
 |[]=>by simp
 |(k,v)::r=>by
  simp only [L8,C5];have:=IJ id v;have:=DY id r;omega
theorem EF (id:Nat)(o:A1):(o.kill id).O5<=o.O5:=by
 cases o with
 |dead=>simp [A1.kill]
 |cells l=>simp_all [A1.kill,A1.O5,eB]
 |map es=>simpa only [A1.kill,A1.O5] using DY id es
theorem OR.kill (id:Nat){id' :Nat}(hne:id' ≠id)(o:A1)(h:OR G I N w id' o):OR G I (fun i=>N i/\i≠id) w id' (o.kill id):=by
 cases o with
 |dead=>simp [A1.kill,OR]
 |cells l0 =>
  grind [A1.kill,OR,S1,gI,VR.kill]
 |map es =>
  obtain ⟨hN,arr,gm,h1,h2,h3,h4⟩:=h;exact ⟨⟨hN,hne⟩,arr,gm,h1,h2,ER.kill id es _ h3,h4⟩
theorem tW:∀ (l:List c8) (i:Nat) (x:c8),l[i]? =some x->x.O5<=C5 l
 |[],_,_,h=>by simp at h
 |v::vs,0,x,h=>by grind [C5]
 |v::vs,i+1,x,h=>by have:=tW vs i x (by simpa using h);grind [C5]
theorem OR.low {id n:Nat}(hn:id<n)(o:A1)(hb:o.O5<=n)(h:OR G I N w id o):OR G I (fun i=>N i/\i<n) w id o:=by
 cases o with
 |dead=>simp [OR]
 |cells l0 =>
  obtain ⟨hN,c,e,f,h1,h2,h3,h4,h5⟩:=h
  .refine ⟨⟨hN,hn⟩,c,e,f,h1,h2,h3,h4,fun i x hx=> ?_⟩
   obtain ⟨v,g1,g2⟩:=h5 i x hx;exact ⟨v,g1,VR.low n _ x v (by exact F9 (tW _ _ _ hx) hb) g2⟩
 |map es =>
  grind [OR,ER.low,A1.O5]
end
end Go.A2
namespace Go.A2
variable [C9]
section
variable {P:Program} {X:Cx} {l:H7} {S:Nat->Prop} {st:H6} {a:Act} {w w' :World} {G G' :Gh} {I I' :S7} {N:Nat->Prop} {D:Nat->Bool} {l5:List o9}
def qV (H:p9)(base id:Nat)(o:A1):p9:=(H.take base++(H.drop base).map (A1.kill id)).set id o
def yh {H:p9}{base id:Nat}{o:A1}(hid:id<H.length){id' :Nat}{o' :A1}(h:(qV H base id o)[id']? =some o') :
  (id' =id/\o' =o)\/(id' ≠id/\id' <base/\H[id']? =some o')\/(id' ≠id/\base<=id' /\∃ o0,H[id']? =some o0/\o' =o0.kill id):=by
 unfold qV at h;have hlen:(H.take base++(H.drop base).map (A1.kill id)).length=H.length:=by simp;omega
 by_cases he:id' =id
 .simp_all
 .by_cases hb:id' <base
  .grind
  .by_cases hl:base<=H.length
   .grind
   grind
def dG.Wl (h:RI X l S st a w G I N){k:Nat}(hk:¬ S k)(bS:k<st.L.length){entry id:Nat}{o0:A1}(h0:st.H[id]? =some o0)(hbase:l.base<=id)(Nx:entry<=id)(hmay:l.may id=true)
  (hx:Ext G w G' w') (hkp:∀ q,bZ q G w G' w') (ho:∀ id',id' ≠id->∀ b,G b= .obj id' ->G' b= .obj id' /\w'.heap[b]? =w.heap[b]?) (hwf:WF G' w') (hI:∀ i,i≠id->I' i=I i)
  {cs:List c8} (ad1:OR G' I' N w' id (.cells cs)) (wP:C5 cs<=max o0.O5 (id+1)) {v:c8} {x:Value} (hv:VR G' I' N w' (.loc k) v x) (p7:List Touch) (Ty:p7.any (Touch.L4 id)=true) :
  dG X l S entry st a w G I N (put { T:=I6 id st.T,H:=qV st.H l.base id (.cells cs),L:=I6 id st.L,p7 } k v) k x w' G' I' N:=by
 have hid:=u7 h0;have hI' :∀ i,(N i/\i≠id)->I' i=I i:=fun i hi=>hI i hi.2
 have hNN:∀ i,(N i/\i≠id)->N i:=fun i hi=>hi.1
 have vr:∀ {pl:Place} {b:c8} {u:Value},VR G I N w pl b u->VR G' I' N w' pl (b.kill id) u :=
  fun hb=>VR.mono hx hI' hNN _ _ _ (Or.inr (hkp _)) (VR.kill id _ _ _ hb)
 refine ⟨⟨?_,?_,?_,hwf,?_⟩,?_,hx,?_,?_,?_,fun _ h=>h,?_,?_⟩
 .intro s t ht
  simp only [A2.put,wN];exact vr (h.T s t ht)
 .intro j hj d hd hn
  have:k≠j:=by grind
  simp only [A2.put];rw [R2 _ _ _ _ _ this,wN];exact vr (h.L j hj d hd hn)
 .intro id' o' ho'
  rcases yh hid ho' with ⟨rfl,rfl⟩|⟨hne,hb,hold⟩|⟨hne,hb,o1,hold,rfl⟩
  .exact ad1
  .have VP:=OR.low (n:=l.base) hb o' ((h.W4 id' o' hold).2 hb) (h.H id' o' hold)
   exact OR.mono hx (fun i hi=>hI i (by omega)) (fun i hi=>hi.1) id' o' (fun hb' =>ho id' hne _ hb') (fun _=>hkp _) VP
  .exact OR.mono hx hI' hNN id' _ (fun hb' =>ho id' hne _ hb') (fun _=>hkp _) (OR.kill id hne o1 (h.H id' o1 hold))
 .intro id' o' ho'
  rcases yh hid ho' with ⟨rfl,rfl⟩|⟨hne,hb,hold⟩|⟨hne,hb,o1,hold,rfl⟩
  .obtain ⟨d1,d2⟩:=h.W4 id' o0 h0
   grind [A1.O5]
  .exact h.W4 id' o' hold
  .obtain ⟨d1,d2⟩:=h.W4 id' o1 hold
   grind [EF]
 .simp_all [A2.put,P6,S1]
 .intro id' hm
  grind
 .grind [A2.put]
 all_goals grind [A2.put,qV]
def Km {cs:List c8}{vs:List Value}(h:cs.all c8.one=true)(hv:J4 G I N w cs vs):DK vs:=nZ _ _ h hv
def DB (h:RI X l S st a w G I N)(hD:∀ j,D j=true->S j){k:Nat}(hk:¬ S k)(bS:k<st.L.length){o:Oper}{sz bytes:Nat}{ob:Bool}{x y:y5}
  (hc:jw P (X.ck D) o (.append sz bytes ob x y)=true) {E:Env} (hE:E.lim=l) {id lo len:Nat} (hx:J2 st.T st.L x= .B4 id sz lo len) {st' :H6} (he:U0 E k sz bytes st id lo len (J2 st.T st.L y)=some st') :
  ∃ v w' G' I',(execOp a.eval o).run P w= .ok (.value v) w' /\dG X l S E.entry st a w G I N st' k v w' G' I' N:=by
 obtain ⟨x0,y0,t,t2,e,i,z,hop,UB,hcy,ht2,hsz,hu,hi,hsi,hbi,hz,hzs,hbp⟩:=iP hc;unfold U0 at he;rw [hE] at he;split at he
 .rename_i dN
  split at he
  .rename_i l0 m cs hl0 hcs
   split at he
   .rename_i Ts
    obtain ⟨rfl,hlen,hroom,bv6,hone,_⟩:=Ts;cases he;obtain ⟨vn,hl,hf,hvn,hcl⟩:=xy (P:=P) h.H (h.T1 hD _ _ hcy) hsz hcs;have hval:=h.T1 hD _ _ UB;rw [hx] at hval;simp only [VR] at hval;obtain ⟨ac3,cap,hx0,hcap,c,e',f,hb,Tq⟩:=hval;have yb:(execOp a.eval o).run P w=((Builtin.append_ #[t,t2] o.type #[a.eval x0,a.eval y0]).run P w).andThen fun v w' => .ok (.value v) w' :=by
     obtain ⟨dst,fq,ty,pos,after,guard⟩:=o;simp only at hop;subst hop;simp [execOp,resolve,invoke,builtin]
    have Eu:vn.length=m * sz:=by rw [J4.length _ _ hvn,hcl]
    subst hsi hbi;have hO:=h.H id _ hl0;simp only [OR] at hO;obtain ⟨_,c0,e0,f0,h1,Tu,hnf,ce8,h5⟩:=hO;rw [hb] at h1;cases h1;have wP:C5 (I6 id l0++cs)<=max (A1.cells l0).O5 (id+1):=by
     rw [iu];have:=eB id l0;simp only [A1.O5];omega
    have VS:=Km hone hvn;have vrk:∀ {pl:Place} {b:c8} {u:Value},VR G I N w pl b u->VR G I N w pl (b.kill id) u :=
     fun hb=>VR.mono (Ext.refl _ _).sub (fun _ _=>rfl) (fun i hi=>hi.1) _ _ _ (Or.inr (fun _ _ h=>⟨h,rfl⟩)) (VR.kill id _ _ _ hb)
    by_cases hfit:len+m<=cap
    ·
     have hrun:=ig (P:=P) (w:=w) (ty:=o.type) hu hi ht2 (base:=some (ad (I id).1 ((I id).2+0))) (sLen:=len) (sCap:=cap) hl (hf w rfl) hfit;have hbig:(len+m) * i.size<=cap * i.size:=Nat.mul_le_mul_right _ hfit;rw [Nat.add_mul] at hbig;have by1:(I id).2+len * i.size+vn.length<=c.size:=by omega
     have hst:=run_storeCells_at (P:=P) (I id).1 ((I id).2+0+len * i.size) e' f vn 0 c w hb hnf (by omega) VS;have Ep :(I id).2+0+len * i.size+vn.length<=c.toList.length:=by simp;omega
     have wQ :(O8 c.toList ((I id).2+0+len * i.size) vn).toArray.size=c.size:=by rw [List.size_toArray,qh _ _ _ Ep,Array.length_toList]
     have hw:=Fj (G:=G) hb Tu wQ;refine ⟨.slice (some (ad (I id).1 ((I id).2+0))) (len+m) cap,w.setRow (I id).1 (O8 c.toList ((I id).2+0+len * i.size) vn).toArray,G,I,?_,
      dG.Wl h hk bS hl0 dN.1 dN.2.1 dN.2.2 hw.ext hw.keeps (fun id' hne=>hw.BE hne) (fun b' hb' =>h.wf b' (by rw [<- hw.size];exact hb')) (fun _ _=>rfl) ?_ wP ?_ (.obj id::st.p7) (by simp [Touch.L4])⟩
     .rw [yb,hx0,hrun]
      simp only [bw];simp only [Nat.add_zero] at hst ⊢;rw [hst];rfl
     .simp only [OR]
      have mono:∀ {pl:Place} {b:c8} {u:Value},VR G I N w pl b u->VR G I N (w.setRow (I id).1 (O8 c.toList ((I id).2+0+len * i.size) vn).toArray) pl b u :=
       fun hq=>VR.mono hw.ext (fun _ _=>rfl) (fun _ h=>h) _ _ _ (Or.inr (hw.keeps _)) hq
      refine ⟨ac3,_,e',f,setRow_heap w _ c _ e' f hb,Tu,by rw [wQ];exact hnf,?_,fun j b hj=> ?_⟩
      .rw [wQ,k9,S1,hcl];omega
      .rw [show (O8 c.toList ((I id).2+0+len * i.size) vn).toArray[(I id).2+j]? =(O8 c.toList ((I id).2+0+len * i.size) vn)[(I id).2+j]? from by simp,qg _ _ _ Ep]
       have hjl:=u7 hj;rw [k9,S1,hcl] at hjl
       by_cases hjc:j<l0.length
       .rw [A8 (by rw [S1];exact hjc),gI] at hj
        rw [if_pos (by omega)];rw [n9 hjc] at hj;simp at hj;subst hj;obtain ⟨v,g1,g2⟩:=h5 j _ (n9 hjc);exact ⟨v,by simpa using g1,mono (vrk g2)⟩
       .rw [u9 (by rw [S1];omega),S1] at hj
        rw [if_neg (by omega),if_pos (by omega)];obtain ⟨u,r1,r2⟩:=J4.get _ _ hvn (j - l0.length) b hj;exact ⟨u,by rw [show (I id).2+j - ((I id).2+0+len * i.size)=j - l0.length from by omega];exact r1,mono r2.place⟩
     .simp only [VR]
      exact ⟨ac3,cap,rfl,hfit,_,e',f,setRow_heap w _ c _ e' f hb,by rw [wQ];exact Tq⟩
    ·
     have hlt:cap<len+m:=by omega
     have aR0:∃ vo:List Value,vo.length=len * i.size/\(∀ w2:World,w2.heap=w.heap->(Builtin.firstCells i.size len (.slice (some (ad (I id).1 ((I id).2+0))) len cap)).run P w2= .ok vo.toArray w2) /\
       (∀ (j:Nat) b,l0[j]? =some b->∃ v,vo[j]? =some v/\VR G I N w (.cell id j) b v):=by
      refine ⟨(List.range (len * i.size)).map (fun j=>(c[(I id).2+j]?).getD default),by simp,fun w2 ZJ=> ?_,fun j b hj=> ?_⟩
      .have:=run_loadCells_list (P:=P) w2 (ad (I id).1 ((I id).2+0)) ((List.range (len * i.size)).map (fun j=>(c[(I id).2+j]?).getD default)) (fun j v hj=>by
        have hjn:j<len * i.size:=by
         rcases A5 j (len * i.size) with h|h
         .exact h
         .simp [h] at hj
        simp [hjn] at hj;rw [bw,mg ZJ,V5 hb];have hlt:(I id).2+j<c.size:=by omega
        simp [hlt] at hj ⊢;exact hj)
       simpa [Builtin.firstCells] using this
      .have hjn:j<len * i.size:=by have:=u7 hj;omega
       obtain ⟨u,g1,g2⟩:=h5 j b hj;exact ⟨u,by simp [hjn,g1],g2⟩
     obtain ⟨vo,bz3,bz4,bz5⟩:=aR0;obtain ⟨mM,JC,hrun⟩:=jY (P:=P) (w:=w) (ty:=o.type) hu hi hz ht2 (base:=some (ad (I id).1 ((I id).2+0))) (sLen:=len) (sCap:=cap) hl (hf w.drew rfl) (bz4 w.drew rfl) hlt (Hy hroom hbp) (xh hroom hlt);have hnb:kC w (w.drew.alloc (.cells (vo.toArray++vn.toArray++Builtin.zeroCells z.cells (mM - (len+m))) e)) (.cells (vo.toArray++vn.toArray++Builtin.zeroCells z.cells (mM - (len+m))) e):=by
      have:=kC.alloc w.drew (.cells (vo.toArray++vn.toArray++Builtin.zeroCells z.cells (mM - (len+m))) e);exact ⟨this.os,this.tape,this.output,F9 (Nat.le_succ _) this.drawn,this.size,this.old,this.new⟩
     have hsize:(vo.toArray++vn.toArray++Builtin.zeroCells z.cells (mM - (len+m))).size=mM * i.size:=by
      simp only [Array.size_append,List.size_toArray,Ai,hzs,bz3,Eu];have:mM * i.size=(len+m) * i.size+(mM - (len+m)) * i.size:=by rw [<- Nat.add_mul];congr 1;omega
      rw [this,Nat.add_mul]
     refine ⟨.slice (some (ad w.heap.size 0)) (len+m) mM,_,jD G w.heap.size (.obj id),Cz I id (w.heap.size,0),?_,
      dG.Wl h hk bS hl0 dN.1 dN.2.1 dN.2.2 (hnb.ext h.wf _) (hnb.keeps h.wf _) (fun id' _=>hnb.BE h.wf _ id') (hnb.wf h.wf _) (fun i hi=>gP hi) ?_ wP ?_ (.obj id::st.p7) (by simp [Touch.L4])⟩
     .rw [yb,hx0,hrun];rfl
     .simp only [OR]
      have mono:∀ {pl:Place} {b:c8} {u:Value},VR G I N w pl b u->VR (jD G w.heap.size (.obj id)) (Cz I id (w.heap.size,0)) N _ pl (b.kill id) u :=
       fun hq=>VR.mono (hnb.ext h.wf _).sub (fun i hi=>gP hi.2) (fun i hi=>hi.1) _ _ _ (Or.inr (hnb.keeps h.wf _ _)) (VR.kill id _ _ _ hq)
      refine ⟨ac3,_,e,(0,0),by rw [eY];exact hnb.new,by simp,oR _,?_,fun j b hj=> ?_⟩
      .rw [hsize]
       simp only [eY,k9,S1,hcl];have:(len+m) * i.size<=mM * i.size:=Nat.mul_le_mul_right _ JC;rw [Nat.add_mul] at this;omega
      .have hjl:=u7 hj
       rw [k9,S1,hcl] at hjl;simp only [eY,Nat.zero_add];rw [show (vo.toArray++vn.toArray++Builtin.zeroCells z.cells (mM - (len+m)))[j]? =(vo++vn++(Builtin.zeroCells z.cells (mM - (len+m))).toList)[j]? from by rw [<- Array.getElem?_toList];simp,
        A8 (by rw [k9];omega)]
       by_cases hjc:j<l0.length
       .rw [A8 (by rw [S1];exact hjc),gI] at hj
        rw [A8 (by omega)];rw [n9 hjc] at hj;simp at hj;subst hj;obtain ⟨v,g1,g2⟩:=bz5 j _ (n9 hjc);exact ⟨v,g1,mono g2⟩
       .rw [u9 (by rw [S1];omega),S1] at hj
        rw [u9 (by omega)];obtain ⟨u,r1,r2⟩:=J4.get _ _ hvn (j - l0.length) b hj;refine ⟨u,by rw [show j - vo.length=j - l0.length from by omega];exact r1,?_⟩;have hb' :b.O5<=id:=F9 (tW _ _ _ hj) bv6;exact (VR.mono (hnb.ext h.wf _).sub (fun i hi=>gP (by have:=hi.2;omega)) (fun i hi=>hi.1) _ _ _ (Or.inl rfl) (VR.low id _ _ _ hb' r2)).place
     .simp only [VR]
      refine ⟨ac3,mM,by simp,JC,_,e,(0,0),by rw [eY];exact hnb.new,?_⟩;rw [hsize];simp
   .cases he
  .cases he
 .cases he
end
end Go.A2
namespace Go.A2
variable [C9]
section
variable {P:Program} {X:Cx} {l:H7} {S:Nat->Prop} {st:H6} {a:Act} {w w' :World} {G G' :Gh} {I I' :S7} {N:Nat->Prop} {D:Nat->Bool} {l5:List o9}
def Nb (P:Program)(ck:Operand->y5->Bool)(o:Oper)(op:x9):Bool :=
 match o.op,op with
 | .mapUpdate t m k v,.eu kk m' k' v' =>ck m m' &&ck k k' &&ck v v' &&(match P.underlying t with
  |some (.map kt _)=>wU P kt kk
  |_=>false)
 |_,_=>false
theorem AB:∀ {ks:List CK} {l m:List KD},Q9 ks (l.map KD.av) (m.map KD.av)=some true->l=m
 |[],[],[],_=>rfl
 |[],_::_,_,h=>by simp [Q9] at h
 |[],[],_::_,h=>by simp [Q9] at h
 |k::ks,[],m,h=>by simp [Q9] at h
 |k::ks,x::l,[],h=>by simp_all [Q9,KD.av]
 |k::ks,x::l,y::m,h=>by
  have hd:∀ (a b:Data),KD.av x= .d a->KD.av y= .d b->Q9 (k::ks) (.d a::l.map KD.av) (.d b::m.map KD.av)=some true->x=y/\l=m:=by
   intro a b ha hb h;simp [Q9] at h;split at h
   .split at h
    .rename_i u hu
     simp at h;obtain ⟨rfl,rfl⟩:=h;refine ⟨?_,AB hu⟩;simp_all [KD.av,Data.Gu]<;>grind
    .cases h
   .cases h
  simp_all [KD.av]<;>grind
def NK {kk:KK}{a b:Key}(h:Data.fI kk a b=some true):a=b:=by
 unfold Data.fI at h
 grind [AB]
def Wh (k:Key):Instr.sameBits 10000 k.val k.val=true:=by
 have h:∀ x:KD,Instr.sameBits 9999 x.val x.val=true:=by intro x;cases x<;>simp [KD.val,Instr.sameBits,beq_toListBytes]
 cases k<;>simp [Key.val,Instr.sameBits,beq_toListBytes]
 grind
theorem PT {kk:KK}{t:TypeId}{d:TypeDesc}(ht:wU P t kk=true)(hd:P.underlying t=some d){key:Key}{nv:c8}{x:Value}(hx:VR G I N w .none nv x) :
  ∀ (es:List (Key×c8)) (xs:List MapEntry) (i:Nat) (es' :List (Key×c8)),ER G I N w es xs->gJ kk key nv es=some es' ->
   (rO (oz P w t d key.val kk) xs i none/\∀ born,ER G I N w es' (xs++[{ key:=key.val,val:=x,born }])) \/
   (∃ j v0,rO (oz P w t d key.val kk) xs i (some (i+j,v0))/\(∃ e0,xs[j]? =some e0/\e0.key=key.val)/\ER G I N w es' (xs.modify j fun e=>{ e with key:=key.val,val:=x }))
 |[],xs,i,es',hE,h=>by
  subst hE;simp [gJ] at h;refine Or.inl ⟨rfl,fun born=> ?_⟩
  grind [ER]
 |(k',v')::rest,xs,i,es',hE,h=>by
  obtain ⟨e,ys,rfl,h2,h3,h4⟩:=hE;unfold gJ at h;split at h
  .rename_i hk
   have he:=NK hk;subst he;refine Or.inr ⟨0,e.val,.inl ⟨by simp_all [uN],rfl⟩,⟨e,rfl,h2⟩,?_⟩
   grind [List.modify_zero_cons,ER]
  .split at h
   .rename_i r' hr
    have hne:oz P w t d key.val kk e.key false:=by simp_all [uN]
    rcases PT ht hd hx rest ys (i+1) r' h4 hr with ⟨g1,g2⟩|⟨j,v0,g1,g2,g3⟩
    .refine Or.inl ⟨.inr ⟨hne,g1⟩,fun born=> ?_⟩
     grind [ER]
    .refine Or.inr ⟨j+1,v0,.inr ⟨hne,?_⟩,by simp_all,?_⟩
     all_goals grind [List.modify_succ_cons,ER]
   .cases h
  .cases h
theorem Av {kk:KK}{key:Key}{nv:c8}:∀ (es es' :List (Key×c8)),gJ kk key nv es=some es' ->C5 (es'.map (·.2))<=max (C5 (es.map (·.2))) nv.O5
 |[],es',h=>by grind [gJ,C5]
 |(k',v')::rest,es',h=>by
  unfold gJ at h;split at h
  .grind [C5]
  .split at h
   .rename_i r' hr
    have:=Av rest r' hr
    grind [C5]
   .cases h
  .cases h
def Np (h:RI X l S st a w G I N)(hD:∀ j,D j=true->S j){k:Nat}(hk:¬ S k)(bS:k<st.L.length)(entry:Nat){o:Oper}{kk:KK}{m ky v:y5}(hc:Nb P (X.ck D) o (.eu kk m ky v)=true){E:Env}(hE:E.lim=l)
  {st' :H6} (he:V4 E k kk st (J2 st.T st.L m) (J2 st.T st.L ky) (J2 st.T st.L v)=some st'):∃ w',(execOp a.eval o).run P w= .ok .skip w' /\dG X l S entry st a w G I N st' k undef w' G I N:=by
 obtain ⟨dst,fq,ty,pos,after,guard⟩:=o;cases fq<;>simp only [Nb,c7] at hc<;>try (cases hc;done)
 rename_i t m' k' v';obtain ⟨⟨⟨hm,hky⟩,hv⟩,ht⟩:=hc;have h1:=h.T1 hD _ _ hm;have h2:=h.T1 hD _ _ hky;have h3:=h.T1 hD _ _ hv;split at ht
 .rename_i kt et hu
  obtain ⟨dk,hdk⟩:∃ d,P.underlying kt=some d:=by
   cases hd:P.underlying kt with
   |none=>cases kk<;>simp [wU,fL,jM,hd] at ht
   |some d=>exact ⟨d,rfl⟩
  unfold V4 at he;split at he
  .rename_i id kd hp hq
   rw [hp] at h1;simp only [VR] at h1;have h2:=GV hq h2;split at he
   .rename_i es ZH
    split at he
    .rename_i dN
     split at he
     .rename_i hkk
      split at he
      .rename_i es' aQ3
       cases he;have hO:=h.H id _ ZH;simp only [OR] at hO;obtain ⟨hN,arr,gm,g1,g2,g3,g4⟩:=hO;have hgo:(getObj (I id).1).run P w= .ok (.map arr gm) w:=by simp [getObj,Sem.run,g1]
       have hlt:(I id).1<w.heap.size:=by
        rcases A5 (I id).1 w.heap.size with h|h
        .exact h
        .rw [Array.getElem?_eq_none h] at g1;cases g1
       have tr:∀ ob:Obj,(setObj (I id).1 ob).run P w= .ok () { w with heap:=w.heap.setIfInBounds (I id).1 ob }:=by
        intro ob;simp [setObj,Sem.run,g1]
       have wrote:∀ ob:Obj,rP id (I id).1 w { w with heap:=w.heap.setIfInBounds (I id).1 ob } G:=by
        intro ob;refine ⟨g2,rfl,rfl,rfl,n5 _,by simp,fun b' hne=> ?_,fun c e f hc=> ?_⟩
        .simp [Array.getElem?_setIfInBounds_ne (fun e=>hne e.symm)]
        .rw [g1] at hc;cases hc
       have wP:(A1.map es').O5<=max (A1.map es).O5 (id+1)\/(l.base<=id/\l.strict<=id):=by
        left;have:=Av es es' aQ3;simp only [A1.O5];have:=dN.1;omega
       have fin:∀ (SM :Array MapEntry) (Vb :Nat),ER G I N w es' SM.toList->It SM Vb ->dG X l S entry st a w G I N (put { st with H:=st.H.set id (.map es'),p7:= .obj id::st.p7 } k .any) k undef { w with heap:=w.heap.setIfInBounds (I id).1 (.map SM Vb) } G I N:=by
        intro SM Vb hER hBn;have hw:=wrote (.map SM Vb);refine dG.write h hk bS entry hw ZH ?_ (by rw [<- hE];exact dN.2) wP (fun _=>Iff.rfl) (by simp [VR]) (.obj id::st.p7) (by simp [Touch.L4]);simp only [OR];exact ⟨hN,SM,Vb,by simp [hlt],g2,ER.mono hw.ext (fun _ _=>rfl) (fun _ h=>h) _ _ hER,hBn⟩
       have hck:=jI (P:=P) (w:=w) ht (Pj hkk) false 9998;rw [<- h2] at hck;have hp:=PT (P:=P) (w:=w) (key:=kd) ht hdk h3 es arr.toList 0 es' g3 aQ3;rw [<- h2] at hp
       rcases hp with ⟨f1,f2⟩|⟨j,v0,f1,⟨e0,f2,f2'⟩,f3⟩
       .have hfk:(Instr.findKey kt (a.eval k') arr.toList).run P w= .ok none w:=pz hdk f1
        refine ⟨_,?_,fin (arr.push { key:=a.eval k',val:=a.eval v',born:=gm }) (gm+1) (by simpa using f2 gm) (g4.push _ _)⟩;simp [execOp,h1.2,Instr.mapUpdate,run_underlying hu,hgo,hck,hfk,tr]
       .have hfk:(Instr.findKey kt (a.eval k') arr.toList).run P w= .ok (some (0+j,v0)) w:=pz hdk f1
        have hkeep:(Instr.keyThatStays (((arr[0+j]?).map (·.key)).getD (a.eval k')) (a.eval k')).run P w= .ok (a.eval k') w:=by
         have e1:arr[0+j]? =some e0:=by simpa using f2
         have Iq:=Wh kd;rw [<- h2] at Iq;rw [e1];simp only [M7,Option.getD_some,f2',Instr.keyThatStays,Iq,if_true,Sem.run_pure]
        refine ⟨_,?_,fin (arr.modify (0+j) fun e=>{ e with key:=a.eval k',val:=a.eval v' }) gm (by simpa using f3) (g4.modify _ _ fun _=>rfl)⟩;simp only [execOp,h1.2,Instr.mapUpdate,Sem.run_bind,run_underlying hu,Result.andThen_ok,hgo,hck,hfk,hkeep,tr,Sem.run_pure]
      .cases he
     .cases he
    .cases he
   .cases he
  .cases he
 .cases ht
end
end Go.A2
namespace Go.A2
variable [C9]
section
variable {P:Program} {X:Cx} {l:H7} {S:Nat->Prop} {st:H6} {a:Act} {w w' :World} {G G' :Gh} {I I' :S7} {N:Nat->Prop} {D:Nat->Bool} {l5:List o9}
def JL (h:RI X l S st a w G I N)(hpv:PV X l5 S st a w I)(hT:st.T.length=X.names.length)(hD:∀ j,D j=true->S j){x:Operand}{y:y5}(hc:X.ck D x y=true)(hn:isNil l l5 st y=true) :
  a.eval x= .slice none 0 0:=by
 unfold isNil at hn;split at hn
 .unfold Cx.ck at hc
  split at hc
  .simp_all
  .simp_all
  .rename_i v' b heq
   cases heq;have:=dJ (G:=G) (I:=I) (N:=N) (w:=w) _ _ hc;simp_all [VR,Act.eval]
  all_goals simp_all
 .rename_i j
  have ay1:∃ t,x= .tmp t/\D j=true/\(X.ops[j]?).bind (·.dst)=some t/\X.names.contains t=false:=by
   simp_all [Cx.ck]<;>grind
  obtain ⟨t,rfl,hDj,Bi,JD⟩:=ay1;have hSj:=hD j hDj;simp only [Act.eval];split at hn
  .have h1:=h.L j hSj t Bi JD
   simp_all [bA,VR]
  .rename_i n0 c0 hj
   split at hn
   .rename_i ai hai
    unfold pU at hn;split at hn
    .rename_i s hop
     simp only [c7,o7] at hn;obtain ⟨hun,hs⟩:=hn;split at hs
     .obtain ⟨ts,hts⟩:∃ ts,X.names[s]? =some ts:=by
       grind
      have h1:=h.T s ts hts;have he:=hpv.slot j ai s ts t hSj (by rw [hj];simp) hai hop hts Bi JD hun;simp_all [VR]
     .cases hs
    .rename_i x' hop
     split at hn
     .rename_i id off ad2
      simp only [c7,o7] at hn;obtain ⟨⟨hun,hmay⟩,hs⟩:=hn;split at hs
      .rename_i cs hcs
       split at hs
       .rename_i hco
        have hO:=h.H id _ hcs;obtain ⟨hN,c,e,f,g1,g2,g3,g4,g5⟩:=hO;have he:=hpv.cell j ai x' id off t cs hSj (by rw [hj];simp) hai hop ad2 hcs (u7 hco) hun Bi JD
        grind [V5,Option.some_inj,VR]
       .cases hs
      .cases hs
     .cases hn
    .cases hn
   .cases hn
  .cases hn
 .cases hn
def DA (h:RI X l S st a w G I N)(hpv:PV X l5 S st a w I)(hT:st.T.length=X.names.length)(hD:∀ j,D j=true->S j){k:Nat}(hk:¬ S k)(bS:k<st.L.length)(entry:Nat){z7:Option Nat}(hid:Iw l st N z7){o:Oper}{sz bytes:Nat}{x y:y5}
  (hc:jw P (X.ck D) o (.append sz bytes true x y)=true) {E:Env} (hE:E.lim=l) {st' :H6} (he:O4 E l5 z7 k sz bytes true st x (J2 st.T st.L y)=some st') :
  (∃ v w' G',(execOp a.eval o).run P w= .ok (.value v) w' /\dG X l S entry st a w G I N st' k v w' G' I N) \/
  ∃ v w' G' I' N' ob av,(execOp a.eval o).run P w= .ok (.value v) w' /\st' =put (M4 st z7 ob) k av/\dG X l S entry st a w G I N st' k v w' G' I' N' /\(∀ i,N' i↔N i\/i=newId st z7):=by
 obtain ⟨x0,y0,t,t2,e,i,z,hop,UB,hcy,ht2,hsz,hu,hi,hsi,hbi,hz,hzs,hbp⟩:=iP hc;have yb:(execOp a.eval o).run P w=((Builtin.append_ #[t,t2] o.type #[a.eval x0,a.eval y0]).run P w).andThen fun v w' => .ok (.value v) w' :=by
  simp_all [guard,execOp,resolve,invoke,builtin]
 unfold O4 at he;rw [hE] at he;simp [if_true] at he;split at he
 .rename_i m cs hcs
  split at he
  .rename_i dN
   obtain ⟨hnil,hroom,_⟩:=dN;have hx0:=JL h hpv hT hD UB hnil;obtain ⟨vn,hl,hf,hvn,hcl⟩:=xy (P:=P) h.H (h.T1 hD _ _ hcy) hsz hcs;have Eu:vn.length=m * sz:=by grind [J4.length]
   subst hsi hbi;split at he
   .rename_i hm
    subst hm;cases he;have hrun:=ig (P:=P) (w:=w) (ty:=o.type) hu hi ht2 (base:=none) (sLen:=0) (sCap:=0) hl (hf w rfl) (n5 _);refine Or.inl ⟨.slice none 0 0,w,G,?_,dG.same h hk bS entry (by simp [VR])⟩;simp_all
   .cases he
    have hlt:0<0+m:=by omega
    obtain ⟨mM,JC,hrun⟩:=jY (P:=P) (w:=w) (ty:=o.type) hu hi hz ht2 (base:=none) (sLen:=0) (sCap:=0) (old:= #[]) hl (hf w.drew rfl) (by rfl) hlt (by rw [Nat.zero_add];exact Hy hroom hbp) (by simp_all [Nat.zero_add,xh]);rw [Nat.zero_add] at JC hrun;have hnb:kC w (w.drew.alloc (.cells (#[]++vn.toArray++Builtin.zeroCells z.cells (mM - m)) e)) (.cells (#[]++vn.toArray++Builtin.zeroCells z.cells (mM - m)) e):=by
     have:=kC.alloc w.drew (.cells (#[]++vn.toArray++Builtin.zeroCells z.cells (mM - m)) e);exact ⟨this.os,this.tape,this.output,F9 (Nat.le_succ _) this.drawn,this.size,this.old,this.new⟩
    have hsize:(#[]++vn.toArray++Builtin.zeroCells z.cells (mM - m):Array Value).size=mM * i.size:=by
     simp [Array.size_append,List.size_toArray,Ai,hzs,Eu,y8,Nat.zero_add];rw [<- Nat.add_mul];simp_all
    refine Or.inr ⟨.slice (some (ad w.heap.size 0)) m mM,_,_,_,_,.cells cs,_,by simp_all,rfl,dG.newObj h hk bS entry hid hnb (.cells cs) ?_ ?_,fun i=>Iff.rfl⟩
    .simp only [OR]
     refine ⟨Or.inr trivial,_,e,(0,0),by rw [eY];exact hnb.new,by simp,oR _,?_,fun j b hj=> ?_⟩
     .simp_all [eY,Nat.zero_add,Nat.mul_le_mul_right]
     .simp only [eY]
      obtain ⟨u,r1,r2⟩:=J4.get _ _ hvn j b hj;refine ⟨u,?_,?_⟩
      .grind
      .exact (hnb.vr h.wf _ (fun j hj=>gP (by rintro rfl;exact hid.new hj)) (fun _ h=>Or.inl h) r2).place
    .simp only [VR]
     refine ⟨Or.inr trivial,mM,by simp,JC,_,e,(0,0),by rw [eY];exact hnb.new,?_⟩;simp_all
  .cases he
 .cases he
def AE (P:Program)(ck:Operand->y5->Bool)(o:Oper)(op:x9):Bool :=
 match o.op,op with
 | .call ⟨.builtin .clear,args,argTypes⟩,.clear sz zero y =>
  (match args.toList,argTypes.toList with
   |[x],[t]=>ck x y&&decide (0<sz)&&(match P.underlying t with
    |some (.slice e)=>(match P.info? e with
     |some i=>(match i.zero with|some z=>consts z.cells.toList zero&&z.cells.size==sz&&zero.all c8.one|none=>false)
     |none=>false)
    |_=>false)
   |_,_=>false)
 |_,_=>false
theorem Jo {α:Type}(zero:List α):∀ (n i:Nat),((c9 n zero).flatten)[i]? =if i<n * zero.length then zero[i % zero.length]? else none
 |0,i=>by simp
 |n+1,i=>by
  rw [List.replicate_succ,List.flatten_cons]
  by_cases h:i<zero.length
  .rw [A8 h,if_pos (by grind),Nat.mod_eq_of_lt h]
  .rw [u9 (by omega),Jo zero n (i - zero.length)]
   by_cases h2:i - zero.length<n * zero.length
   .rw [if_pos h2,if_pos (by grind),Nat.mod_eq_sub_mod (a:=i) (b:=zero.length) (by omega)]
   grind
theorem II {zero:List c8}(h:C5 zero=0):∀ n:Nat,C5 (c9 n zero).flatten=0
 |0=>by simp [C5]
 |n+1=>by rw [List.replicate_succ,List.flatten_cons,iu,h,II h n];rfl
def Tc (h:RI X l S st a w G I N)(hD:∀ j,D j=true->S j){k:Nat}(hk:¬ S k)(bS:k<st.L.length)(entry:Nat){o:Oper}{sz:Nat}{zero:List c8}{y:y5}
  (hc:AE P (X.ck D) o (.clear sz zero y)=true) {E:Env} (hE:E.lim=l) {st' :H6} (he:Y4 E k sz zero st (J2 st.T st.L y)=some st') :
  ∃ w',(execOp a.eval o).run P w= .ok (.value (.tuple #[])) w' /\dG X l S entry st a w G I N st' k (.tuple #[]) w' G I N:=by
 unfold AE at hc;split at hc
 .rename_i args argTypes sz' zero' y' hop heq
  cases heq;split at hc
  .rename_i x t ha ht
   have e1:args= #[x]:=by grind
   have e2:argTypes= #[t]:=by grind
   subst e1 e2;simp only [c7,decide_eq_true_eq] at hc;obtain ⟨⟨hx,hsz⟩,hc⟩:=hc;split at hc
   .rename_i e hu
    split at hc
    .rename_i i hi
     split at hc
     .rename_i z hz
      simp only [c7,beq_iff_eq] at hc;obtain ⟨⟨hcs,hzs⟩,hone⟩:=hc;have yb:(execOp a.eval o).run P w=((Builtin.clear_ #[t] o.type #[a.eval x]).run P w).andThen fun v w' => .ok (.value v) w' :=by
       simp_all [guard,execOp,resolve,invoke,builtin]
      have hv:=h.T1 hD _ _ hx;unfold Y4 at he;split at he
      .rename_i id z' lo len hy
       rw [hy] at hv;obtain ⟨hN,cap,hx0,hcap,_⟩:=hv;split at he
       .rename_i dN
        obtain ⟨rfl,hzl,hzb,hmay⟩:=dN;split at he
        .rename_i H' hw
         cases he;obtain ⟨l0,c,e',f,g1,g2,g3,g4,g5,g6,g7,g8,g9⟩:=h.H.wr hw;have hvz:=fG (G:=G) (I:=I) (N:=N) (w:=w) _ _ hcs
         by_cases hlen:len=0
         .subst hlen
          have hH' :H' =st.H:=by
           rw [g2];simp only [List.replicate_zero,List.flatten_nil,splice,y8,Nat.add_zero,List.append_nil,List.take_append_drop];apply List.ext_getElem?
           grind
          have hM:=dG.write (D1:=N) h hk bS entry (w' :=w) (G:=G) (id:=id) (b:=(I id).1) ⟨g6,rfl,rfl,rfl,n5 _,rfl,fun _ _=>rfl,fun c _ _ h=>⟨c,h,rfl⟩⟩ g1 (h.H id _ g1) (by grind) (Or.inl (by omega)) (fun _=>Iff.rfl) (v:= .tuple []) (x:= .tuple #[]) (by grind [VR,J4]) (.obj id::st.p7) (by simp [Touch.L4]);have tr:st.H.set id (.cells l0)=st.H:=by
           grind
          refine ⟨w,?_,by grind⟩;rw [yb,hx0];simp [Builtin.clear_,run_underlying hu]
         .have hzc:(Builtin.zeroCells z.cells len).toList.length=len * z' :=by simp [Ai,hzs]
          have hfl:((c9 len zero).flatten).length=len * z' :=by simp [hzl]
          have Jy:∀ (j:Nat) b,((c9 len zero).flatten)[j]? =some b->∃ u,(Builtin.zeroCells z.cells len).toList[j]? =some u/\VR G I N w .none b u:=by
           intro j b hj;rw [Jo] at hj;split at hj
           .rename_i hjl
            rw [hzl] at hj hjl;obtain ⟨u,r1,r2⟩:=J4.get _ _ hvz (j % z') b hj;have hzj:z.cells[j % z']? =some u:=by simp_all
            have cg5 :z.cells[j % z.cells.size]! =u:=by
             grind
            simp_all [Array.range,Array.getElem?_toList,Builtin.zeroCells,Array.getElem?_map,M7]
           .cases hj
          obtain ⟨hO,hW⟩:=DX g4 g5 g6 g7 g8 g9 g3 (vs:=(Builtin.zeroCells z.cells len).toList) (by rw [hzc,hfl]) (fun j b hj=>by
           obtain ⟨u,r1,r2⟩:=Jy j b hj;exact ⟨u,r1,r2.place⟩)
          have VS:DK (Builtin.zeroCells z.cells len).toList:=by
           intro u hu';obtain ⟨j,hj,rfl⟩:=List.getElem_of_mem hu';have hjl:j<((c9 len zero).flatten).length:=by omega
           obtain ⟨u',r1,r2⟩:=Jy j _ (n9 hjl)
           grind [c9,List.getElem_mem,List.mem_flatten,mO,Q2]
          have hrun:=run_storeCells_at (P:=P) (I id).1 ((I id).2+lo) e' f (Builtin.zeroCells z.cells len).toList 0 c w g5 g7 (by omega) VS;have wP:(A1.cells (splice l0 lo (c9 len zero).flatten)).O5<=max (A1.cells l0).O5 (id+1)\/(l.base<=id/\l.strict<=id):=by
           grind [xM,c9,II,A1.O5]
          have hM:=dG.write (D1:=N) h hk bS entry hW g1 hO (by simp_all) wP (fun _=>Iff.rfl) (v:= .tuple []) (x:= .tuple #[]) (by simp_all [VR,J4]) (.obj id::st.p7) (by simp [Touch.L4]);simp_all [zeroValue,typeInfo,Builtin.clear_,run_underlying]
        .cases he
       .cases he
      .rename_i cells hy
       cases he;rw [hy] at hv;refine ⟨w,?_,dG.same h hk bS entry (by simp_all [VR,J4])⟩;rw [yb]
       rcases hv with ⟨hv|⟨a0,hv⟩,_⟩|⟨b,o',cap,hv,_⟩
       all_goals simp_all [Builtin.clear_,run_underlying]
      .cases he
     .cases hc
    .cases hc
   .cases hc
  .cases hc
 .cases hc
end
end Go.A2
namespace Go.A2
variable [C9]
def hold (G:Gh)(n:Nat):Gh:=fun b =>
 match G b with
 | .grow m (.cell id off)=>if id<n then .grow m (.cell id off) else .held m
 | .grow m _=> .held m
 | .obj id=>if id<n then .obj id else .held 0
 |x=>x
def ez (G G1:Gh)(n:Nat):Gh:=fun b=>if hold G n b=G b then G1 b else G b
section
variable {G G1:Gh} {w w1:World} {n:Nat}
theorem Ao (b o:Nat):jv (hold G n) b o↔jv G b o:=by
 grind [jv,hold]
def uy:Ext G w (hold G n) w where
 os:=rfl
 tape:=rfl
 output:=rfl
 drawn _:=n5 _
 size:=n5 _
 lX b o h:=⟨(Ao b o).2 h,rfl⟩
 still b h:=⟨by grind [hold],rfl⟩
 shape _ c _ _ h:=⟨c,h,rfl⟩
def Px (h:WF G w):WF (hold G n) w:=fun b hb=>by simp [hold,h b hb]
def pJ {b id:Nat}(hid:id<n)(h:G b= .obj id):hold G n b= .obj id:=by grind [hold]
def mG {id off:Nat}(hid:id<n):bZ (.cell id off) G w (hold G n) w:=fun b m hb=>⟨by grind [hold],rfl⟩
def Es {b m:Nat}{pl:Place}(hn:n=0):hold G n b≠ .grow m pl:=by
 grind [hold]
def JE {b id:Nat}(h:hold G n b= .obj id):id<n:=by
 grind [hold]
theorem hidden {b:Nat}(h:hold G n b≠G b):∃ m,hold G n b= .held m:=by
 grind [hold]
theorem iI {b:Nat}(he:Ext (hold G n) w G1 w1)(h:hold G n b≠G b):ez G G1 n b=G b/\w1.heap[b]? =w.heap[b]? /\G1 b=hold G n b:=by
 obtain ⟨m,hm⟩:=hidden h;obtain ⟨h1,h2⟩:=he.still b (Or.inr ⟨m,hm⟩);simp_all [ez]
def iJ {b:Nat}(h:hold G n b=G b):ez G G1 n b=G1 b:=by simp [ez,h]
def Cv (he:Ext (hold G n) w G1 w1):Ext G w (ez G G1 n) w1 where
 os:=he.os
 tape:=he.tape
 output:=he.output
 drawn:=he.drawn
 size:=he.size
 lX b o h:=by
  obtain ⟨h1,h2⟩:=he.lX b o ((Ao b o).2 h);refine ⟨?_,h2⟩
  by_cases hh:hold G n b=G b
  .simp_all [jv,iJ]
  .unfold jv at h ⊢;rw [(iI he hh).1];exact h
 still b h:=by
  have hh:hold G n b=G b:=by grind [hold]
  obtain ⟨h1,h2⟩:=he.still b (by simp_all);simp_all [iJ]
 shape:=he.shape
def ou (he:Ext (hold G n) w G1 w1):Sub G1 w1 (ez G G1 n) w1 where
 lX b o h:=by
  by_cases hh:hold G n b=G b
  .simp_all [jv,iJ]
  .obtain ⟨h1,h2,h3⟩:=iI he hh
   grind [jv,hold,Ao]
 shape _ c _ _ h:=⟨c,h,rfl⟩
theorem bD (he:Ext (hold G n) w G1 w1){b:Nat}(h:∀ m,G1 b≠ .held m):ez G G1 n b=G1 b:=by
 by_cases hh:hold G n b=G b
 .exact iJ hh
 .obtain ⟨_,_,h3⟩:=iI he hh
  grind [hidden,absurd]
def kO (he:Ext (hold G n) w G1 w1)(q:Place):bZ q G1 w1 (ez G G1 n) w1 :=
 fun b m hb=>⟨by grind [bD],rfl⟩
def eW (he:Ext (hold G n) w G1 w1){q:Place}(hq:∀ id off,q= .cell id off->n<=id):bZ q G w (ez G G1 n) w1:=by
 intro b m hb
 grind [hold,iI]
def Cw (he:Ext (hold G n) w G1 w1){id:Nat}(hid:n<=id):∀ b,G b= .obj id->ez G G1 n b= .obj id/\w1.heap[b]? =w.heap[b]? :=by
 grind [hold,iI]
def Fi (he:Ext (hold G n) w G1 w1)(hwf:WF G w)(h1:WF G1 w1):WF (ez G G1 n) w1:=by
 intro b hb;have hg:G b= .free:=hwf b (F9 he.size hb);have hh:hold G n b=G b:=by simp [hold,hg]
 rw [iJ hh];exact h1 b hb
end
structure Ak (l:H7)(H:p9)(w:World)(G:Gh)(I:S7)(N:Nat->Prop)(args:List c8)(I4:Array Value):Prop where
 args:J4 G I N w args I4.toList
 hr:HR G I N w H
 wf:WF G w
 bI:∀ id,N id->id<H.length
 W4:SG l H
 base:l.base<=H.length
 strict:l.strict<=l.base
 mI:∀ b id:Nat,G b= .obj id->id<H.length
 bA3:H.length=0->∀ b n pl,G b≠ .grow n pl
structure lY (l:H7)(H:p9)(w:World)(G:Gh)(I:S7)(N:Nat->Prop)(v:c8)(H1:p9)(x:Value)(w' :World)(G' :Gh)(I' :S7)(N' :Nat->Prop):Prop where
 val:VR G' I' N' w' .ret v x
 hr:HR G' I' N' w' H1
 wf:WF G' w'
 ext:Ext G w G' w'
 fu:mb l G w G' w'
 inj:∀ id,id<H.length->N id->I' id=I id
 mono:∀ id,N id->N' id
 old:∀ id,id<H.length->N' id->N id
 bI:∀ id,N' id->id<H1.length
 hle:∀ (id:Nat) (o' :A1),id<l.base->H1[id]? =some o' ->o'.O5<=id+1\/∃ o:A1,H[id]? =some o/\o'.O5<=o.O5
 W4:SG l H1
def oQ (P:Program)(cf:tU)(prom:FuncId->Bool):Prop :=
 ∀ f args H l v H1,cf f args H l=some (v,H1)->∀ w G I N I4,Ak l H w G I N args I4->(prom f=false->l.base=H.length) ->
  Calls P f I4 w fun e w' =>∃ x G' I' N',e= .returned x/\lY l H w G I N v H1 x w' G' I' N'
def T6 (P:Program)(f:FuncId):Bool :=
 match P.funcs[f]? with
 | some fn => fn.name != "runtime.NumGoroutine" && fn.body.isSome
 |none=>false
def uL {P:Program}{w:World}{f:FuncId}(h:T6 P f=true)(args:Array Value):(callFunc f args).run P w= .ok (.enter f args) w:=by
 unfold T6 at h;split at h
 all_goals (simp_all [callFunc]<;>grind)
end Go.A2
namespace Go.A2
variable [C9]
theorem IG:∀ (l:List A1) (i:Nat) (o:A1),l[i]? =some o->o.O5<=Z9 l
 |[],_,_,h=>by simp at h
 |v::vs,0,o,h=>by grind [Z9]
 |v::vs,i+1,o,h=>by have:=IG vs i o (by simpa using h);grind [Z9]
theorem uo:∀ (l:List A1) (k i:Nat) (o:A1),ah l k=true->l[i]? =some o->o.O5<=k+i+1
 |[],_,_,_,_,h=>by simp at h
 |v::vs,k,0,o,hd,h=>by
  simp_all [ah,c7,decide_eq_true_eq]
 |v::vs,k,i+1,o,hd,h=>by
  simp [ah,c7] at hd;have:=uo vs (k+1) i o hd.2 (by simpa using h);omega
def sg {H:p9}{n s i:Nat}{o:A1}(hi:i<n)(hs:s<=i)(h:H[i]? =some o):((H.take n).drop s)[i - s]? =some o:=by
 simp_all
def xw {l:H7}{H:p9}{n:Nat}(hd:SG l H)(hc:Z9 ((H.take n).drop l.strict)<=n){id:Nat}{o:A1}(hid:id<n)(h:H[id]? =some o):o.O5<=n:=by
 by_cases hs:id<l.strict
 .have:=(hd id o h).1 hs;omega
 .have:=IG _ _ _ (sg (s:=l.strict) hid (by omega) h);omega
def La (H:p9)(s n:Nat):F7 H s n<=n:=by
 grind [F7]
def HG {l:H7}{H:p9}{n:Nat}(hd:SG l H){id:Nat}{o:A1}(hid:id<F7 H l.strict n)(h:H[id]? =some o):o.O5<=id+1:=by
 unfold F7 at hid;split at hid
 .exact (hd id o h).1 (by omega)
 .split at hid
  .rename_i hdf
   by_cases hs:id<l.strict
   .exact (hd id o h).1 hs
   .have:=uo _ _ _ _ hdf (sg (s:=l.strict) hid (by omega) h);omega
  .exact (hd id o h).1 hid
def VR.ID {G:Gh}{I:S7}{N:Nat->Prop}{w:World}{pl yu :Place}{a:c8}{x:Value}(ha:∀ z n c,a≠ .own z n c)(h:VR G I N w pl a x):VR G I N w yu a x:=by
 cases a with
 |own z n c=>simp_all
 |any=>simp [VR]
 |_=>simp_all [VR]
structure ZR (pl:Place)(l:H7)(H:p9)(w:World)(G:Gh)(I:S7)(N:Nat->Prop)(v:c8)(H1:p9)(x:Value)(w' :World)(G' :Gh)(I' :S7)(N' :Nat->Prop):Prop where
 val:VR G' I' N' w' pl v x
 hr:HR G' I' N' w' H1
 wf:WF G' w'
 ext:Ext G w G' w'
 fu:mb l G w G' w'
def lY.at {l:H7}{H:p9}{w:World}{G:Gh}{I:S7}{N:Nat->Prop}{v:c8}{H1:p9}{x:Value}{w' :World}{G' :Gh}{I' :S7}{N' :Nat->Prop}
  (h:lY l H w G I N v H1 x w' G' I' N') {pl:Place} (hp:pl≠ .none):∃ G2,ZR pl l H w G I N v H1 x w' G2 I' N' :=by
 by_cases ho:∃ z n c,v= .own z n c
 .obtain ⟨z,n,c,rfl⟩:=ho
  obtain ⟨G2,hm,hv⟩:=jV hp h.val;refine ⟨G2,hv,h.hr.Ka hm (by simp),hm.wf h.wf,h.ext.trans hm.ext,h.fu.trans fun id _=>⟨fun b hb=>⟨hm.obj b id hb,rfl⟩,fun off=>hm.keeps _ (by simp)⟩⟩
 .exact ⟨G',h.val.ID (fun z n c e=>ho ⟨z,n,c,e⟩),h.hr,h.wf,h.ext,h.fu⟩
section
variable {P:Program} {X:Cx} {l:H7} {S:Nat->Prop} {st:H6} {a:Act} {w w1:World} {G G1:Gh} {I I1:S7} {N N1:Nat->Prop}
structure MN (X:Cx)(l:H7)(S:Nat->Prop)(entry:Nat)(st:H6)(a:Act)(w:World)(G:Gh)(I:S7)(N:Nat->Prop)
  (st' :H6) (k:Nat) (x' :Value) (w' :World) (G' :Gh) (I' :S7) (N' :Nat->Prop):Prop where
 mid:dG X l S entry st a w G I N st' k x' w' G' I' N'
 bI:∀ id,N' id->id<st'.H.length
 old:∀ id,id<st.H.length->N' id->N id
def sV (h:RI X l S st a w G I N)(gw:∀ id,N id->id<st.H.length){k:Nat}(hk:¬ S k)(bS:k<st.L.length)(entry:Nat){n m:Nat}(hn:n<=st.H.length)(hm:m<=n)
  {l' :H7} (hl' :l'.base=n) (hmay:∀ id,id<n->l.may id=false->l'.may id=false) (ao3 :∀ id,m<=id->id<n->l'.may id=false)
  {v:c8} {H1:p9} {x:Value} (hlen:H1.length=n) (hc:lY l' (st.H.take n) w (hold G n) I (fun i=>N i/\i<n) v H1 x w1 G1 I1 N1) {p7:List Touch} (Ty:∀ id,p7.any (Touch.L4 id)=false->m<=id) :
  ∃ G' I',MN X l S entry st a w G I N (put { st with H:=H1.take m++st.H.drop m,p7 } k v) k x w1 G' I' N:=by
 have htl:(st.H.take n).length=n:=by simp;omega
 have hN1:∀ id,N1 id->N id/\id<n:=fun id hid=>by
  have:=hc.bI id hid;exact hc.old id (by omega) hid
 have hI1:∀ id,N id->id<n->I1 id=I id:=fun id hid hlt=>hc.inj id (by omega) ⟨hid,hlt⟩
 obtain ⟨G2,hp⟩:=hc.at (pl:= .loc k) (by simp);have hx:=Cv hp.ext;have ae2:∀ id,m<=id->∀ b,G b= .obj id->ez G G2 n b= .obj id/\w1.heap[b]? =w.heap[b]? :=by
  intro id hid b hb
  by_cases hlt:id<n
  .obtain ⟨g1,g2⟩:=(hp.fu id (ao3 id hid hlt)).1 b (pJ hlt hb)
   exact ⟨by rw [bD hp.ext (by simp_all)];exact g1,g2⟩
  .exact Cw hp.ext (by omega) b hb
 have Wg:∀ id,m<=id->∀ off,bZ (.cell id off) G w (ez G G2 n) w1:=by
  intro id hid off
  by_cases hlt:id<n
  .intro b q hb
   obtain ⟨g1,_⟩:=mG (G:=G) (w:=w) (off:=off) hlt b q hb;obtain ⟨g3,g4⟩:=(hp.fu id (ao3 id hid hlt)).2 off b q g1;exact ⟨by rw [bD hp.ext (by simp_all)];exact g3,g4⟩
  .exact eW hp.ext (by simp_all)
 have aO9:∀ id o',(H1.take m++st.H.drop m)[id]? =some o' ->(id<m/\H1[id]? =some o')\/(m<=id/\st.H[id]? =some o'):=by
  grind
 have hle:∀ id o',(H1.take m++st.H.drop m)[id]? =some o' ->o'.O5<=id+1\/∃ o:A1,st.H[id]? =some o/\o'.O5<=o.O5:=by
  intro id o' ho'
  rcases aO9 id o' ho' with ⟨hlt,ho⟩|⟨_,ho⟩
  .rcases hc.hle id o' (by omega) ho with hb|⟨o,h1,h2⟩
   all_goals grind
  simp_all
 have bN4:(H1.take m++st.H.drop m).length=st.H.length:=by simp;omega
 have hII:∀ id,N id->I1 id=I id\/n<=id:=fun id hid=>by
  grind
 refine ⟨ez G G2 n,fun id=>if id<n then I1 id else I id,?_,?_,?_⟩
 .have hIo:∀ id,N id->(if id<n then I1 id else I id)=I id:=by
   simp_all
  have hIn:∀ id,N1 id->(if id<n then I1 id else I id)=I1 id:=by
   simp_all
  have hNn:∀ id,N1 id->N id:=fun id hid=>(hN1 id hid).1
  refine ⟨⟨?_,?_,?_,Fi hp.ext h.wf hp.wf,?_⟩,?_,hx,?_,?_,fun id _ hN=>hIo id hN,fun _ h=>h,?_,?_⟩
  .intro s t ht
   exact VR.mono hx hIo (fun _ h=>h) _ _ _ (Or.inr (eW hp.ext (by simp))) (h.T s t ht)
  .intro j hj d hd JD
   have:k≠j:=by grind
   simp only [A2.put];rw [R2 _ _ _ _ _ this];exact VR.mono hx hIo (fun _ h=>h) _ _ _ (Or.inr (eW hp.ext (by simp))) (h.L j hj d hd JD)
  .intro id o' ho'
   rcases aO9 id o' ho' with ⟨hlt,ho⟩|⟨hge,ho⟩
   .refine OR.mono (ou hp.ext) hIn hNn id o' (fun hb=> ?_) (fun off=>kO hp.ext _) (hp.hr id o' ho)
    exact ⟨by rw [bD hp.ext (by simp_all)];exact hb,rfl⟩
   .exact OR.mono hx hIo (fun _ h=>h) id o' (fun hb=>ae2 id hge _ hb) (Wg id hge) (h.H id o' ho)
  .intro id o' ho'
   rcases hle id o' ho' with hb|⟨o,h1,h2⟩
   .omega
   .obtain ⟨d1,d2⟩:=h.W4 id o h1
    omega
  .simp only [A2.put]
   rw [P6 _ _ _ _ bS];exact VR.mono (ou hp.ext) hIn hNn _ _ _ (Or.inr (kO hp.ext _)) hp.val
  .intro id hid
   by_cases hlt:id<n
   .obtain ⟨p1,p2⟩:=hp.fu id (hmay id hlt hid)
    refine ⟨fun b hb=> ?_,fun off b q hb=> ?_⟩
    .obtain ⟨g1,g2⟩:=p1 b (pJ hlt hb)
     exact ⟨by rw [bD hp.ext (by simp_all)];exact g1,g2⟩
    .obtain ⟨g1,_⟩:=mG (G:=G) (w:=w) (off:=off) hlt b q hb
     obtain ⟨g3,g4⟩:=p2 off b q g1;exact ⟨by rw [bD hp.ext (by simp_all)];exact g3,g4⟩
   grind
  all_goals grind [A2.put]
 all_goals simp_all [A2.put]
def MZ (h:RI X l S st a w G I N)(gw:∀ id,N id->id<st.H.length){k:Nat}(hk:¬ S k)(bS:k<st.L.length)(entry:Nat)
  {v:c8} {H1:p9} {x:Value} (hlen:st.H.length<=H1.length) (hc:lY l st.H w (hold G st.H.length) I N v H1 x w1 G1 I1 N1) {p7:List Touch} (Ty:∀ id,p7.any (Touch.L4 id)=false->st.H.length<=id) :
  ∃ G',MN X l S entry st a w G I N (put { st with H:=H1,p7 } k v) k x w1 G' I1 N1:=by
 obtain ⟨G2,hp⟩:=hc.at (pl:= .loc k) (by simp);have hx:=Cv hp.ext;have hIo:∀ id,N id->I1 id=I id:=fun id hid=>hc.inj id (gw id hid) hid
 refine ⟨ez G G2 st.H.length,?_,hc.bI,hc.old⟩;refine ⟨⟨?_,?_,?_,Fi hp.ext h.wf hp.wf,hc.W4⟩,?_,hx,?_,?_,fun id _ hN=>hIo id hN,hc.mono,hlen,fun id o' hb ho' =>hc.hle id o' hb ho'⟩
 .intro s t ht
  exact VR.mono hx hIo hc.mono _ _ _ (Or.inr (eW hp.ext (by simp))) (h.T s t ht)
 .intro j hj d hd JD
  have:k≠j:=by grind
  simp only [A2.put];rw [R2 _ _ _ _ _ this];exact VR.mono hx hIo hc.mono _ _ _ (Or.inr (eW hp.ext (by simp))) (h.L j hj d hd JD)
 .intro id o' ho'
  refine OR.mono (ou hp.ext) (fun _ _=>rfl) (fun _ h=>h) id o' (fun hb=> ?_) (fun off=>kO hp.ext _) (hp.hr id o' ho');exact ⟨by rw [bD hp.ext (by simp_all)];exact hb,rfl⟩
 .simp only [A2.put]
  rw [P6 _ _ _ _ bS];exact VR.mono (ou hp.ext) (fun _ _=>rfl) (fun _ h=>h) _ _ _ (Or.inr (kO hp.ext _)) hp.val
 .intro id hid
  by_cases hlt:id<st.H.length
  .obtain ⟨p1,p2⟩:=hp.fu id hid
   refine ⟨fun b hb=> ?_,fun off b q hb=> ?_⟩
   .obtain ⟨g1,g2⟩:=p1 b (pJ hlt hb)
    exact ⟨by rw [bD hp.ext (by simp_all)];exact g1,g2⟩
   .obtain ⟨g1,_⟩:=mG (G:=G) (w:=w) (off:=off) hlt b q hb
    obtain ⟨g3,g4⟩:=p2 off b q g1;exact ⟨by rw [bD hp.ext (by simp_all)];exact g3,g4⟩
  .exact ⟨Cw hp.ext (by omega),fun off=>eW hp.ext (by simp_all)⟩
 .intro id hN ht
  have:=gw id hN;have:=Ty id ht;omega
def Bv {l:H7}{a b base strict id:Nat}(h:l.may id=false\/(a<=id/\id<b)):(l.pG a b base strict).may id=false:=by
 grind [H7.pG,H7.may,G8,decide_eq_false_iff_not]
def kE (l:H7)(a b base strict:Nat):(l.pG a b base strict).base=base/\(l.pG a b base strict).strict=strict:=by
 grind [H7.pG]
def SZ {E:Env}(Pt:oQ P E.cf E.prom)(hE:E.lim=l)(h:RI X l S st a w G I N)(gw:∀ id,N id->id<st.H.length)(hb:l.base<=st.H.length)(hs:l.strict<=l.base)
  {k:Nat} (hk:¬ S k) (bS:k<st.L.length) (entry:Nat) {f:FuncId} {args:List c8} {I4:Array Value} (hargs:J4 G I N w args I4.toList) {st' :H6} (he:D0 E k f args st=some st') :
  Calls P f I4 w fun e w' =>∃ x G' I' N',e= .returned x/\MN X l S entry st a w G I N st' k x w' G' I' N' :=by
 subst hE;unfold D0 at he;split at he
 .rename_i ye
  split at he
  .rename_i v H1 gv
   split at he
   .rename_i hlen
    cases he;refine Calls.mono (Pt f args st.H E.lim v H1 gv w (hold G st.H.length) I N I4 ⟨?_,?_,Px h.wf,gw,h.W4,hb,hs,fun _ _=>JE,fun h0 _ _ _=>Es h0⟩ (by simp_all)) ?_
    .exact J4.mono uy.sub (fun _ _=>rfl) (fun _ h=>h) _ _ hargs
    .intro id o ho
     have hlt:=u7 ho;exact OR.mono uy.sub (fun _ _=>rfl) (fun _ h=>h) id o (fun hb=>⟨pJ hlt hb,rfl⟩) (fun _=>mG hlt) (h.H id o ho)
    .rintro e w' ⟨x,G1,I1,N1,rfl,hc⟩
     obtain ⟨G',hd⟩:=MZ h gw hk bS entry hlen hc (p7:= .below H1.length::st.p7) (by
      grind [Touch.L4])
     grind
   .cases he
  .cases he
 .rename_i ye
  have ye:E.prom f=false:=by simp_all
  simp only at he;generalize JD:F6 st.H E.lim.strict 8 (C5 args)=n at he;have hna:C5 args<=n:=by
   rw [<- JD];have:∀ (j m:Nat),m<=F6 st.H E.lim.strict j m:=by
    intro j
    induction j with
    |zero=>grind [F6]
    |succ j ih =>
     grind [F6,F9,Nat.le_max_left]
   grind
  split at he
  .rename_i dN
   obtain ⟨hn,hbO⟩:=dN;have htl:(st.H.take n).length=n:=by simp;omega
   have pre:∀ l' :H7,l'.base=n->l'.strict=F7 st.H E.lim.strict n->Ak l' (st.H.take n) w (hold G n) I (fun i=>N i/\i<n) args I4:=by
    intro l' h1 h2;refine ⟨?_,?_,Px h.wf,fun id hid=>by omega,?_,by omega,by simp_all [La],fun b id hb=>by rw [htl];exact JE hb,fun h0 _ _ _=>Es (by omega)⟩
    .exact J4.mono uy.sub (fun _ _=>rfl) (fun _ h=>h) _ _ (J4.low n _ _ hna hargs)
    .intro id o ho
     have hlt:id<n:=by grind
     rw [List.getElem?_take_of_lt hlt] at ho;exact OR.mono uy.sub (fun _ _=>rfl) (fun _ h=>h) id o (fun hb=>⟨pJ hlt hb,rfl⟩) (fun _=>mG hlt) (OR.low hlt o (xw h.W4 hbO hlt ho) (h.H id o ho))
    .intro id o ho
     have hlt:id<n:=by have:=u7 ho;omega
     rw [List.getElem?_take_of_lt hlt] at ho;rw [h1,h2];exact ⟨fun hh=>HG h.W4 hh ho,fun _=>xw h.W4 hbO hlt ho⟩
   split at he
   .split at he
    .rename_i v H1 gv
     split at he
     .rename_i hlen
      cases he;refine Calls.mono (Pt f args _ _ v H1 gv w (hold G n) I _ I4 (pre _ rfl rfl) (fun _=>htl.symm)) ?_;rintro e w' ⟨x,G1,I1,N1,rfl,hc⟩;obtain ⟨G',I',hd⟩:=sV (l' :={ E.lim with base:=n,strict:=F7 st.H E.lim.strict n }) h gw hk bS entry hn (n5 n) rfl (fun id _ hid=>hid) (fun id h1 h2=>by omega) hlen hc (p7:= .below n::st.p7) (by
       intro id ht;simp [Touch.L4] at ht;omega)
      rw [<- hlen,List.take_length,hlen] at hd;exact ⟨x,G',I',N,rfl,hd⟩
     .cases he
    .cases he
   .split at he
    .rename_i v H1 gv
     split at he
     .rename_i hlen
      cases he;refine Calls.mono (Pt f args _ _ v H1 gv w (hold G n) I _ I4 (pre _ rfl rfl) (fun _=>htl.symm)) ?_;rintro e w' ⟨x,G1,I1,N1,rfl,hc⟩;obtain ⟨G',I',hd⟩:=sV (l' :=⟨0,n,n,F7 st.H E.lim.strict n⟩) h gw hk bS entry hn (Nat.zero_le n) rfl (fun id h1 _=>by simp [H7.may];omega) (fun id _ h2=>by simp [H7.may];omega) hlen hc (p7:=st.p7) (by intros;omega);refine ⟨x,G',I',N,rfl,?_⟩;simpa using hd
     .cases he
    .cases he
   .split at he
    .rename_i v H1 gv
     split at he
     .rename_i hlen
      cases he;refine Calls.mono (Pt f args _ _ v H1 gv w (hold G n) I _ I4 (pre _ (kE _ _ _ _ _).1 (kE _ _ _ _ _).2) (fun _=>by rw [(kE _ _ _ _ _).1,htl])) ?_;rintro e w' ⟨x,G1,I1,N1,rfl,hc⟩;obtain ⟨G',I',hd⟩:=sV h gw hk bS entry hn hlen.2 (kE _ _ _ _ _).1 (fun id _ hid=>Bv (Or.inl hid)) (fun id h1 h2=>Bv (Or.inr ⟨h1,h2⟩)) hlen.1 hc (p7:= .below (args.headD .any).O5::st.p7) (by
       intro id ht;simp [Touch.L4] at ht;simpa using ht.1)
      exact ⟨x,G',I',N,rfl,hd⟩
     .cases he
    .cases he
  .cases he
end
end Go.A2
namespace Go.A2
variable [C9]
structure Tr (N:Nat->Prop)(k:Nat)(st st' :H6):Prop where
 p7:∀ p:Touch->Bool,st.p7.any p=true->st'.p7.any p=true
 L:∀ m id off:Nat,m≠k->st'.L[m]? =some (c8.ptr id off)->st.L[m]? =some (c8.ptr id off)
 T:∀ s id off:Nat,st'.T[s]? =some (c8.ptr id off)->st.T[s]? =some (c8.ptr id off)
 H:∀ (id:Nat) (l' :List c8),N id->st'.p7.any (Touch.L4 id)=false->st'.H[id]? =some (A1.cells l')->∃ l:List c8,st.H[id]? =some (A1.cells l)/\l.length=l'.length
 W5:st'.T.length=st.T.length
 jS:st'.L.length=st.L.length
 ZP:∀ m:Nat,m≠k->st.L[m]? =some (c8.tuple [])->st'.L[m]? =some (c8.tuple [])
section
variable {N:Nat->Prop} {k:Nat} {st st1 st' :H6}
theorem Tr.refl (N:Nat->Prop)(k:Nat)(st:H6):Tr N k st st :=
 ⟨fun _ h=>h,fun _ _ _ _ h=>h,fun _ _ _ h=>h,fun _ l _ _ h=>⟨l,h,rfl⟩,rfl,rfl,fun _ _ h=>h⟩
theorem jT {t t' :List Touch}(h:∀ p:Touch->Bool,t.any p=true->t'.any p=true){p:Touch->Bool}(h' :t'.any p=false):t.any p=false:=by
 grind
theorem Tr.trans (a:Tr N k st st1)(b:Tr N k st1 st'):Tr N k st st' where
 p7 p h:=b.p7 p (a.p7 p h)
 L m id off hm h:=a.L m id off hm (b.L m id off hm h)
 T s id off h:=a.T s id off (b.T s id off h)
 H id l' hN ht h:=by
  obtain ⟨l1,h1,e1⟩:=b.H id l' hN ht h;obtain ⟨l,h2,e2⟩:=a.H id l1 hN (jT b.p7 ht) h1;simp_all
 W5:=b.W5.trans a.W5
 jS:=b.jS.trans a.jS
 ZP m hm h:=b.ZP m hm (a.ZP m hm h)
theorem Tr.put (v:c8):Tr N k st (put st k v) where
 p7 _ h:=h
 L m id off hm h:=by
  grind [A2.put,B5]
 T _ _ _ h:=h
 H _ l _ _ h:=⟨l,h,rfl⟩
 W5:=rfl
 jS:=by simp [A2.put]
 ZP m hm h:=by
  grind [A2.put,B5]
def xu {l:List c8}{j m id off:Nat}{x:Data}(h:(l.set j (.d x))[m]? =some (.ptr id off)):l[m]? =some (.ptr id off):=by
 grind
def yB {l:List c8}{j m:Nat}{z n:Nat}{c:List Data}{v:c8}(hj:l[j]? =some (.own z n c))(h:l[m]? =some (c8.tuple [])):(l.set j v)[m]? =some (c8.tuple []):=by
 grind
theorem Tr.D8 (y:y5):Tr N k st (D8 st y).2:=by
 cases y with
 |loc j =>
  simp [A2.D8];split
  .rename_i hj
   exact ⟨fun _ h=>h,fun m id off _ h=>xu h,fun _ _ _ h=>h,fun _ l _ _ h=>⟨l,h,rfl⟩,rfl,by simp,fun _ _ h=>yB hj h⟩
  all_goals simp_all [Tr.refl]
 |slot s=>exact Tr.refl _ _ _
 |const v=>exact Tr.refl _ _ _
def Tr.newObj {z7:Option Nat}(hi:∀ i,z7=some i->i<st.H.length)(hn:¬ N (newId st z7))(o:A1):Tr N k st (M4 st z7 o) where
 p7 p h:=by cases z7<;>exact h
 L m id off _ h:=by cases z7<;>exact h
 T s id off h:=by cases z7<;>exact h
 H id l' hN _ h:=by
  grind [kH,absurd]
 W5:=by cases z7<;>rfl
 jS:=by cases z7<;>rfl
 ZP m _ h:=by cases z7<;>exact h
def Tr.heap {H' :p9}{p7:List Touch}(h1:∀ p:Touch->Bool,st.p7.any p=true->p7.any p=true)(h2:∀ id,N id->p7.any (Touch.L4 id)=false->H'[id]? =st.H[id]?):Tr N k st { st with H:=H',p7 } where
 p7:=h1
 L _ _ _ _ h:=h
 T _ _ _ h:=h
 H id l' hN ht h:=by
  simp_all
 W5:=rfl
 jS:=rfl
 ZP _ _ h:=h
theorem Tr.X5 {l:H7}{sz len:Nat}{cells:List Data}{op:x9}(h:X5 l st sz op=some (len,cells,st')):Tr N k st st' :=by
 unfold A2.X5 at h;split at h
 .split at h
  .cases h
  .split at h
   .split at h
    .cases h
     exact ⟨fun p hp=>by simp_all,fun _ _ _ _ h=>h,fun s id off h=>xu h,fun _ l _ _ h=>⟨l,h,rfl⟩,by simp,rfl,fun _ _ h=>h⟩
    .cases h
   .cases h
 .split at h
  .split at h
   .cases h
   .split at h
    .split at h
     .split at h
      .cases h
       refine ⟨fun p hp=>by simp_all,fun _ _ _ _ h=>h,fun _ _ _ h=>h,fun id' l' _ _ h=> ?_,rfl,rfl,fun _ _ h=>h⟩
       grind [L0,u7,B5]
      .cases h
     .cases h
    .cases h
  .cases h
 .cases h
theorem Tr.Q3 {l:H7}{l5:List o9}{sz len:Nat}{cells:List Data}{y:y5}(h:Q3 l l5 st sz y=some (len,cells,st')):Tr N k st st' :=by
 unfold A2.Q3 at h;split at h
 .simp_all [Tr.refl]
 .cases h
 .cases h
 .split at h
  .rename_i hj
   split at h
   .cases h
    exact ⟨fun _ h=>h,fun m id off _ h=>xu h,fun _ _ _ h=>h,fun _ l _ _ h=>⟨l,h,rfl⟩,rfl,by simp,fun _ _ h=>yB hj h⟩
   .cases h
  all_goals grind [Tr.X5]
theorem Wk {v:c8}{id i o:Nat}(h:v.kill id= .ptr i o):v= .ptr i o:=by
 cases v<;>simp [c8.kill] at h<;>first|omega|grind|exact h
def Ey {l:List c8}{id m i o:Nat}(h:(I6 id l)[m]? =some (.ptr i o)):l[m]? =some (.ptr i o):=by
 grind [gI,Option.some.injEq,Wk]
theorem Tr.U0 {E:Env}{sz bytes id lo len:Nat}{y:c8}(h:U0 E k sz bytes st id lo len y=some st'):Tr N k st st' :=by
 unfold A2.U0 at h;split at h
 .split at h
  .rename_i l0 m cs hl0 _
   split at h
   .cases h
    refine Tr.trans ?_ (Tr.put _);refine ⟨fun p hp=>by simp_all,fun m' i o _ h=>Ey h,fun s i o h=>Ey h,fun id' l' _ ht h=> ?_,by simp [S1],by simp [S1],fun m' _ h=>by grind [gI,c8.kill,I6]⟩;have hne:id' ≠id:=by grind [Touch.L4]
    have h' :(qV st.H E.lim.base id (.cells (I6 id l0++cs)))[id']? =some (.cells l'):=h;unfold qV at h';rw [B5 (fun e=>hne e.symm)] at h'
    by_cases hb:id' <E.lim.base
    .grind
    .by_cases hlt:id' <st.H.length
     .rw [u9 (by simp;omega),List.getElem?_map,List.getElem?_drop] at h'
      rw [show E.lim.base+(id' - (List.take E.lim.base st.H).length)=id' from by simp;omega] at h';cases ho:st.H[id']? with
      |none=>simp_all
      |some o =>
       rw [ho] at h';cases o<;>simp [A1.kill] at h'
       grind [S1]
     grind
   .cases h
  .cases h
 .cases h
theorem Tr.D0 {E:Env}{f:FuncId}{args:List c8}(gw:∀ id,N id->id<st.H.length)(h:D0 E k f args st=some st'):Tr N k st st' :=by
 unfold A2.D0 at h;split at h
 .split at h
  .split at h
   .cases h
    refine Tr.trans ?_ (Tr.put _);refine Tr.heap (fun p hp=>by simp_all) fun id hN ht=> ?_
    grind [Touch.L4]
   .cases h
  .cases h
 .simp only at h
  split at h
  .split at h
   .split at h
    .split at h
     .cases h
      refine Tr.trans ?_ (Tr.put _);refine Tr.heap (fun p hp=>by simp_all) fun id hN ht=> ?_
      simp_all [Touch.L4,u9,List.getElem?_drop]
     .cases h
    .cases h
   .grind [Tr.put]
   .split at h
    .split at h
     .cases h
      refine Tr.trans ?_ (Tr.put _);refine Tr.heap (fun p hp=>by simp_all) fun id hN ht=> ?_
      simp_all [Touch.L4,u9,List.getElem?_drop]
     .cases h
    .cases h
  .cases h
theorem vh {H H' :p9}{id off:Nat}{vs:List c8}(h:wr H id off vs=some H'){id' :Nat}(hne:id' ≠id):H'[id']? =H[id']? :=by
 grind [wr,B5]
theorem Tr.S4 {E:Env}{n:Nat}{a:c8}{x:y5}(h:S4 E k n st a x=some st'):Tr N k st st' :=by
 unfold A2.S4 at h;split at h
 .split at h
  .split at h
   .split at h
    .cases h
     refine Tr.trans (Tr.trans (Tr.D8 x) ?_) (Tr.put _);refine Tr.heap (fun p hp=>by simp_all) fun id' hN ht=> ?_
     grind [vh,Touch.L4]
    .cases h
   .cases h
  .cases h
 .cases h
theorem Tr.Y4 {E:Env}{sz:Nat}{zero:List c8}{a:c8}(h:Y4 E k sz zero st a=some st'):Tr N k st st' :=by
 unfold A2.Y4 at h;split at h
 .split at h
  .split at h
   .cases h
    refine Tr.trans ?_ (Tr.put _);refine Tr.heap (fun p hp=>by simp_all) fun id' hN ht=> ?_
    grind [vh,Touch.L4]
   .cases h
  .cases h
 all_goals grind [Tr.put]
theorem Tr.V4 {E:Env}{kk:KK}{m key v:c8}(h:V4 E k kk st m key v=some st'):Tr N k st st' :=by
 unfold A2.V4 at h;split at h
 .split at h
  .split at h
   .split at h
    .split at h
     .cases h
      refine Tr.trans ?_ (Tr.put _);refine Tr.heap (fun p hp=>by simp_all) fun id' hN ht=> ?_
      simp_all [B5,Touch.L4]
     .cases h
    .cases h
   .cases h
  .cases h
 .cases h
theorem Tr.O4 {E:Env}{l5:List o9}{z7:Option Nat}{sz bytes:Nat}{ob:Bool}{x:y5}{y:c8}(hi:∀ i,z7=some i->i<st.H.length)(hn:¬ N (newId st z7))
  (h:O4 E l5 z7 k sz bytes ob st x y=some st'):Tr N k st st' :=by
 unfold A2.O4 at h;split at h
 .split at h
  .split at h
   .split at h
    .grind [Tr.put]
    .cases h;exact (Tr.newObj hi hn _).trans (Tr.put _)
   .cases h
  .split at h
   .split at h
    .rename_i ht
     split at h
     .cases h;exact (Tr.Q3 ht).trans (Tr.put _)
     .cases h
    .cases h
   .cases h
 .cases h
theorem Tr.F3 {E:Env}{l5:List o9}{z7:Option Nat}{op:x9}(gw:∀ id,N id->id<st.H.length)(hi:∀ i,z7=some i->i<st.H.length)(hn:op.B6=true->¬ N (newId st z7))
  (h:F3 E l5 z7 k st op=some st'):Tr N k st st' :=by
 cases op<;>simp only [A2.F3] at h<;>try simp_all
 case alloc zero=>cases h;exact (Tr.newObj hi (hn rfl) _).trans (Tr.put _)
 case box x =>
  split at h
  .cases h;exact (Tr.newObj hi (hn rfl) _).trans (Tr.put _)
  .cases h
 case makeMap=>cases h;exact (Tr.newObj hi (hn rfl) _).trans (Tr.put _)
 case rJ x=>grind [Tr.put]
 case own sz x =>
  split at h
  .rename_i ht
   cases h;exact (Tr.Q3 ht).trans (Tr.put _)
  .cases h
 case F5 sz len zero parts ob =>
  cases ob
  .cases h
  .simp only at h
   split at h
   .split at h
    .cases h;exact (Tr.newObj hi (hn rfl) _).trans (Tr.put _)
    .cases h
   .cases h
 case store n a x=>exact Tr.S4 h
 case append sz bytes ob x y =>
  split at h
  .grind [Tr.U0]
  .cases ob with
   |true=>exact Tr.O4 hi (hn rfl) h
   |false =>
    unfold A2.O4 at h;simp only [j4,if_false] at h;split at h
    .split at h
     .split at h
      .rename_i ht
       split at h
       .cases h;exact (Tr.Q3 ht).trans (Tr.put _)
       .cases h
      .cases h
     .cases h
    .cases h
 case clear sz zero x=>exact Tr.Y4 h
 all_goals grind [call,Tr.D0,Tr.V4,Tr.put]
theorem Tr.E2 {E:Env}{l5:List o9}{z7:Option Nat}{op:x9}{rs:List Nat}(gw:∀ id,N id->id<st.H.length)(hi:∀ i,z7=some i->i<st.H.length)(hn:op.B6=true->¬ N (newId st z7))
  (h:E2 E l5 z7 k op st=some (st',rs)):Tr N k st st' :=by
 unfold A2.E2 at h;split at h
 .grind [Tr.F3]
 .split at h
  .cases h
   exact (Tr.D8 _).trans (Tr.put _)
  grind [Tr.put]
end
end Go.A2
namespace Go.A2
variable [C9]
structure xJ (z7:Option Nat)(X:Cx)(l:H7)(S:Nat->Prop)(entry:Nat)(st:H6)(a:Act)(w:World)(G:Gh)(I:S7)(N:Nat->Prop)
  (st' :H6) (k:Nat) (x' :Value) (w' :World) (G' :Gh) (I' :S7) (N' :Nat->Prop):Prop where
 mid:dG X l S entry st a w G I N st' k x' w' G' I' N'
 bI:∀ id,N' id->id<st'.H.length
 old:∀ id,id<st.H.length->N' id->N id\/z7=some id
def dH (P:Program)(o:Oper)(a:Act)(w:World)(R:Act->World->Prop):Prop :=
 ∀ (K:Act->World->Prop) (Q:Exit->Act->World->Prop),(∀ a' w',R a' w' ->K a' w')->o.wp P a w K Q
section
variable {P:Program} {o:Oper} {a:Act} {w w' :World} {R:Act->World->Prop}
theorem dH.value {x:Value}(h:(execOp a.eval o).run P w= .ok (.value x) w')(hR:R (a.put o.dst x) w'):dH P o a w R:=by
 intro K Q hK;simp_all [Oper.wp,Oper.upon]
theorem dH.skip (h:(execOp a.eval o).run P w= .ok .skip w')(hR:R (a.put o.dst undef) w'):dH P o a w R:=by
 intro K Q hK;simp_all [Oper.wp,Oper.upon]
theorem dH.defer {d:Deferred}(h:(execOp a.eval o).run P w= .ok (.defer d) w')(hR:R ({ a with defers:=d::a.defers }.put o.dst undef) w'):dH P o a w R:=by
 intro K Q hK;simp_all [Oper.wp,Oper.upon]
theorem dH.enter {f:FuncId}{args:Array Value}(h:(execOp a.eval o).run P w= .ok (.enter f args) w)(hR:Calls P f args w fun e w' =>∃ x,e= .returned x/\R (a.put o.dst x) w'):dH P o a w R:=by
 intro K Q hK
 grind [Oper.wp,Oper.upon,Calls.mono]
end
def zL (P:Program)(ck:Operand->y5->Bool)(o:Oper)(op:x9):Bool :=
 match o.op,op with
 | .call ⟨.value (.func f),args,_⟩,.call g ys=>f==g&&Va ck args.toList ys&&T6 P f
 | .call ⟨.value x,args,_⟩,.aO y ys=>ck x y&&Va ck args.toList ys
 |_,_=>false
def IV (ck:Operand->y5->Bool)(o:Oper)(op:x9):Bool :=
 match o.op,op with
 | .defer ⟨.value x,args,_⟩,.defer y=>ck x y&&args.isEmpty
 |_,_=>false
def wC (ck:Operand->y5->Bool)(o:Oper)(y:y5):Bool :=
 match o.op with
 | .move x=>ck x y
 | .assign x=>ck x y
 |_=>false
def aP (P:Program)(ck:Operand->y5->Bool)(o:Oper)(op:x9):Bool :=
 match op with
 | .Q5 y=>wC ck o y
 | .alloc _=>fE P ck o op
 | .box _=>fE P ck o op
 | .makeMap=>fE P ck o op
 | .rJ x=>wC ck o (.const (.d x))
 | .own _ x=>wC ck o x
 | .F5 .. =>fE P ck o op
 | .store .. =>AG P ck o op
 | .append _ _ _ _ _=>jw P ck o op
 | .eu .. =>Nb P ck o op
 | .call .. =>zL P ck o op
 | .aO .. =>zL P ck o op
 | .defer _=>IV ck o op
 | .clear .. =>AE P ck o op
 | .bad=>true
 |op=>E3 P ck o op
section
variable {P:Program} {X:Cx} {l:H7} {S:Nat->Prop} {st st' :H6} {a:Act} {w w' :World} {G G' :Gh} {I I' :S7} {N N' :Nat->Prop} {D:Nat->Bool} {l5:List o9}
def xJ.jZ {z7:Option Nat}{entry k:Nat}{x:Value}(gw:∀ id,N id->id<st.H.length)(h:dG X l S entry st a w G I N st' k x w' G' I' N):xJ z7 X l S entry st a w G I N st' k x w' G' I' N :=
 ⟨h,fun id hid=>Nat.lt_of_lt_of_le (gw id hid) h.len,fun _ _ h=>Or.inl h⟩
def xJ.Wz {entry k:Nat}{x:Value}{z7:Option Nat}(gw:∀ id,N id->id<st.H.length){o:A1}{v:c8}(hi:∀ i,z7=some i->i<st.H.length)
  (h:dG X l S entry st a w G I N (put (M4 st z7 o) k v) k x w' G' I' N') (hN:∀ i,N' i↔N i\/i=newId st z7) :
  xJ z7 X l S entry st a w G I N (put (M4 st z7 o) k v) k x w' G' I' N' :=by
 refine ⟨h,fun id hid=> ?_,fun id hlt hid=> ?_⟩
 all_goals (simp_all [put,M4,newId]<;>grind)
def sP {l1 l2:List c8}{v1 v2:List Value}:∀ (_:J4 G I N w l1 v1) (_:J4 G I N w l2 v2),J4 G I N w (l1++l2) (v1++v2):=by
 induction l1 generalizing v1 with
 |nil=>simp_all [J4]
 |cons b bs ih =>
  grind [J4]
structure ku (X:Cx)(st:H6)(a:Act)(w:World)(I:S7)(op:x9)(x:Value):Prop where
 Q5:∀ s t,op= .Q5 (.slot s)->X.names[s]? =some t->x=a.tmps.getD t undef
 load:∀ y id off,op= .load none y->bJ st y=some (id,off)->w.cell? (ad (I id).1 ((I id).2+off))=some x
def ku.other {X:Cx}{st:H6}{a:Act}{w:World}{I:S7}{op:x9}{x:Value}(h1:∀ y,op≠ .Q5 y)(h2:∀ n y,op≠ .load n y):ku X st a w I op x :=
 ⟨fun _ _ h=>absurd h (h1 _),fun _ _ _ h=>absurd h (h2 _ _)⟩
def ah5 {st:H6}{y:y5}{id off:Nat}(h:bJ st y=some (id,off)):J2 st.T st.L y= .ptr id off:=by
 unfold bJ at h
 grind [J2,List.getD,c8.J3]
def TF {ck:Operand->y5->Bool}{η:Operand->Value}{ρ:y5->c8}{H:p9}(hρ:dm ck G I N w η ρ)(hH:HR G I N w H){o:Oper}{y:y5}(hc:E3 P ck o (.load none y)=true){v:c8}{rs:List Nat}
  (h:o6 ρ H (.load none y)=some (v,rs)) {id off:Nat} (hp:ρ y= .ptr id off) {x:Value} (hx:(execOp η o).run P w= .ok (.value x) w):w.cell? (ad (I id).1 ((I id).2+off))=some x:=by
 obtain ⟨dst,fq,ty,pos,after,guard⟩:=o;cases fq<;>simp [E3] at hc;rename_i t x';have h1:=hρ _ _ hc.1;have ha:ep P t=some false:=by simp_all [tC]
 simp [o6,hp] at h;rw [hp] at h1;simp [VR] at h1;split at h
 .rename_i u hu
  obtain ⟨_,xs,g1,_,g3,g4⟩:=hH.rd hu (by omega);obtain ⟨z,rfl⟩:∃ z,xs=[z]:=by
   match xs,g1 with
   |[z],_=>simp_all
  have hz:=g3 0 z rfl;simp_all [execOp,Instr.loadAt,Instr.sureAddr,loadVar,cS]
 .cases h
def Aj (P:Program)(idle:FuncId->Bool)(z7:Option Nat)(X:Cx)(l:H7)(S:Nat->Prop)(entry:Nat)(st:H6)(a:Act)(w:World)(G:Gh)(I:S7)(N:Nat->Prop)(st' :H6)(k:Nat)(o:Oper)(op:x9)(a' :Act)(w' :World):Prop :=
 ∃ x ds G' I' N',ku X st a w I op x/\a' =({ a with defers:=ds }:Act).put o.dst x/\(ds=a.defers\/∃ d,ds=d::a.defers/\Iy P idle d)/\xJ z7 X l S entry st a w G I N st' k x w' G' I' N'
def KZ {E:Env}(Pt:oQ P E.cf E.prom)(gv:∀ f args H lm r,E.cf f args H lm=some r->T6 P f=true)(hE:E.lim=l)(h:RI X l S st a w G I N)(hpv:PV X l5 S st a w I)(hT:st.T.length=X.names.length)
  (gw:∀ id,N id->id<st.H.length) (hb:l.base<=st.H.length) (hs:l.strict<=l.base) (hD:∀ j,D j=true->S j) {k:Nat} (hk:¬ S k) (bS:k<st.L.length) {o:Oper} {op:x9} (hc:aP P (X.ck D) o op=true)
  {z7:Option Nat} (hid:op.B6=true->Iw l st N z7) {rs:List Nat} (he:E2 E l5 z7 k op st=some (st',rs)) :
  dH P o a w (Aj P E.idle z7 X l S E.entry st a w G I N st' k o op):=by
 have hρ:=h.T1 hD;have fin:∀ {x:Value} {w' :World} {G' :Gh} {I' :S7} {N' :Nat->Prop},ku X st a w I op x->xJ z7 X l S E.entry st a w G I N st' k x w' G' I' N' ->Aj P E.idle z7 X l S E.entry st a w G I N st' k o op (a.put o.dst x) w' :=
  fun {x w' G' I' N'} hF hS=>⟨x,a.defers,G',I',N',hF,rfl,Or.inl rfl,hS⟩
 have Xl:∀ {v:c8} {rs:List Nat},(∀ y,op≠ .Q5 y)->E3 P (X.ck D) o op=true->o6 (J2 st.T st.L) st.H op=some (v,rs)->st' =put st k v->dH P o a w (Aj P E.idle z7 X l S E.entry st a w G I N st' k o op):=by
  intro v rs hm h1 h2 h3;subst h3;obtain ⟨x,g1,g2⟩:=Ob (P:=P) (fun v=>by rfl) hρ h.H h1 h2;refine dH.value g1 (fin ⟨fun s t e=>absurd e (hm _),fun y id off e hp=> ?_⟩ (xJ.jZ gw (dG.same h hk bS E.entry g2.place)));subst e;exact TF hρ h.H h1 h2 (ah5 hp) g1
 have IL:(∀ y,op≠ .Q5 y)->(∀ n y,op≠ .load n y)->∀ (f:FuncId) (args:List c8) (I4:Array Value),J4 G I N w args I4.toList->D0 E k f args st=some st' ->(execOp a.eval o).run P w=(callFunc f I4).run P w->dH P o a w (Aj P E.idle z7 X l S E.entry st a w G I N st' k o op):=by
  intro hm hl f args I4 h1 h2 h3;have hcan:T6 P f=true:=by
   unfold D0 at h2;split at h2
   .split at h2
    .rename_i Ts
     exact gv f _ _ _ _ Ts
    .cases h2
   .simp only at h2
    split at h2
    .split at h2
     .split at h2
      .rename_i Ts
       exact gv f _ _ _ _ Ts
      .cases h2
     .split at h2
      .rename_i Ts
       exact gv f _ _ _ _ Ts
      .cases h2
     .split at h2
      .rename_i Ts
       exact gv f _ _ _ _ Ts
      .cases h2
    .cases h2
  refine dH.enter (f:=f) (args:=I4) (by rw [h3];exact uL hcan I4) ?_;refine Calls.mono (SZ Pt hE h gw hb hs hk bS E.entry h1 h2) ?_;rintro e w' ⟨x,G',I',N',rfl,hC⟩;exact ⟨x,rfl,fin (ku.other hm hl) ⟨hC.mid,hC.bI,fun id hlt hid=>Or.inl (hC.old id hlt hid)⟩⟩
 unfold E2 at he;cases op
 case Q5 y =>
  simp only [x9.D9,j4,if_false] at he;cases he;simp only [aP] at hc;have key:∀ x,X.ck D x y=true->(execOp a.eval o).run P w= .ok (.value (a.eval x)) w->dH P o a w (Aj P E.idle z7 X l S E.entry st a w G I N (put (D8 st y).2 k (D8 st y).1) k o (.Q5 y)):=by
   intro x hx hrun;obtain ⟨G1,hX⟩:=h.D8 hD hx (pl:= .loc k) (by simp);have hM:=dG.same hX.ri hk (by rw [CD];exact bS) E.entry hX.val;exact dH.value hrun (fin ⟨fun s t e hn=>by cases e;simp only [Cx.ck] at hx;split at hx<;>simp_all [Act.eval],fun _ _ _ e=>by cases e⟩ (xJ.jZ gw (dG.pre hX.ext hX.keeps hX.obj (xG st y) hM)))
  obtain ⟨dst,fq,ty,pos,after,guard⟩:=o;cases fq<;>simp only [wC] at hc<;>try (cases hc;done)
  .exact key _ hc (by simp [execOp])
  .exact key _ hc (by simp [execOp])
 case alloc zero =>
  simp only [x9.D9,if_true,F3] at he;cases he;have h1:=hid rfl;obtain ⟨x,w',G',I',N',g1,g2,g3⟩:=TH h hk bS E.entry h1 (by simpa [aP] using hc);exact dH.value g1 (fin (ku.other (by simp) (by simp)) (xJ.Wz gw h1.inside g2 g3))
 case box y =>
  simp only [x9.D9,if_true,F3] at he;split at he
  .rename_i hcs
   split at hcs
   .rename_i cs wQ
    cases hcs;cases he;have h1:=hid rfl;obtain ⟨x,w',G',I',N',g1,g2,g3⟩:=af3 h hρ hk bS E.entry h1 (by simpa [aP] using hc) wQ;exact dH.value g1 (fin (ku.other (by simp) (by simp)) (xJ.Wz gw h1.inside g2 g3))
   .cases hcs
  .cases he
 case rJ d =>
  simp only [x9.D9,if_true,F3] at he;cases he;simp only [aP] at hc;have key:∀ x,X.ck D x (.const (.d d))=true->(execOp a.eval o).run P w= .ok (.value (a.eval x)) w->dH P o a w (Aj P E.idle z7 X l S E.entry st a w G I N (put st k (.d d)) k o (.rJ d)):=by
   intro x hx hrun;have g2:VR G I N w .none (.d d) (a.eval x):=hρ x _ hx;exact dH.value hrun (fin (ku.other (by simp) (by simp)) (xJ.jZ gw (dG.same h hk bS E.entry g2.place)))
  obtain ⟨dst,fq,ty,pos,after,guard⟩:=o;cases fq<;>simp only [wC] at hc<;>try (cases hc;done)
  .exact key _ hc (by simp [execOp])
  .exact key _ hc (by simp [execOp])
 case own sz y =>
  simp only [x9.D9,if_true,F3] at he;split at he
  .rename_i hcs
   split at hcs
   .rename_i len cells st1 ht
    cases hcs;cases he;simp only [aP] at hc;have key:∀ x,X.ck D x y=true->(execOp a.eval o).run P w= .ok (.value (a.eval x)) w ->
      dH P o a w (Aj P E.idle z7 X l S E.entry st a w G I N (put st1 k (.own sz len cells)) k o (.own sz y)):=by
     intro x hx hrun;obtain ⟨G1,Ju⟩:=rZ h hpv hT hD hk hx (hE ▸ ht);exact dH.value hrun (fin (ku.other (by simp) (by simp)) (xJ.jZ gw (dG.af8 Ju (dG.same Ju.ri hk (by rw [Ju.L];exact bS) E.entry Ju.val))))
    obtain ⟨dst,fq,ty,pos,after,guard⟩:=o;cases fq<;>simp only [wC] at hc<;>try (cases hc;done)
    .exact key _ hc (by simp [execOp])
    .exact key _ hc (by simp [execOp])
   .cases hcs
  .cases he
 case makeMap =>
  simp only [x9.D9,if_true,F3] at he;cases he;have h1:=hid rfl;obtain ⟨x,w',G',I',N',g1,g2,g3⟩:=af4 (P:=P) h hk bS E.entry h1 (by simpa [aP] using hc);exact dH.value g1 (fin (ku.other (by simp) (by simp)) (xJ.Wz gw h1.inside g2 g3))
 case F5 sz len zero parts ob =>
  cases ob with
  |false =>
   simp only [x9.D9,j4,if_false] at he;split at he
   .rename_i v rs' hp
    cases he;obtain ⟨x,w',G',g1,g2⟩:=TI h hρ hk bS E.entry (by simpa [aP] using hc) hp;exact dH.value g1 (fin (ku.other (by simp) (by simp)) (xJ.jZ gw g2))
   .cases he
  |true =>
   simp only [x9.D9,if_true,F3] at he;split at he
   .rename_i hcs
    split at hcs
    .rename_i cs wQ
     split at hcs
     .rename_i hl
      cases hcs;cases he;have h1:=hid rfl;obtain ⟨x,w',G',I',N',g1,g2,g3⟩:=Hf h hρ hk bS E.entry h1 (by simpa [aP] using hc) wQ hl.2;exact dH.value g1 (fin (ku.other (by simp) (by simp)) (xJ.Wz gw h1.inside g2 g3))
     .cases hcs
    .cases hcs
   .cases he
 case store n x y =>
  simp only [x9.D9,if_true,F3] at he;split at he
  .rename_i hst
   cases he;obtain ⟨w',G',g1,g2⟩:=Td h hD hk bS E.entry (by simpa [aP] using hc) hE hst;exact dH.skip g1 (fin (ku.other (by simp) (by simp)) (xJ.jZ gw g2))
  .cases he
 case append sz bytes ob x y =>
  simp only [aP] at hc;simp only [x9.D9,if_true,F3] at he;split at he
  .rename_i hst
   cases he;split at hst
   .rename_i id z lo len hx
    split at hst
    .rename_i hz
     subst hz;obtain ⟨v,w',G',I',g1,g2⟩:=DB h hD hk bS hc hE hx hst;exact dH.value g1 (fin (ku.other (by simp) (by simp)) (xJ.jZ gw g2))
    .cases hst
   .cases ob with
    |false =>
     obtain ⟨v,w',G',g1,g2⟩:=No h hpv hT hD hk bS E.entry hc hE hst;exact dH.value g1 (fin (ku.other (by simp) (by simp)) (xJ.jZ gw g2))
    |true =>
     have h1:=hid rfl
     rcases DA h hpv hT hD hk bS E.entry h1 hc hE hst with ⟨v,w',G',g1,g2⟩|⟨v,w',G',I',N',ob,av,g1,rfl,g2,g3⟩
     .exact dH.value g1 (fin (ku.other (by simp) (by simp)) (xJ.jZ gw g2))
     .exact dH.value g1 (fin (ku.other (by simp) (by simp)) (xJ.Wz gw h1.inside g2 g3))
  .cases he
 case eu kk m ky v =>
  simp only [x9.D9,if_true,F3] at he;split at he
  .rename_i hst
   cases he;obtain ⟨w',g1,g2⟩:=Np h hD hk bS E.entry (by simpa [aP] using hc) hE hst;exact dH.skip g1 (fin (ku.other (by simp) (by simp)) (xJ.jZ gw g2))
  .cases he
 case call f ys =>
  simp only [x9.D9,if_true,F3] at he;split at he
  .rename_i hst
   cases he;simp only [aP,zL] at hc;split at hc
   .rename_i f' args _ g ys' hop heq
    cases heq;simp only [c7,beq_iff_eq] at hc;obtain ⟨⟨rfl,hcs⟩,hcan⟩:=hc;refine IL (by simp) (by simp) f' (ys.map (J2 st.T st.L)) (args.map a.eval) (by simpa using jx hρ _ _ hcs) hst ?_;simp [execOp,hop,resolve,Act.eval,Deferred.ofValue,invoke]
   .rename_i heq;cases heq
   .cases hc
  .cases he
 case aO y ys =>
  simp only [x9.D9,if_true,F3] at he;split at he
  .rename_i hst
   cases he;simp only [aP,zL] at hc;split at hc
   .rename_i heq;cases heq
   .rename_i x args _ y' ys' hop heq
    cases heq;simp only [c7] at hc;have hv:=hρ _ _ hc.1;split at hst
    .rename_i f first caps hy
     rw [hy] at hv;simp only [VR] at hv;obtain ⟨vf,vc,e1,e2,e3⟩:=hv;refine IL (by simp) (by simp) f (first++ys.map (J2 st.T st.L)++caps) (vf++args.map a.eval++vc) ?_ hst ?_
     .simp only [Array.toList_append,Array.toList_map]
      exact sP (sP e2 (jx hρ _ _ hc.2)) e3
     .simp [execOp,hop,resolve,e1,Deferred.ofValue,invoke]
    .cases hst
   .cases hc
  .cases he
 case defer y =>
  simp only [x9.D9,if_true,F3] at he;split at he
  .rename_i hst
   cases he;simp only [aP,IV] at hc;split at hc
   .rename_i x args _ y' hop heq
    cases heq;simp only [c7] at hc;have hv:=hρ _ _ hc.1;split at hst
    .rename_i f first caps hy
     split at hst
     .rename_i Er
      cases hst;rw [hy] at hv;simp only [VR] at hv;obtain ⟨vf,vc,e1,e2,e3⟩:=hv;have hrun:(execOp a.eval o).run P w= .ok (.defer { target:= .fn (.func f) vc,args:=vf++args.map a.eval }) w:=by
       simp [execOp,hop,resolve,e1,Deferred.ofValue]
      refine dH.defer hrun ⟨undef,_,G,I,N,ku.other (by simp) (by simp),rfl,Or.inr ⟨_,rfl,f,vc,rfl,Er⟩,xJ.jZ gw (dG.same h hk bS E.entry (by simp [VR]))⟩
     .cases hst
    .cases hst
   .cases hc
  .cases he
 case clear sz zero y =>
  simp only [x9.D9,if_true,F3] at he;split at he
  .rename_i hst
   cases he;obtain ⟨w',g1,g2⟩:=Tc h hD hk bS E.entry (by simpa [aP] using hc) hE hst;exact dH.value g1 (fin (ku.other (by simp) (by simp)) (xJ.jZ gw g2))
  .cases he
 case bad=>simp [x9.D9,o6] at he
 all_goals
  simp only [x9.D9,j4,if_false] at he;split at he
  .rename_i hp
   cases he;exact Xl (by simp) (by simpa only [aP] using hc) hp rfl
  .cases he
end
end Go.A2
namespace Go.A2
variable [C9]
def oZ (names:List Tmp):Option Tmp->Option Nat->Bool
 |none,none=>true
 |some d,none=> !names.contains d
 |some d,some s=>names[s]? ==some d
 |none,some _=>false
def pe (X:Cx)(D:Nat->Bool):Option (Nat×Bool)->Option (Nat×Bool)->Bool
 |none,none=>true
 |some (g,b),some (g',b')=>g==g' &&b==b' &&D g&&(match (X.ops[g]?).bind (·.dst) with
  |some d=> !X.names.contains d
  |none=>false)
 |_,_=>false
def sW (X:Cx)(D:Nat->Bool)(o:Oper)(i:o9):Bool :=
 aP X.P (X.ck D) o i.op&&oZ X.names o.dst i.dst&&pe X D o.guard i.guard
structure Stat (X:Cx)(nt:Nat):Prop where
 dup:∀ (i j:Nat) d,(X.ops[i]?).bind (·.dst)=some d->(X.ops[j]?).bind (·.dst)=some d->X.names.contains d=false->i=j
 lt:∀ (i:Nat) d,(X.ops[i]?).bind (·.dst)=some d->d<nt
 nod:∀ (s s' :Nat) t,X.names[s]? =some t->X.names[s']? =some t->s=s'
def xI (X:Cx)(S:Nat->Prop):y5->Prop
 | .loc m=>S m/\∃ t,(X.ops[m]?).bind (·.dst)=some t/\X.names.contains t=false
 | .slot s=>∃ t,X.names[s]? =some t
 | .const _=>True
structure Rg (X:Cx)(l5:List o9)(E:Env)(nt:Nat)(S:Nat->Prop)(st:H6)(a:Act)(w:World)(G:Gh)(I:S7)(N:Nat->Prop):Prop where
 ri:RI X E.lim S st a w G I N
 pv:PV X l5 S st a w I
 cl:∀ (j:Nat) ai y,S j->l5[j]? =some ai->ai.op=x9.load none y->xI X S y
 W5:st.T.length=X.names.length
 jS:st.L.length=l5.length
 bI:∀ id,N id->id<st.H.length
 GF:E.entry<=st.H.length
 size:a.tmps.size=nt
 idle:∀ d,d ∈ a.defers->Iy X.P E.idle d
structure aM (E:Env)(H0:p9)(w0:World)(G0:Gh)(I0:S7)(N0:Nat->Prop)(H:p9)(w:World)(G:Gh)(I:S7)(N:Nat->Prop):Prop where
 ext:Ext G0 w0 G w
 fu:mb E.lim G0 w0 G w
 inj:∀ id,id<E.entry->N0 id->I id=I0 id
 mono:∀ id,id<E.entry->N0 id->N id
 old:∀ id,id<E.entry->N id->N0 id
 hle:∀ (id:Nat) (o' :A1),id<E.lim.base->H[id]? =some o' ->o'.O5<=id+1\/∃ o:A1,H0[id]? =some o/\o'.O5<=o.O5
theorem aM.refl (E:Env)(H:p9)(w:World)(G:Gh)(I:S7)(N:Nat->Prop):aM E H w G I N H w G I N :=
 ⟨Ext.refl _ _,mb.refl _ _ _,fun _ _ _=>rfl,fun _ _ h=>h,fun _ _ h=>h,fun _ o _ h=>Or.inr ⟨o,h,n5 _⟩⟩
theorem aM.trans {E:Env}{H0 H1 H2:p9}{w0 w1 w2:World}{G0 G1 G2:Gh}{I0 I1 I2:S7}{N0 N1 N2:Nat->Prop}
  (h:aM E H0 w0 G0 I0 N0 H1 w1 G1 I1 N1) (k:aM E H1 w1 G1 I1 N1 H2 w2 G2 I2 N2):aM E H0 w0 G0 I0 N0 H2 w2 G2 I2 N2 where
 ext:=h.ext.trans k.ext
 fu:=h.fu.trans k.fu
 inj id hid hN:=(k.inj id hid (h.mono id hid hN)).trans (h.inj id hid hN)
 mono id hid hN:=k.mono id hid (h.mono id hid hN)
 old id hid hN:=h.old id hid (k.old id hid hN)
 hle id o' hb ho:=by
  rcases k.hle id o' hb ho with h1|⟨o1,h1,h2⟩
  .omega
  .rcases h.hle id o1 hb h1 with h3|⟨o,h3,h4⟩
   all_goals grind
section
variable {X:Cx} {l5:List o9} {E:Env} {nt:Nat} {S:Nat->Prop} {st st1 st2:H6} {a:Act} {w w' :World} {G G' :Gh} {I I' :S7} {N N' :Nat->Prop} {D:Nat->Bool}
def Rg.bG3 (h:Rg X l5 E nt S st a w G I N){y:y5}(hy:xI X S y){id off:Nat}(hp:bJ st y=some (id,off)):N id:=by
 unfold bJ at hp;split at hp
 .rename_i m
  split at hp
  .obtain ⟨h1,t,h2,h3⟩:=hy
   have:=h.ri.L m h1 t h2 h3;simp_all [bA,VR]
  .cases hp
 .rename_i s
  split at hp
  .cases hp
  .split at hp
   .obtain ⟨t,ht⟩:=hy
    have:=h.ri.T s t ht;simp_all [bA,VR]
   .cases hp
 .cases hp
theorem T5 {z7:Option Nat}{k:Nat}{dst:Option Nat}(h:y4 z7 st1 k dst=some st2) :
  (dst=none/\st2=st1)\/∃ s p7,dst=some s/\s<st1.T.length/\st2={ (D8 st1 (.loc k)).2 with T:=st1.T.set s (D8 st1 (.loc k)).1,p7 }/\(p7= .slot s::st1.p7\/(p7=st1.p7/\st1.p7.any (Touch.U9 s)=true)):=by
 unfold y4 at h;split at h
 .simp_all [G5]<;>grind
 .cases dst with
  |none=>cases h;simp_all
  |some s =>
   grind [X6,D8]
theorem Cq {z7:Option Nat}{k:Nat}{dst:Option Nat}(h:y4 z7 st1 k dst=some st2)(p:Touch->Bool)(hp:st1.p7.any p=true):st2.p7.any p=true:=by
 rcases T5 h with ⟨_,rfl⟩|⟨s,p7,_,_,rfl,rfl|⟨rfl,_⟩⟩
 all_goals simp_all
theorem Co {z7:Option Nat}{k s:Nat}{dst:Option Nat}(h:y4 z7 st1 k dst=some st2)(hd:dst=some s):st2.p7.any (Touch.U9 s)=true:=by
 grind [T5,Touch.U9]
def qq {z7:Option Nat}{k:Nat}{dst:Option Nat}(h:y4 z7 st1 k dst=some st2):st2.H=st1.H:=by
 grind [T5,xG]
def Lk {z7:Option Nat}{k:Nat}{dst:Option Nat}(h:y4 z7 st1 k dst=some st2):st2.L.length=st1.L.length:=by
 grind [T5,CD]
def Ll {z7:Option Nat}{k:Nat}{dst:Option Nat}(h:y4 z7 st1 k dst=some st2):st2.T.length=st1.T.length:=by
 grind [T5]
theorem ov (st:H6)(k m:Nat)(h:m≠k):(D8 st (.loc k)).2.L[m]? =st.L[m]? :=by
 simp only [D8];split
 .simp only
  rw [B5 (fun e=>h e.symm)]
 .rfl
 .rfl
theorem Lj {z7:Option Nat}{k:Nat}{dst:Option Nat}(h:y4 z7 st1 k dst=some st2){m:Nat}(hm:m≠k):st2.L[m]? =st1.L[m]? :=by
 grind [T5,ov]
def OB {z7:Option Nat}{k:Nat}{dst:Option Nat}(h:y4 z7 st1 k dst=some st2){y:y5}(hy:∀ m,y= .loc m->m≠k){id off:Nat}(hp:bJ st2 y=some (id,off)):bJ st1 y=some (id,off):=by
 cases y with
 |const v=>exact hp
 |loc m =>
  grind [bJ,Lj]
 |slot s' =>
  simp only [bJ] at hp ⊢;split at hp
  .cases hp
  .have hn' :st2.p7.any (Touch.U9 s')=false:=by simp_all
   rw [if_neg (by grind [jT,Cq])]
   grind [Co,T5,B5]
def Tr.ptr {k:Nat}(h:Tr N k st st1){y:y5}(hy:∀ m,y= .loc m->m≠k){id off:Nat}(hp:bJ st1 y=some (id,off)):bJ st y=some (id,off):=by
 cases y with
 |const v=>exact hp
 |loc m =>
  simp [bJ] at hp ⊢;split at hp
  .rename_i hl
   cases hp;rw [h.L m _ _ (hy m rfl) hl]
  .cases hp
 |slot s =>
  simp only [bJ] at hp ⊢;split at hp
  .cases hp
  .rw [if_neg (by rw [jT h.p7 (by simp_all)];simp)]
   split at hp
   .rename_i hl
    cases hp;rw [h.T s _ _ hl]
   .cases hp
def bQ {d:Tmp}{x:Value}(h:d<a.tmps.size):(a.put (some d) x).tmps.getD d undef=x:=by
 simp [Act.put,h]
def Y5 {dst:Option Tmp}{t:Tmp}{x:Value}(h:dst≠some t):(a.put dst x).tmps.getD t undef=a.tmps.getD t undef:=by
 simp_all [Act.put]<;>grind
def size_put {dst:Option Tmp}{x:Value}:(a.put dst x).tmps.size=a.tmps.size:=by
 cases dst<;>simp [Act.put]
def nI {dst:Option Tmp}{x:Value}:(a.put dst x).defers=a.defers:=by
 cases dst<;>simp [Act.put]
theorem RI.defers {l:H7}{ds:List Deferred}(h:RI X l S st a w G I N):RI X l S st { a with defers:=ds } w G I N :=
 ⟨h.T,h.L,h.H,h.wf,h.W4⟩
def RI.after {l:H7}(hst:Stat X nt)(hsz:a.tmps.size=nt)(hT:st1.T.length=X.names.length){k:Nat}(hk:¬ S k)(bS:k<st1.L.length){o:Oper}(ho:X.ops[k]? =some o){dst:Option Nat}(hd:oZ X.names o.dst dst=true)
  (h:RI X l S st1 a w G I N) {x:Value} (hv:VR G I N w (.loc k) (st1.L.getD k .any) x) {z7:Option Nat} (hts:y4 z7 st1 k dst=some st2) :
  ∃ G',Ext G w G' w/\(∀ id off,bZ (.cell id off) G w G' w)/\(∀ b id,G b= .obj id->G' b= .obj id)/\RI X l (fun j=>S j\/j=k) st2 (a.put o.dst x) w G' I N:=by
 have yc:(X.ops[k]?).bind (·.dst)=o.dst:=by rw [ho];rfl
 rcases T5 hts with ⟨rfl,rfl⟩|⟨s,gp,rfl,hs,rfl,_⟩
 .have JD:∀ d,o.dst=some d->X.names.contains d=false:=by
   intro d hd';rw [hd'] at hd;simpa [oZ] using hd
  refine ⟨G,Ext.refl _ _,fun _ _ _ _ h=>⟨h,rfl⟩,fun _ _ h=>h,?_,?_,h.H,h.wf,h.W4⟩
  .intro s t ht
   rw [Y5 ?_]
   .exact h.T s t ht
   .intro e
    have h1:=JD t e;have h2:t ∈ X.names:=List.mem_of_getElem? ht;simp [h2] at h1
  .intro j hj d Dk hjn
   rcases hj with hj|rfl
   .rw [Y5 ?_]
    .exact h.L j hj d Dk hjn
    .intro e
     have:=hst.dup j k d Dk (by rw [yc];exact e) hjn;subst this;exact hk hj
   .rw [yc] at Dk
    rw [Dk,bQ (by rw [hsz];exact hst.lt j d (by rw [yc];exact Dk))];exact hv
 .·cases hod:o.dst with
   |none=>rw [hod] at hd;simp [oZ] at hd
   |some d =>
    rw [hod] at hd;have gw:X.names[s]? =some d:=by simpa [oZ] using hd
    have hdn:X.names.contains d=true:=by
     have:d ∈ X.names:=List.mem_of_getElem? gw;simp [this]
    have bw2:d<a.tmps.size:=by rw [hsz];exact hst.lt k d (by rw [yc];exact hod)
    have main:∀ (v:c8) (st3:H6) (G' :Gh),kB (.loc k) G w G' ->VR G' I N w (.slot s) v x->st3.H=st1.H->(∀ m,m≠k->st3.L[m]? =st1.L[m]?)->st3.T=st1.T.set s v ->
      RI X l (fun j=>S j\/j=k) st3 (a.put (some d) x) w G' I N:=by
     intro v st3 G' hm hv' hH hL hT3;refine ⟨?_,?_,?_,hm.wf h.wf,?_⟩
     .intro s' t ht
      rw [hT3]
      by_cases he:s' =s
      .subst he
       rw [gw] at ht;cases ht;rw [P6 _ _ _ _ hs,bQ bw2];exact hv'
      .rw [R2 _ _ _ _ _ (fun e=>he e.symm),Y5 (fun e=>he (hst.nod s' s t ht (by rw [gw,<- Option.some_inj.1 e])))]
       exact VR.mono hm.ext (fun _ _=>rfl) (fun _ h=>h) _ _ _ (Or.inr (hm.keeps _ (by simp))) (h.T s' t ht)
     .intro j hj d' Dk hjn
      have hjk:S j:=by
       rcases hj with hj|rfl
       .exact hj
       .rw [yc,hod] at Dk;cases Dk;rw [hdn] at hjn;cases hjn
      have hne:j≠k:=by rintro rfl;exact hk hjk
      have e1:st3.L.getD j .any=st1.L.getD j .any:=by simp only [List.getD,hL j hne]
      rw [e1,Y5 (fun e=>by cases e;rw [hdn] at hjn;cases hjn)];exact VR.mono hm.ext (fun _ _=>rfl) (fun _ h=>h) _ _ _ (Or.inr (hm.keeps _ (by simp;exact hne))) (h.L j hjk d' Dk hjn)
     .rw [hH];exact h.H.Ka hm (by simp)
     .rw [hH];exact h.W4
    by_cases hown:∃ z n c,st1.L[k]? =some (.own z n c)
    .obtain ⟨z,n,c,ao2⟩:=hown
     rw [bA ao2] at hv;obtain ⟨G',hm,hv'⟩:=jV (yu := .slot s) (by simp) hv;refine ⟨G',hm.ext,fun id off=>hm.keeps _ (by simp),hm.obj,?_⟩;have e1:(A2.D8 st1 (.loc k)).1= .own z n c:=by simp only [A2.D8,ao2]
     exact main (.own z n c) _ G' hm hv' (xG _ _) (fun m hm=>ov st1 k m hm) (by simp only [e1])
    .by_cases hnil:st1.L[k]? =some .O2
     .have e1:A2.D8 st1 (.loc k)=(.O2,st1):=by simp only [A2.D8,hnil]
      refine ⟨G,Ext.refl _ _,fun _ _ _ _ h=>⟨h,rfl⟩,fun _ _ h=>h,?_⟩;refine main .O2 _ G (kB.refl _ _ _) ?_ (xG _ _) (fun m hm=>ov st1 k m hm) (by simp only [e1]);rw [bA hnil] at hv;simpa only [VR] using hv
     .have e1:A2.D8 st1 (.loc k)=(J2 st1.T st1.L (.loc k),st1):=by
       simp only [A2.D8];split
       .rename_i z n c hj;exact absurd ⟨z,n,c,hj⟩ hown
       .rename_i hj;exact absurd hj hnil
       .rfl
      refine ⟨G,Ext.refl _ _,fun _ _ _ _ h=>⟨h,rfl⟩,fun _ _ h=>h,?_⟩;refine main (J2 st1.T st1.L (.loc k)) _ G (kB.refl _ _ _) ?_ (xG _ _) (fun m hm=>ov st1 k m hm) (by simp only [e1]);simp only [J2];exact hv.J3
def PV.after (hst:Stat X nt)(hR:Rg X l5 E nt S st a w G I N){k:Nat}(hk:¬ S k){o:Oper}(ho:X.ops[k]? =some o){i:o9}(hi:l5[k]? =some i)(hd:oZ X.names o.dst i.dst=true)
  (hcl:∀ y,i.op= .load none y->xI X S y) (htr:Tr N k st st1) {z7:Option Nat} (hts:y4 z7 st1 k i.dst=some st2) {x:Value} {ds:List Deferred}
  (hko:∀ id,N id->st1.p7.any (Touch.L4 id)=false->I' id=I id/\∀ b,G b= .obj id->w'.heap[b]? =w.heap[b]?)
  (hf:st2.L[k]? =some (.tuple [])\/ku X st a w I i.op x):PV X l5 (fun j=>S j\/j=k) st2 ({ a with defers:=ds }.put o.dst x) w' I' :=by
 have yc:(X.ops[k]?).bind (·.dst)=o.dst:=by rw [ho];rfl
 have ZP:∀ j,j≠k->st2.L[j]? ≠some (.tuple [])->st.L[j]? ≠some (.tuple []):=by
  intro j hj h1 h2;rw [Lj hts hj] at h1;exact h1 (htr.ZP j hj h2)
 have aD1:∀ p,st2.p7.any p=false->st.p7.any p=false/\st1.p7.any p=false:=by
  intro p hp;have h1:=jT (Cq hts) hp;exact ⟨jT htr.p7 h1,h1⟩
 have XP:∀ (s:Nat) t,X.names[s]? =some t->st2.p7.any (Touch.U9 s)=false->o.dst≠some t:=by
  intro s t ht hh e;rw [e] at hd;cases hdi:i.dst with
  |none =>
   grind [List.mem_of_getElem?,oZ]
  |some s' =>
   rw [hdi] at hd hts;have h1:X.names[s']? =some t:=by simp_all [oZ]
   have:=hst.nod s s' t ht h1
   grind [Co]
 have Pe:∀ (j:Nat) d,S j->(X.ops[j]?).bind (·.dst)=some d->X.names.contains d=false->o.dst≠some d:=by
  intro j d hj Dk hjn e;have:=hst.dup j k d Dk (by grind) hjn
  grind
 have IS:∀ y id off l0,xI X S y->bJ st2 y=some (id,off)->st2.H[id]? =some (.cells l0)->off<l0.length->st2.p7.any (Touch.cF id off)=false ->
   bJ st y=some (id,off)/\st.p7.any (Touch.cF id off)=false/\(∃ l,st.H[id]? =some (.cells l)/\off<l.length)/\w'.cell? (ad (I' id).1 ((I' id).2+off))=w.cell? (ad (I id).1 ((I id).2+off)):=by
  intro y id off l0 hy hp hH hoff hh;have hym:∀ m,y= .loc m->m≠k:=by
   rintro m rfl rfl;exact hk hy.1
  have hp1:=OB hts hym hp;have hp0:=htr.ptr hym hp1;have hN:=hR.bG3 hy hp0;have hob:st1.p7.any (Touch.L4 id)=false:=by
   cases he:st1.p7.any (Touch.L4 id) with
   |false=>rfl
   |true =>
    rw [List.any_eq_true] at he;obtain ⟨t,ht,hth⟩:=he;have:st1.p7.any (Touch.cF id off)=true:=by
     rw [List.any_eq_true];refine ⟨t,ht,?_⟩;cases t<;>simp only [Touch.L4,Touch.cF] at hth ⊢<;>first|exact hth|cases hth
    grind
  rw [qq hts] at hH;obtain ⟨l,hl,hle⟩:=htr.H id l0 hN hob hH;have hO:=hR.ri.H id _ hl
  grind [OR,World.cell?]
 refine ⟨?_,?_⟩
 .intro j ai s t d hj hsk hai hop ht Dk hjn hh
  rw [Y5 (XP s t ht hh)]
  rcases hj with hj|rfl
  .rw [Y5 (Pe j d hj Dk hjn)]
   exact hR.pv.slot j ai s t d hj (ZP j (by grind) hsk) hai hop ht Dk hjn (aD1 _ hh).1
  .rw [hi] at hai;cases hai
   rw [yc] at Dk;rw [Dk,bQ (by simp only;rw [hR.size];exact hst.lt j d (by grind))]
   rcases hf with hf|hf
   .grind
   .exact hf.Q5 s t hop ht
 .intro j ai y id off d l0 hj hsk hai hop hp hH hoff hh Dk hjn
  rcases hj with hj|rfl
  .have hy:=hR.cl j ai y hj hai hop
   obtain ⟨h1,h2,⟨l,h3,h4⟩,h5⟩:=IS y id off l0 hy hp hH hoff hh;rw [Y5 (Pe j d hj Dk hjn),h5];exact hR.pv.cell j ai y id off d l hj (ZP j (by grind) hsk) hai hop h1 h3 h4 h2 Dk hjn
  .rw [hi] at hai;cases hai
   have hy:=hcl y hop;obtain ⟨h1,h2,⟨l,h3,h4⟩,h5⟩:=IS y id off l0 hy hp hH hoff hh;rw [yc] at Dk;rw [Dk,bQ (by simp only;rw [hR.size];exact hst.lt j d (by grind)),h5]
   rcases hf with hf|hf
   .grind
   .exact hf.load y id off hop h1
end
end Go.A2
namespace Go.A2
variable [C9]
section
variable {X:Cx} {l5:List o9} {E:Env} {nt:Nat} {S:Nat->Prop} {st st1 st2:H6} {a:Act} {w w' :World} {G G' :Gh} {I I' :S7} {N N' :Nat->Prop} {D:Nat->Bool}
theorem ve (hR:Rg X l5 E nt S st a w G I N)(hD:∀ j,D j=true->S j){o:Oper}{g:Option (Nat×Bool)}(hc:pe X D o.guard g=true){b:Bool}(hw:z8 st.L g=some b):Region.wanted o (yielded X.ops a.tmps)=b:=by
 unfold Region.wanted;cases hg:o.guard with
 |none =>
  grind [z8,pe]
 |some p =>
  obtain ⟨g0,want⟩:=p;rw [hg] at hc;cases g with
  |none=>simp [pe] at hc
  |some q =>
   obtain ⟨g1,bT4⟩:=q;simp only [pe,c7,beq_iff_eq] at hc;obtain ⟨⟨⟨rfl,rfl⟩,hDg⟩,Bi⟩:=hc;cases hd:(X.ops[g0]?).bind (·.dst) with
   |none=>simp_all
   |some d =>
    rw [hd] at Bi;simp only [o7] at Bi;have hv:=hR.ri.L g0 (hD g0 hDg) d hd Bi;have hy:yielded X.ops a.tmps g0=(match a.tmps[d]? with|some (.bool b)=>some b|_=>none):=by
     grind [yielded]
    simp [z8] at hw;split at hw
    .cases hw
     simp_all [VR,DR,bool,undef]<;>grind
    all_goals (simp_all [VR,bool]<;>grind)
structure aN2 (X:Cx)(l5:List o9)(E:Env)(nt:Nat)(S:Nat->Prop)(st:H6)(w:World)(G:Gh)(I:S7)(N:Nat->Prop)(k:Nat)(z7:Option Nat)(st2:H6)(a' :Act)(w' :World)(G' :Gh)(I' :S7)(N' :Nat->Prop):Prop where
 rg:Rg X l5 E nt (fun j=>S j\/j=k) st2 a' w' G' I' N'
 since:aM E st.H w G I N st2.H w' G' I' N'
 len:st.H.length<=st2.H.length
 old:∀ id,id<st.H.length->N' id->N id\/z7=some id
theorem Ko (hD:∀ j,D j=true->S j){x:Operand}{y:y5}(hc:X.ck D x y=true):xI X S y:=by
 unfold Cx.ck at hc;split at hc
 .exact ⟨_,by simpa using hc⟩
 .simp only [c7,beq_iff_eq,o7] at hc
  exact ⟨hD _ hc.1.1,_,hc.1.2,hc.2⟩
 .trivial
 .trivial
 .trivial
 .cases hc
theorem JU (hD:∀ j,D j=true->S j){o:Oper}{n:Option Nat}{y:y5}(hc:aP X.P (X.ck D) o (.load n y)=true):xI X S y:=by
 simp [aP] at hc;obtain ⟨dst,fq,ty,pos,after,guard⟩:=o;cases fq<;>simp [E3] at hc
 grind [Ko]
theorem Rg.after (hst:Stat X nt)(hR:Rg X l5 E nt S st a w G I N)(hD:∀ j,D j=true->S j){k:Nat}(hk:¬ S k)(bS:k<st.L.length){o:Oper}(ho:X.ops[k]? =some o){i:o9}(hi:l5[k]? =some i)(hc:sW X D o i=true)
  {z7:Option Nat} (hne:∀ i,z7=some i->E.entry<=i) (htr:Tr N k st st1) (hts:y4 z7 st1 k i.dst=some st2) {x:Value} {ds:List Deferred} (hds:ds=a.defers\/∃ d,ds=d::a.defers/\Iy X.P E.idle d)
  (hf:st2.L[k]? =some (.tuple [])\/ku X st a w I i.op x) (hS:xJ z7 X E.lim S E.entry st a w G I N st1 k x w' G' I' N') :
  ∃ G'',aN2 X l5 E nt S st w G I N k z7 st2 ({ a with defers:=ds }.put o.dst x) w' G'' I' N' :=by
 simp [sW,c7] at hc;obtain ⟨⟨hc1,oC⟩,hc3⟩:=hc;have hm:=hS.mid;obtain ⟨G2,e1,e2,e3,e4⟩:=RI.after (l:=E.lim) (a:={ a with defers:=ds }) hst hR.size (by rw [htr.W5];exact hR.W5) hk (by rw [htr.jS];exact bS) ho oC hm.ri.defers hm.val hts;have hpv:=PV.after (w' :=w') (I' :=I') (x:=x) (ds:=ds) hst hR hk ho hi oC (fun y hy=>JU hD (by simp_all<;>omega)) htr hts (fun id hN ht=>by
  obtain ⟨h1,h2⟩:=hm.ko id hN ht;simp_all) hf
 refine ⟨G2,⟨e4,hpv,?_,?_,?_,?_,?_,?_,?_⟩,⟨?_,?_,?_,?_,?_,?_⟩,?_,hS.old⟩
 .intro j ai y hj hai hop
  have lift:xI X S y->xI X (fun j=>S j\/j=k) y:=by
   intro h;cases y with
   |loc m=>exact ⟨Or.inl h.1,h.2⟩
   |slot s=>exact h
   |const v=>trivial
  rcases hj with hj|rfl
  .exact lift (hR.cl j ai y hj hai hop)
  grind [JU]
 .rw [Ll hts,htr.W5];exact hR.W5
 .rw [Lk hts,htr.jS];exact hR.jS
 .intro id hid;rw [qq hts];exact hS.bI id hid
 .rw [qq hts];exact F9 hR.GF hm.len
 .rw [size_put];exact hR.size
 .rw [nI]
  intro d hd
  rcases hds with rfl|⟨d',rfl,hid⟩
  .exact hR.idle d hd
  .simp [B8] at hd
   rcases hd with rfl|hd
   .exact hid
   .exact hR.idle d hd
 .exact hm.ext.trans e1
 .exact hm.fu.trans fun id _=>⟨fun b hb=>⟨e3 b id hb,rfl⟩,e2 id⟩
 .intro id hid hN;exact hm.inj id hid hN
 .intro id _ hN;exact hm.mono id hN
 .intro id hid hN
  rcases hS.old id (Nat.lt_of_lt_of_le hid hR.GF) hN with h1|h1
  all_goals grind
 .intro id o' hb ho';rw [qq hts] at ho';exact hm.hle id o' hb ho'
 .rw [qq hts];exact hm.len
def yF (hst:Stat X nt)(Pt:oQ X.P E.cf E.prom)(gv:∀ f args H lm r,E.cf f args H lm=some r->T6 X.P f=true)(hs:E.lim.strict<=E.lim.base)(hbe:E.lim.base<=E.entry)(hR:Rg X l5 E nt S st a w G I N)
  (hD:∀ j,D j=true->S j) {k:Nat} (hk:¬ S k) {o:Oper} (ho:X.ops[k]? =some o) {i:o9} (hi:l5[k]? =some i) (hc:sW X D o i=true) {z7:Option Nat} (hid:i.op.B6=true->Iw E.lim st N z7) (hne:∀ i,z7=some i->E.entry<=i/\i<st.H.length)
  {rs:List Nat} (he:z6 E l5 z7 k i st=some (st2,rs)) (K:Act->World->Prop) (Q:Exit->Act->World->Prop)
  (hK:∀ a' w' G' I' N',aN2 X l5 E nt S st w G I N k z7 st2 a' w' G' I' N' ->K a' w'):wpOp X.P X.ops Q k K a w:=by
 have bS:k<st.L.length:=by rw [hR.jS];grind
 have ux :=hc;simp [sW,c7] at ux;obtain ⟨⟨hc1,oC⟩,hc3⟩:=ux;unfold wpOp;simp [ho];unfold z6 at he;split at he
 .rename_i hw
  rw [if_pos (ve hR hD hc3 hw)];split at he
  .rename_i st1 rs1 hW
   split at he
   .rename_i bI8 hts
    refine Or.inl ?_;have hrun:=KZ (P:=X.P) Pt gv rfl hR.ri hR.pv hR.W5 hR.bI (F9 hbe hR.GF) hs hD hk bS hc1 (z7:=z7) hid hW;refine hrun K Q ?_;rintro a' w' ⟨x,ds,G',I',N',hF,rfl,hds,hS⟩;have htr:Tr N k st st1:=Tr.E2 hR.bI (fun i h=>(hne i h).2) (fun ha=>(hid ha).new) hW;obtain ⟨G'',hdone⟩:=Rg.after hst hR hD hk bS ho hi hc (fun i h=>(hne i h).1) htr hts hds (Or.inr hF) hS
    grind
   .cases he
  .cases he
 .rw [if_neg (by grind [ve])]
  split at he
  .rename_i bI8 hts
   cases he;have htr:Tr N k st (put st k (.tuple [])):=Tr.put _;have hS:xJ z7 X E.lim S E.entry st a w G I N (put st k (.tuple [])) k undef w G I N :=
    xJ.jZ hR.bI (dG.same hR.ri hk bS E.entry (by exact ⟨#[],rfl,by simp [J4]⟩))
   have hL:st2.L[k]? =some (.tuple []):=by
    grind [T5,put,D8]
   obtain ⟨G'',hdone⟩:=Rg.after hst hR hD hk bS ho hi hc (fun i h=>(hne i h).1) htr hts (Or.inl rfl) (Or.inl hL) hS;exact hK _ _ _ _ _ hdone
  .cases he
 .cases he
def nF (X:Cx):List o9->Nat->Bool
 |[],k=>X.ops.size==k
 |i::is,k=>(match X.ops[k]? with
  |some o=>sW X (fun j=>decide (j<k)) o i
  |none=>false)&&nF X is (k+1)
structure Fin (X:Cx)(l5:List o9)(E:Env)(nt:Nat)(st0:H6)(w:World)(G:Gh)(I:S7)(N:Nat->Prop)(st2:H6)(a' :Act)(w' :World)(G' :Gh)(I' :S7)(N' :Nat->Prop):Prop where
 rg:Rg X l5 E nt (fun j=>j<l5.length) st2 a' w' G' I' N'
 since:aM E st0.H w G I N st2.H w' G' I' N'
def Rg.congr {S' :Nat->Prop}(h:Rg X l5 E nt S st a w G I N)(hS:∀ j,S j↔S' j):Rg X l5 E nt S' st a w G I N:=by
 have:S=S' :=funext fun j=>propext (hS j)
 simp_all
def Hz (hst:Stat X nt)(Pt:oQ X.P E.cf E.prom)(gv:∀ f args H lm r,E.cf f args H lm=some r->T6 X.P f=true)(hs:E.lim.strict<=E.lim.base)(hbe:E.lim.base<=E.entry)(Q:Exit->Act->World->Prop) :
  ∀ (is:List o9) (k:Nat),l5.drop k=is->k<=l5.length->nF X is k=true->∀ (st:H6) (a:Act) (w:World) (G:Gh) (I:S7) (N:Nat->Prop) (st2:H6),Rg X l5 E nt (fun j=>j<k) st a w G I N->fQ E l5 is k st=some st2 ->
   (∀ a' w' G' I' N',Fin X l5 E nt st w G I N st2 a' w' G' I' N' ->Q .normal a' w')->wpOps X.P X.ops Q (List.range' k is.length) a w:=by
 intro is
 induction is with
 |nil =>
  intro k hd hk _ st a w G I N st2 hR hrun hQ;cases hrun;have bS:l5.length=k:=by
   simp_all [List.length]<;>omega
  exact hQ _ _ _ _ _ ⟨by simp_all,aM.refl _ _ _ _ _ _⟩
 |cons i is ih =>
  intro k hd hk hc st a w G I N st2 hR hrun hQ;have hi:l5[k]? =some i:=by
   have:(l5.drop k)[0]? =some i:=by rw [hd];rfl
   grind
  have hd' :l5.drop (k+1)=is:=by
   have:=congrArg (List.drop 1) hd
   grind [List.drop_drop]
  simp [nF,c7] at hc;obtain ⟨hc1,oC⟩:=hc;simp [fQ] at hrun;split at hrun
  .rename_i st1 rs hstep
   cases ho:X.ops[k]? with
   |none=>simp_all
   |some o =>
    rw [ho] at hc1;simp [p8];refine yF hst Pt gv hs hbe hR (D:=fun j=>decide (j<k)) (fun j hj=>by simp_all) (Nat.lt_irrefl k) ho hi hc1 (z7:=none) (fun _=> ?_) (fun i h=>by cases h) hstep _ _ ?_
    .exact ⟨(fun hN=>by have:=hR.bI _ hN;grind [newId]),(fun i h=>by cases h),by exact F9 hbe hR.GF,by exact F9 hs (F9 hbe hR.GF)⟩
    .intro a' w' G' I' N' hdone
     refine ih (k+1) hd' (u7 hi) oC st1 a' w' G' I' N' st2 (hdone.rg.congr fun j=>by omega) hrun ?_;intro a'' w'' G'' I'' N'' tq;exact hQ _ _ _ _ _ ⟨tq.rg,hdone.since.trans tq.since⟩
  .cases hrun
end
end Go.A2
namespace Go.A2
variable [C9]
def y5.fo:y5->List Nat
 | .loc j=>[j]
 |_=>[]
def y5.slots:y5->List Nat
 | .slot s=>[s]
 |_=>[]
def x9.T1:x9->List y5
 | .Q5 x=>[x]
 | .pick c a b=>[c,a,b]
 | .alloc _=>[]
 | .box x=>[x]
 | .build _ parts=>parts.map (·.2.2)
 | .F5 _ _ _ parts _=>parts.map (·.2.2)
 | .load _ x=>[x]
 | .store _ a x=>[a,x]
 | .aV x=>[x]
 | .bin _ x y=>[x,y]
 | .un _ x=>[x]
 | .BB _ x=>[x]
 | .s9 _ x y=>[x,y]
 | .Ip _ _ x y=>[x,y]
 | .oA _ x=>[x]
 | .lu x=>[x]
 | .aW _ x lo hi=>x::(lo.toList++hi.toList)
 | .off _ x=>[x]
 | .N8 _ x i=>[x,i]
 | .gG _ _ x i=>[x,i]
 | .I9 x i=>[x,i]
 | .extract x _=>[x]
 | .len x=>[x]
 | .W5 x=>[x]
 | .append _ _ _ x y=>[x,y]
 | .iU _ xs=>xs
 | .clear _ _ x=>[x]
 | .aT _ first caps=>first++caps
 | .call _ xs=>xs
 | .aO x xs=>x::xs
 | .makeMap=>[]
 | .rJ _=>[]
 | .own _ x=>[x]
 | .lookup _ _ _ m k=>[m,k]
 | .eu _ m k v=>[m,k,v]
 | .defer x=>[x]
 | .bad=>[]
def fU (l5:List o9)(i:o9):List Nat :=
 (i.op.T1.flatMap y5.fo)++(match i.guard with|some (g,_)=>[g]|none=>[]) ++
 (match i.op with
  | .append _ _ _ (.loc j) _=>(match l5[j]? with|some a=>a.op.T1.flatMap y5.fo|none=>[])
  | .own _ (.loc j)=>(match l5[j]? with|some a=>a.op.T1.flatMap y5.fo|none=>[])
  |_=>[])
def gA (i:o9):List Nat:=i.op.T1.flatMap y5.slots
theorem aB {α β:Type}{f g:α->β}{l:List α}(h:∀ x,x ∈ l->f x=g x):l.map f=l.map g:=List.map_congr_left h
def kJ {ρ ρ' :y5->c8}{ps:List (Nat×Nat×y5)}(h:∀ x,x ∈ ps.map (·.2.2)->ρ' x=ρ x):(ps.map fun (o,s,x)=>(o,s,ρ' x))=ps.map fun (o,s,x)=>(o,s,ρ x):=by
 grind [List.map_congr_left]
def xN {ρ ρ' :y5->c8}{d:Nat}{o:Option y5}(h:∀ x,x ∈ o.toList->ρ' x=ρ x):X4 ρ' d o=X4 ρ d o:=by
 simp_all [X4]<;>grind
def oa {ρ ρ' :y5->c8}{H:p9}{op:x9}(h:∀ x,x ∈ op.T1->ρ' x=ρ x):o6 ρ' H op=o6 ρ H op:=by
 cases op<;>simp only [x9.T1] at h
 case build=>simp [o6,kJ h]
 case F5 sz len zero parts ob=>cases ob<;>simp [o6,kJ h]
 case iU isMax xs=>grind [o6,aB]
 case aT f first caps =>
  simp_all [o6,aB]
 case aW sz x lo hi =>
  have h2:∀ d,X4 ρ' d lo=X4 ρ d lo:=fun d=>xN fun y hy=>h y (by simp_all)
  have h3:∀ d,X4 ρ' d hi=X4 ρ d hi:=fun d=>xN fun y hy=>h y (by simp_all)
  simp_all [o6]
 case load n x=>cases n<;>simp [o6,h x (by simp)]
 case pick c a b=>simp_all [o6]
 case bin b x y=>simp_all [o6]
 case s9 b x y=>simp_all [o6]
 case Ip b ks x y=>simp_all [o6]
 case N8 s x y=>simp_all [o6]
 case gG n s x y=>simp_all [o6]
 case I9 x y=>simp_all [o6]
 case lookup kk z ok x y=>simp_all [o6]
 case aV x=>simp_all [o6]
 case un b x=>simp_all [o6]
 case BB b x=>simp_all [o6]
 case oA k x=>simp_all [o6]
 case lu x=>simp_all [o6]
 case off k x=>simp_all [o6]
 case extract x i=>simp_all [o6]
 case len x=>simp_all [o6]
 case W5 x=>simp_all [o6]
 all_goals rfl
def U2:Option A1->Option A1->Prop
 |some (.cells l),some (.cells l')=>l.map c8.J3=l'.map c8.J3
 |a,b=>a=b
theorem U2.refl (o:Option A1):U2 o o:=by
 simp_all [U2]<;>grind
def U2.symm {a b:Option A1}(h:U2 a b):U2 b a:=by
 simp_all [U2,absurd]<;>grind
theorem U2.trans {a b c:Option A1}(h:U2 a b)(k:U2 b c):U2 a c:=by
 simp_all [U2]<;>grind
theorem OS (v:c8):v.J3.J3=v.J3:=by cases v<;>rfl
def ar8 {H H' :p9}{id off n:Nat}(h:U2 H'[id]? H[id]?){vs:List c8}(hr:rd H id off n=some vs):∃ vs',rd H' id off n=some vs' /\vs'.map c8.J3=vs.map c8.J3:=by
 unfold rd at hr ⊢;split at hr
 .rename_i l hl
  split at hr
  .cases hr
   rw [hl] at h;cases h' :H'[id]? with
   |none=>simp_all [U2]
   |some o =>
    rw [h'] at h;cases o with
    |cells l' =>
     have h:l'.map c8.J3=l.map c8.J3:=by grind [U2]
     have VO:l'.length=l.length:=by simpa using congrArg List.length h
     simp_all
    |dead=>simp [U2] at h
    |map es=>simp [U2] at h
  .cases hr
 .cases hr
def Kw {ρ:y5->c8}{H H' :p9}{op:x9}{v:c8}{rs:List Nat}(h:o6 ρ H op=some (v,rs))(hr:∀ id,id ∈ rs->U2 H'[id]? H[id]?):o6 ρ H' op=some (v,rs):=by
 cases op
 case load n x =>
  cases n with
  |none =>
   simp only [o6] at h ⊢;split at h
   .rename_i id off hp
    split at h
    .rename_i u hu
     cases h;obtain ⟨vs',h1,h2⟩:=ar8 (hr id (by simp)) hu;obtain ⟨u',rfl⟩:∃ u',vs' =[u']:=by
      have:=congrArg List.length h2;simp at this;exact List.length_eq_one_iff.1 this
     simp at h2;simp only [h1,h2]
    .cases h
   .exact h
   .cases h
  |some n =>
   simp only [o6] at h ⊢;split at h
   .rename_i id off hp
    split at h
    .rename_i us hu
     cases h;obtain ⟨vs',h1,h2⟩:=ar8 (hr id (by simp)) hu;simp only [h1,h2]
    .cases h
   .exact h
   .cases h
 case lookup kk zero ok m k =>
  simp only [o6] at h ⊢;split at h
  .rename_i id key hp hq
   split at h
   .rename_i es ZH
    split at h
    .rename_i hf hft
     cases h;have:=hr id (by simp);rw [ZH] at this;have h' :H'[id]? =some (.map es):=by
      cases h' :H'[id]? with
      |none=>rw [h'] at this;simp [U2] at this
      |some o=>rw [h'] at this;cases o<;>simp_all [U2]
     simp only [h',hf,hft]
    .cases h
   .cases h
  .exact h
  .cases h
 case F5 sz len zero parts ob=>cases ob<;>exact h
 all_goals exact h
structure Still (k:Nat)(dst z7:Option Nat)(d:List Touch)(st st' :H6):Prop where
 L:∀ m,m≠k->(st'.L.getD m .any).J3=(st.L.getD m .any).J3
 Gb:∀ m,m≠k->∀ b,st'.L[m]? =some (c8.d (.bool b))↔st.L[m]? =some (c8.d (.bool b))
 Gt:∀ m,m≠k->(st'.L[m]? =some (c8.tuple [])↔st.L[m]? =some (c8.tuple []))
 T:∀ s,dst≠some s->(st'.T.getD s .any).J3=(st.T.getD s .any).J3
 p7:st'.p7=d++st.p7
 H:∀ id:Nat,d.any (Touch.L4 id)=false->z7≠some id->U2 st'.H[id]? st.H[id]?
 NM:st.H.length<=st'.H.length
 jS:st'.L.length=st.L.length
 W5:st'.T.length=st.T.length
section
variable {k:Nat} {dst z7:Option Nat} {d d1 d2:List Touch} {st st1 st' :H6}
theorem Still.refl (k:Nat)(dst z7:Option Nat)(st:H6):Still k dst z7 [] st st :=
 ⟨fun _ _=>rfl,fun _ _ _=>Iff.rfl,fun _ _=>Iff.rfl,fun _ _=>rfl,rfl,fun _ _ _=>U2.refl _,n5 _,rfl,rfl⟩
theorem Still.trans (h:Still k dst z7 d1 st st1)(g:Still k dst z7 d2 st1 st'):Still k dst z7 (d2++d1) st st' where
 L m hm:=(g.L m hm).trans (h.L m hm)
 Gb m hm b:=(g.Gb m hm b).trans (h.Gb m hm b)
 Gt m hm:=(g.Gt m hm).trans (h.Gt m hm)
 T s hs:=(g.T s hs).trans (h.T s hs)
 p7:=by rw [g.p7,h.p7,D2]
 H id hd hn:=by
  simp only [List.any_append,G8] at hd;exact (g.H id hd.1 hn).trans (h.H id hd.2 hn)
 NM:=F9 h.NM g.NM
 jS:=g.jS.trans h.jS
 W5:=g.W5.trans h.W5
theorem Still.put (v:c8):Still k dst z7 [] st (put st k v) where
 L m hm:=by grind [A2.put,R2]
 Gb m hm b:=by grind [A2.put,B5]
 Gt m hm:=by grind [A2.put,B5]
 T _ _:=rfl
 p7:=rfl
 H _ _ _:=U2.refl _
 NM:=n5 _
 jS:=by simp [A2.put]
 W5:=rfl
def Still.E7 {j z n:Nat}{c:List Data}(hj:st.L[j]? =some (.own z n c)):Still k dst z7 [] st { st with L:=st.L.set j (.d (.slice n c)) } where
 L m _:=by
  by_cases e:j=m
  .subst e
   rw [P6 _ _ _ _ (u7 hj),bA hj];rfl
  simp_all
 Gb m _ b:=by
  grind
 Gt m _:=by
  grind
 T _ _:=rfl
 p7:=rfl
 H _ _ _:=U2.refl _
 NM:=n5 _
 jS:=by simp
 W5:=rfl
theorem Still.D8 (y:y5):Still k dst z7 [] st (D8 st y).2:=by
 cases y with
 |loc j =>
  simp only [A2.D8];split
  .rename_i hj
   exact Still.E7 hj
  .exact Still.refl _ _ _ _
  .exact Still.refl _ _ _ _
 |slot s=>exact Still.refl _ _ _ _
 |const v=>exact Still.refl _ _ _ _
def Still.heap {H' :p9}(h2:∀ id:Nat,d.any (Touch.L4 id)=false->z7≠some id->U2 H'[id]? st.H[id]?)(hl:st.H.length<=H'.length):Still k dst z7 d st { st with H:=H',p7:=d++st.p7 } :=
 ⟨fun _ _=>rfl,fun _ _ _=>Iff.rfl,fun _ _=>Iff.rfl,fun _ _=>rfl,rfl,h2,hl,rfl,rfl⟩
def Still.newObj {i:Nat}(o:A1):Still k dst (some i) [] st (M4 st (some i) o) :=
 ⟨fun _ _=>rfl,fun _ _ _=>Iff.rfl,fun _ _=>Iff.rfl,fun _ _=>rfl,rfl,fun id _ hn=>by
  simp_all [M4,B5,U2.refl],(by simp [M4]),rfl,rfl⟩
theorem Still.X5 {l:H7}{sz len:Nat}{cells:List Data}{op:x9}(h:X5 l st sz op=some (len,cells,st')):∃ d,Still k dst z7 d st st' :=by
 unfold A2.X5 at h;split at h
 .rename_i s
  split at h
  .cases h
  .split at h
   .rename_i hs
    split at h
    .cases h
     refine ⟨[.slot s],fun _ _=>rfl,fun _ _ _=>Iff.rfl,fun _ _=>Iff.rfl,fun s' _=> ?_,rfl,fun _ _ _=>U2.refl _,n5 _,rfl,by simp⟩
     by_cases e:s=s'
     .subst e
      rw [P6 _ _ _ _ (u7 hs),bA hs];rfl
     simp_all
    .cases h
   .cases h
 .split at h
  .rename_i id off ad2
   split at h
   .cases h
   .split at h
    .rename_i cs hcs
     split at h
     .rename_i hco
      split at h
      .cases h
       refine ⟨[.cell id off],Still.heap (fun id' _ _=> ?_) (by simp)⟩
       by_cases he:id=id'
       .subst he
        rw [L0 (u7 hcs),hcs];apply List.ext_getElem?;intro n;simp only [List.getElem?_map]
        by_cases e:off=n
        .subst e
         rw [L0 (u7 hco),hco];rfl
        simp_all
       simp_all [B5,U2.refl]
      .cases h
     .cases h
    .cases h
  .cases h
 .cases h
theorem Still.Q3 {l:H7}{l5:List o9}{sz len:Nat}{cells:List Data}{y:y5}(h:Q3 l l5 st sz y=some (len,cells,st')):∃ d,Still k dst z7 d st st' :=by
 unfold A2.Q3 at h;split at h
 .split at h
  .cases h;exact ⟨[],Still.refl _ _ _ _⟩
  .cases h
 .cases h
 .cases h
 .split at h
  .rename_i hj
   split at h
   .cases h
    exact ⟨[],Still.E7 hj⟩
   .cases h
  .split at h
   .exact Still.X5 h
   .cases h
  .cases h
theorem Still.D0 {E:Env}{f:FuncId}{args:List c8}(h:D0 E k f args st=some st'):∃ d,Still k dst none d st st' :=by
 unfold A2.D0 at h;split at h
 .split at h
  .rename_i v H1 _
   split at h
   .rename_i hlen
    cases h;refine ⟨[]++[.below H1.length],Still.trans (Still.heap (fun id hd _=> ?_) hlen) (Still.put _)⟩
    grind [Touch.L4,List.getElem?_eq_none,U2.refl]
   .cases h
  .cases h
 .simp only at h
  generalize F6 st.H E.lim.strict 8 (C5 args)=n at h;generalize (args.headD .any).O5=m at h;split at h
  .split at h
   .split at h
    .split at h
     .cases h
      refine ⟨[]++[.below n],Still.trans (Still.heap (fun id hd _=> ?_) (by simp;omega)) (Still.put _)⟩;simp_all [Touch.L4,u9,List.getElem?_drop,U2.refl]
     .cases h
    .cases h
   .split at h
    .split at h
     .cases h
      exact ⟨_,Still.put _⟩
     .cases h
    .cases h
   .split at h
    .split at h
     .cases h
      refine ⟨[]++[.below m],Still.trans (Still.heap (fun id hd _=> ?_) (by simp;omega)) (Still.put _)⟩;simp_all [Touch.L4,u9,List.getElem?_drop,List.take,U2.refl]
     .cases h
    .cases h
  .cases h
def YC {H H' :p9}{id off:Nat}{vs:List c8}(h:wr H id off vs=some H'):H'.length=H.length:=by
 grind [wr]
theorem Still.S4 {E:Env}{n:Nat}{a:c8}{x:y5}(h:S4 E k n st a x=some st'):∃ d,Still k dst none d st st' :=by
 unfold A2.S4 at h;split at h
 .rename_i id off
  split at h
  .split at h
   .split at h
    .rename_i H' hw
     cases h;refine ⟨[]++([.obj id]++[]),Still.trans (Still.trans (Still.D8 x) (Still.heap (fun id' hd _=> ?_) (by rw [YC hw];omega))) (Still.put _)⟩
     grind [vh,U2.refl,Touch.L4]
    .cases h
   .cases h
  .cases h
 .cases h
theorem Still.Y4 {E:Env}{sz:Nat}{zero:List c8}{a:c8}(h:Y4 E k sz zero st a=some st'):∃ d,Still k dst none d st st' :=by
 unfold A2.Y4 at h;split at h
 .rename_i id z lo len
  split at h
  .split at h
   .rename_i H' hw
    cases h;refine ⟨[]++[.obj id],Still.trans (Still.heap (fun id' hd _=> ?_) (by rw [YC hw];omega)) (Still.put _)⟩
    grind [vh,U2.refl,Touch.L4]
   .cases h
  .cases h
 .cases h
  exact ⟨_,Still.put _⟩
 .cases h
theorem Still.V4 {E:Env}{kk:KK}{m key v:c8}(h:V4 E k kk st m key v=some st'):∃ d,Still k dst none d st st' :=by
 unfold A2.V4 at h;split at h
 .rename_i id kd _
  split at h
  .split at h
   .split at h
    .split at h
     .cases h
      refine ⟨[]++[.obj id],Still.trans (Still.heap (fun id' hd _=> ?_) (by simp)) (Still.put _)⟩;rw [B5]
      .exact U2.refl _
      .rintro rfl
       simp [Touch.L4] at hd
     .cases h
    .cases h
   .cases h
  .cases h
 .cases h
theorem Still.F3 {E:Env}{l5:List o9}{op:x9}(hk:I5 st op=false)(hn:z7.isSome=op.B6)(h:F3 E l5 z7 k st op=some st'):∃ d,Still k dst z7 d st st' :=by
 cases op<;>simp only [A2.F3] at h<;>try (cases h;done)
 all_goals (simp only [x9.B6] at hn)
 case alloc zero =>
  obtain ⟨i,rfl⟩:=Option.isSome_iff_exists.1 hn;cases h;exact ⟨_,(Still.newObj _).trans (Still.put _)⟩
 case box x =>
  obtain ⟨i,rfl⟩:=Option.isSome_iff_exists.1 hn;split at h
  .cases h;exact ⟨_,(Still.newObj _).trans (Still.put _)⟩
  .cases h
 case rJ x =>
  cases h;exact ⟨_,Still.put _⟩
 case own sz x =>
  split at h
  .rename_i ht
   obtain ⟨d,hd⟩:=Still.Q3 (k:=k) (dst:=dst) (z7:=z7) ht;cases h;exact ⟨_,hd.trans (Still.put _)⟩
  .cases h
 case makeMap =>
  obtain ⟨i,rfl⟩:=Option.isSome_iff_exists.1 hn;cases h;exact ⟨_,(Still.newObj _).trans (Still.put _)⟩
 case F5 sz len zero parts ob =>
  cases ob
  .cases h
  .obtain ⟨i,rfl⟩:=Option.isSome_iff_exists.1 hn
   simp only at h;split at h
   .split at h
    .cases h;exact ⟨_,(Still.newObj _).trans (Still.put _)⟩
    .cases h
   .cases h
 case store n a x =>
  have:z7=none:=by simpa using hn
  subst this;exact Still.S4 h
 case append sz bytes ob x y =>
  split at h
  .rename_i hx
   simp [I5,hx] at hk
  .cases ob with
   |true =>
    obtain ⟨i,rfl⟩:=Option.isSome_iff_exists.1 hn;unfold A2.O4 at h;simp only [if_true] at h;split at h
    .split at h
     .split at h
      .cases h;exact ⟨_,Still.put _⟩
      .cases h;exact ⟨_,(Still.newObj _).trans (Still.put _)⟩
     .cases h
    .cases h
   |false =>
    have:z7=none:=by simpa using hn
    subst this;unfold A2.O4 at h;simp only [j4,if_false] at h;split at h
    .split at h
     .split at h
      .rename_i ht
       split at h
       .cases h
        obtain ⟨d,hd⟩:=Still.Q3 (k:=k) (dst:=dst) (z7:=none) ht;exact ⟨_,hd.trans (Still.put _)⟩
       .cases h
      .cases h
     .cases h
    .cases h
 case clear sz zero x =>
  have:z7=none:=by simpa using hn
  subst this;exact Still.Y4 h
 case call f xs =>
  have:z7=none:=by simpa using hn
  subst this;exact Still.D0 h
 case aO x xs =>
  have:z7=none:=by simpa using hn
  subst this;split at h
  .exact Still.D0 h
  .cases h
 case eu =>
  have:z7=none:=by simpa using hn
  subst this;exact Still.V4 h
 case defer x =>
  split at h
  .split at h
   .cases h;exact ⟨_,Still.put _⟩
   .cases h
  .cases h
theorem Still.G5 {bB0 :Option Nat}(h:y4 bB0 st k dst=some st'):∃ d,Still k dst z7 d st st' :=by
 rcases T5 h with ⟨_,rfl⟩|⟨s,p7,rfl,_,rfl,Ty⟩
 .exact ⟨_,Still.refl _ _ _ _⟩
 .have hx:=Still.D8 (k:=k) (dst:=some s) (z7:=z7) (st:=st) (.loc k)
  have key:∀ d,p7=d++st.p7->Still k (some s) z7 d st { (A2.D8 st (.loc k)).2 with T:=st.T.set s (A2.D8 st (.loc k)).1,p7 }:=by
   intro d hd;refine ⟨hx.L,hx.Gb,hx.Gt,fun s' hs=> ?_,hd,fun id _ hn=>hx.H id rfl hn,hx.NM,hx.jS,by simp⟩;simp_all
  rcases Ty with rfl|⟨rfl,_⟩
  .exact ⟨[.slot s],key _ rfl⟩
  .exact ⟨[],key _ rfl⟩
theorem Still.z6 {E:Env}{l5:List o9}{i:o9}{rs:List Nat}(hk:I5 st i.op=false)(hn:z7.isSome=i.op.B6)(h:z6 E l5 z7 k i st=some (st',rs)):∃ d,Still k i.dst z7 d st st' :=by
 unfold A2.z6 at h;split at h
 .split at h
  .rename_i st1 rs1 hW
   split at h
   .rename_i st2 hts
    cases h;have h1:∃ d,Still k i.dst z7 d st st1:=by
     unfold A2.E2 at hW;split at hW
     .split at hW
      .rename_i he
       cases hW;exact Still.F3 hk hn he
      .cases hW
     .split at hW
      .cases hW
       exact ⟨_,(Still.D8 _).trans (Still.put _)⟩
      .split at hW
       .cases hW
        exact ⟨_,Still.put _⟩
       .cases hW
    obtain ⟨d1,h1⟩:=h1;obtain ⟨d2,h2⟩:=Still.G5 (z7:=z7) hts;exact ⟨_,h1.trans h2⟩
   .cases h
  .cases h
 .split at h
  .rename_i hts
   cases h;obtain ⟨d2,h2⟩:=Still.G5 (z7:=z7) hts;exact ⟨_,(Still.put _).trans h2⟩
  .cases h
 .cases h
theorem Still.J2 (h:Still k dst z7 d st st'){x:y5}(hl:k ∉ x.fo)(ht:∀ s,s ∈ x.slots->dst≠some s):J2 st'.T st'.L x=J2 st.T st.L x:=by
 cases x with
 |loc j =>
  exact h.L j (fun e=>hl (by simp [y5.fo,e]))
 |slot s =>
  exact h.T s (ht s (by simp [y5.slots]))
 |const v=>rfl
def Still.wanted (h:Still k dst z7 d st st'){g:Option (Nat×Bool)}(hg:∀ j b,g=some (j,b)->j≠k):z8 st'.L g=z8 st.L g:=by
 cases g with
 |none=>rfl
 |some p =>
  obtain ⟨j,want⟩:=p;have hj:=hg j want rfl;have h1:=h.Gb j hj;have h2:=h.Gt j hj
  grind [z8,absurd]
theorem Still.JB {E:Env}{i:o9}{rs:List Nat}(h:Still k dst z7 d st st'):(eO E i z7 st st' rs).JB=nY z7++d:=by
 simp only [eO,h.p7];simp
def Still.reads {E:Env}{i:o9}{rs:List Nat}(h:Still k dst z7 d st st'){ids:List Nat}(hh:K0 (eO E i z7 st st' rs).JB ids=false){id:Nat}(hid:id ∈ ids):U2 st'.H[id]? st.H[id]? :=by
 rw [h.JB] at hh;unfold K0 at hh;have hno:∀ t,t ∈ (nY z7++d:List Touch)->t.L4 id=false:=by
  grind
 refine h.H id ?_ ?_
 all_goals grind [List.any_eq_false,nY,Touch.L4]
end
end Go.A2
namespace Go.A2
variable [C9]
section
variable {E:Env} {l5:List o9} {z7:Option Nat} {k q:Nat} {v:c8} {st st1 st2 st' :H6}
theorem rj {x:y5}(h:q ∉ x.fo):J2 (put st q v).T (put st q v).L x=J2 st.T st.L x:=by
 simp_all [J2,put,y5.fo]<;>grind
theorem put_comm (h:q≠k)(u:c8):put (put st q v) k u=put (put st k u) q v:=by
 simp_all [put,List.set_comm]
theorem og {l:List c8}{q j:Nat}(h:q≠j)(v:c8):(l.set q v)[j]? =l[j]? :=B5 h
def CE {x:y5}(h:q ∉ x.fo):D8 (put st q v) x=((D8 st x).1,put (D8 st x).2 q v):=by
 cases x with
 |loc j =>
  grind [y5.fo,D8,put,og,J2,List.getD,List.set_comm]
 |slot s=>rfl
 |const c=>rfl
theorem iG (o:A1):M4 (put st q v) z7 o=put (M4 st z7 o) q v:=by cases z7<;>rfl
theorem mN:newId (put st q v) z7=newId st z7:=rfl
def EK {x:y5}(h:q ∉ x.fo):bJ (put st q v) x=bJ st x:=by
 simp_all [y5.fo,bJ,put]<;>grind
def Lg {l:H7}{sz:Nat}{op:x9}(h:q ∉ op.T1.flatMap y5.fo):X5 l (put st q v) sz op=(X5 l st sz op).map fun p=>(p.1,p.2.1,put p.2.2 q v):=by
 unfold X5;split
 .have e1:(put st q v).p7=st.p7:=rfl
  have e2:(put st q v).T=st.T:=rfl;simp [e1,e2];split
  .rfl
  .split
   .split
    all_goals rfl
   .rfl
 .rename_i x
  have hx:q ∉ x.fo:=fun e=>h (by simp [x9.T1,e])
  rw [EK hx];have e1:(put st q v).p7=st.p7:=rfl;have e2:(put st q v).H=st.H:=rfl;split
  .simp [e1,e2]
   split
   .rfl
   .split
    .split
     .split
      all_goals rfl
     .rfl
    .rfl
  .rfl
 .rfl
def yG {l:H7}{sz:Nat}{x:y5}(h:q ∉ x.fo)(h2:∀ j a,x= .loc j->l5[j]? =some a->q ∉ a.op.T1.flatMap y5.fo) :
  Q3 l l5 (put st q v) sz x=(Q3 l l5 st sz x).map fun p=>(p.1,p.2.1,put p.2.2 q v):=by
 cases x with
 |const c =>
  unfold Q3;cases c<;>first|rfl|skip
  simp_all
 |slot s=>rfl
 |loc j =>
  have hj:q≠j:=fun e=>h (by simp [y5.fo,e])
  have e:(put st q v).L[j]? =st.L[j]? :=by simp_all [put,og]
  simp [Q3];rw [e];cases hl:st.L[j]? with
  |none=>rfl
  |some b =>
   cases b with
   |own z len cells =>
    grind [put,List.set_comm]
   |d x =>
    cases x with
    |slice n c =>
     cases ha:l5[j]? with
     |none=>rfl
     |some a=>simp_all [Lg]
    |_=>rfl
   |_=>rfl
def xP (h:q≠k){f:FuncId}{args:List c8}:D0 E k f args (put st q v)=(D0 E k f args st).map fun s=>put s q v:=by
 have e1:(put st q v).H=st.H:=rfl;have e2:(put st q v).p7=st.p7:=rfl;have key:∀ (H:p9) (t:List Touch) (u:c8),put { put st q v with H:=H,p7:=t } k u=put (put { st with H:=H,p7:=t } k u) q v:=by
  simp_all [put,List.set_comm]
 unfold D0;simp [e1];split
 .split
  all_goals simp_all
 .split
  .split
   .split
    all_goals simp_all
   .split
    all_goals simp_all
   .split
    all_goals simp_all
  .rfl
def HX (h:q≠k){n:Nat}{a:c8}{x:y5}(hx:q ∉ x.fo):S4 E k n (put st q v) a x=(S4 E k n st a x).map fun s=>put s q v:=by
 unfold S4;simp [CE hx];cases a with
 |ptr id off =>
  simp only;split
  .split
   .have e:(put (D8 st x).2 q v).H=(D8 st x).2.H:=rfl
    split
    all_goals simp_all [put,M7,List.set_comm]
   .rfl
  .rfl
 |_=>rfl
def Gv (h:q≠k){sz:Nat}{zero:List c8}{a:c8}:Y4 E k sz zero (put st q v) a=(Y4 E k sz zero st a).map fun s=>put s q v:=by
 have e:(put st q v).H=st.H:=rfl;unfold Y4;split
 .split
  .split
   all_goals grind [put,List.set_comm]
  .rfl
 all_goals grind [put_comm]
def DI (h:q≠k){kk:KK}{m key x:c8}:V4 E k kk (put st q v) m key x=(V4 E k kk st m key x).map fun s=>put s q v:=by
 have e:(put st q v).H=st.H:=rfl;unfold V4;split
 .rw [e]
  split
  .split
   .split
    .split
     .simp only [put,M7]
      congr 2
      exact List.set_comm _ _ h
     .rfl
    .rfl
   .rfl
  .rfl
 .rfl
theorem NT {l:H7}{op:x9}(h:q ∉ op.T1.flatMap y5.fo):pU l (put st q v) op=pU l st op:=by
 unfold pU;split
 .rfl
 .rename_i x
  have hx:q ∉ x.fo:=fun e=>h (by simp [x9.T1,e])
  rw [EK hx];rfl
 .rfl
def TB {l:H7}{x:y5}(h:q ∉ x.fo)(h2:∀ j a,x= .loc j->l5[j]? =some a->q ∉ a.op.T1.flatMap y5.fo):isNil l l5 (put st q v) x=isNil l l5 st x:=by
 cases x with
 |const c=>cases c<;>rfl
 |slot s=>rfl
 |loc j =>
  grind [y5.fo,put,og,isNil,NT]
def Du (h:q≠k){sz bytes:Nat}{ob:Bool}{x:y5}{y:c8}(hx:q ∉ x.fo)(h2:∀ j a,x= .loc j->l5[j]? =some a->q ∉ a.op.T1.flatMap y5.fo) :
  O4 E l5 z7 k sz bytes ob (put st q v) x y=(O4 E l5 z7 k sz bytes ob st x y).map fun s=>put s q v:=by
 have e:(put st q v).H=st.H:=rfl;unfold O4;rw [e,TB hx h2,yG hx h2];split
 .split
  .grind [put_comm,iG,mN]
  .split
   all_goals grind [Q3,put_comm]
 .rfl
theorem R5 {i:o9}{x:y5}(hx:x ∈ i.op.T1)(h:q ∉ fU l5 i):q ∉ x.fo:=by
 simp_all [fU,D2,List.mem_append_left,List.mem_flatMap]
def ec {i:o9}{g:Nat}{b:Bool}(hg:i.guard=some (g,b))(h:q ∉ fU l5 i):g≠q:=by
 grind [fU]
def DJ {i:o9}{sz bytes:Nat}{ob:Bool}{x y:y5}(hop:i.op= .append sz bytes ob x y)(h:q ∉ fU l5 i):∀ j a,x= .loc j->l5[j]? =some a->q ∉ a.op.T1.flatMap y5.fo:=by
 grind [fU,List.mem_append_right]
def Bx {i:o9}{sz:Nat}{x:y5}(hop:i.op= .own sz x)(h:q ∉ fU l5 i):∀ j a,x= .loc j->l5[j]? =some a->q ∉ a.op.T1.flatMap y5.fo:=by
 rintro j a rfl ha hq;apply h;unfold fU;rw [hop];simp only [ha];exact List.mem_append_right _ hq
def Iu (st:H6)(op:x9)(v:c8):Prop:=∀ sz UT ob x y id z lo n,op= .append sz UT ob x y->J2 st.T st.L x= .B4 id z lo n->v.kill id=v
def Iu.of {op:x9}(h:I5 st op=false):Iu st op v:=fun _ _ _ _ _ _ _ _ _ e hx=>by subst e;simp [I5,hx] at h
theorem Ez (id:Nat):∀ (l:List c8) (j:Nat) (x:c8),I6 id (l.set j x)=(I6 id l).set j (x.kill id)
 |[],_,_=>rfl
 |a::l,0,x=>rfl
 |a::l,j+1,x=>by simp only [s4,I6,Ez id l j x]
def Dt (h:q≠k){sz bytes id lo len:Nat}{y:c8}(hv:v.kill id=v):U0 E k sz bytes (put st q v) id lo len y=(U0 E k sz bytes st id lo len y).map fun s=>put s q v:=by
 unfold U0;split
 .have e1:(put st q v).H=st.H:=rfl
  rw [e1];split
  .split
   .simp only [M7,Option.some.injEq]
    rw [<- put_comm h];simp only [put,Ez,hv]
   .rfl
  .rfl
 .rfl
def SY {i:o9}(h:q≠k)(hu:q ∉ fU l5 i)(hk:Iu st i.op v):F3 E l5 z7 k (put st q v) i.op=(F3 E l5 z7 k st i.op).map fun s=>put s q v:=by
 have hρ:∀ x,x ∈ i.op.T1->J2 (put st q v).T (put st q v).L x=J2 st.T st.L x:=fun x hx=>rj (R5 hx hu)
 cases hop:i.op<;>simp only [hop,x9.T1] at hρ<;>simp only [F3]<;>try rfl
 case alloc zero=>simp only [iG,mN,put_comm h,M7]
 case box x =>
  rw [hρ x (by simp)];split
  .simp only [iG,mN,put_comm h,M7]
  .rfl
 case makeMap=>simp only [iG,mN,put_comm h,M7]
 case rJ x=>simp only [put_comm h,M7]
 case F5 sz len zero parts ob =>
  cases ob
  .rfl
  .have e:(parts.map fun x=>(x.1,x.2.1,J2 (put st q v).T (put st q v).L x.2.2))=(parts.map fun x=>(x.1,x.2.1,J2 st.T st.L x.2.2)):=kJ hρ
   simp only [e];cases cg zero (parts.map fun x=>(x.1,x.2.1,J2 st.T st.L x.2.2)) with
   |none=>rfl
   |some cs =>
    simp only;split
    .simp only [iG,mN,put_comm h,M7]
    .rfl
 case store n a x =>
  rw [hρ a (by simp)];exact HX h (R5 (by simp [hop,x9.T1]) hu)
 case append sz bytes ob x y =>
  rw [hρ x (by simp),hρ y (by simp)];split
  .rename_i hx
   split
   .exact Dt h (hk _ _ _ _ _ _ _ _ _ hop hx)
   .rfl
  .exact Du h (R5 (by simp [hop,x9.T1]) hu) (DJ hop hu)
 case own sz x =>
  rw [yG (R5 (by simp [hop,x9.T1]) hu) (Bx hop hu)];cases Q3 E.lim l5 st sz x with
  |none=>rfl
  |some p =>
   obtain ⟨len,cells,s1⟩:=p;simp only [M7,put_comm h]
 case clear sz zero x =>
  rw [hρ x (by simp)];exact Gv h
 case call f xs =>
  rw [aB hρ];exact xP h
 case aO x xs =>
  rw [hρ x (by simp),aB (l:=xs) fun y hy=>hρ y (by simp [hy])];split
  .exact xP h
  .rfl
 case eu kk m key x =>
  rw [hρ m (by simp),hρ key (by simp),hρ x (by simp)];exact DI h
 case defer x =>
  rw [hρ x (by simp)];split
  .split
   .simp only [put_comm h,M7]
   .rfl
  .rfl
def Cp (h:q≠k){dst:Option Nat}:y4 z7 (put st q v) k dst=(y4 z7 st k dst).map fun s=>put s q v:=by
 have hx:q ∉ (y5.loc k).fo:=by grind [y5.fo]
 have e1:(put st q v).T=st.T:=rfl;have e2:(put st q v).p7=st.p7:=rfl;cases z7<;>cases dst<;>simp [y4,G5,X6,CE hx,e1]<;>first|rfl|(split<;>rfl)
def wanted_put {g:Option (Nat×Bool)}(h:∀ j b,g=some (j,b)->j≠q):z8 (put st q v).L g=z8 st.L g:=by
 cases g with
 |none=>rfl
 |some p =>
  grind [z8,put,og]
def jC {i:o9}(h:q≠k)(hu:q ∉ fU l5 i)(hk:Iu st i.op v):z6 E l5 z7 k i (put st q v)=(z6 E l5 z7 k i st).map fun p=>(put p.1 q v,p.2):=by
 have hρ:∀ x,x ∈ i.op.T1->J2 (put st q v).T (put st q v).L x=J2 st.T st.L x:=fun x hx=>rj (R5 hx hu)
 have hW:E2 E l5 z7 k i.op (put st q v)=(E2 E l5 z7 k i.op st).map fun p=>(put p.1 q v,p.2):=by
  unfold E2;split
  .rw [SY h hu hk]
   cases F3 E l5 z7 k st i.op<;>rfl
  .cases hop:i.op with
   |Q5 x =>
    simp only [CE (R5 (x:=x) (by simp [hop,x9.T1]) hu),put_comm h,M7]
   |_ =>
    simp only;rw [<- hop,oa hρ];have e:(put st q v).H=st.H:=rfl;rw [e];cases hp:o6 (J2 st.T st.L) st.H i.op with
    |none=>rfl
    |some p=>simp only [put_comm h,M7]
 unfold z6;rw [wanted_put (fun j b hg=>ec hg hu),hW];split
 .cases hp:E2 E l5 z7 k i.op st with
  |none=>rfl
  |some p =>
   obtain ⟨s1,rs⟩:=p;simp only [M7];rw [Cp h];cases y4 z7 s1 k i.dst<;>rfl
 .rw [put_comm h,Cp h]
  cases y4 z7 (put st k (.tuple [])) k i.dst<;>rfl
 .rfl
def aI (st:H6)(i:Nat)(o:A1):H6:={ st with H:=st.H.set i o }
theorem qp {H:p9}{n i:Nat}{o:A1}(h:n<=i):(H.set i o).take n=H.take n:=List.take_set_of_le h
theorem EA (H:p9)(s:Nat):∀ (j m:Nat),m<=F6 H s j m
 |0,m=>by simp [F6]
 |j+1,m=>by
  unfold F6;split
  .omega
  .simp only
   split
   .omega
   .exact F9 (Nat.le_max_left _ _) (EA H s j _)
theorem jJ (H:p9)(s i:Nat)(o:A1):∀ (j n:Nat),F6 H s j n<=i->F6 (H.set i o) s j n=F6 H s j n
 |0,n,_=>rfl
 |j+1,n,h=>by
  have hn:n<=i:=F9 (EA H s (j+1) n) h;unfold F6 at h ⊢;split
  .rfl
  .rename_i gw
   rw [if_neg gw] at h;simp [qp hn] at h ⊢;split
   .rfl
   .rename_i hm
    rw [if_neg hm] at h;exact jJ H s i o j _ h
def xT (H:p9)(s i:Nat)(o:A1)(j n:Nat)(h:F6 (H.set i o) s j n<=i):F6 H s j n=F6 (H.set i o) s j n:=by
 rcases A5 i H.length with hi|hi
 .have:=jJ (H.set i o) s i H[i] j n h
  simp_all
 .rw [List.set_eq_of_length_le hi]
def HY {H:p9}{s n i:Nat}{o:A1}(h:n<=i):F7 (H.set i o) s n=F7 H s n:=by
 grind [F7,qp]
def Jj {H:p9}{n i:Nat}{o:A1}(h:n<=i):(H.set i o).drop n=(H.drop n).set (i - n) o:=by
 apply List.ext_getElem?
 grind
theorem Ap {A H:p9}{n i:Nat}{o:A1}(ha:A.length=n)(h:n<=i):A++(H.set i o).drop n=(A++H.drop n).set i o:=by
 simp_all [Jj,List.set_append,if_neg]
theorem ud {f:FuncId}{args:List c8}{i:Nat}{o:A1}(hi:i<st.H.length)(hs:(if E.prom f then st.H.length else F6 st.H E.lim.strict 8 (C5 args))<=i) :
  D0 E k f args (aI st i o)=(D0 E k f args st).map fun s=>aI s i o:=by
 have e1:(aI st i o).H=st.H.set i o:=rfl;have e2:(aI st i o).p7=st.p7:=rfl;unfold D0;simp [e1]
 by_cases hp:E.prom f=true
 .grind
 .rw [if_neg hp] at hs
  rw [if_neg hp,if_neg hp,jJ _ _ _ _ _ _ hs];simp [qp hs,HY hs,List.length_set];split
  .split
   .split
    all_goals simp_all [M7,put,aI,Ap]
   .split
    .split
     all_goals rfl
    .rfl
   .split
    all_goals grind [put,aI,Ap,F9]
  .rfl
theorem yH {dst:Option Nat}{i:Nat}{o:A1}:y4 z7 (aI st i o) k dst=(y4 z7 st k dst).map fun s=>aI s i o:=by
 have hx:D8 (aI st i o) (.loc k)=((D8 st (.loc k)).1,aI (D8 st (.loc k)).2 i o):=by
  grind [D8,aI]
 have e1:(aI st i o).T=st.T:=rfl;have e2:(aI st i o).p7=st.p7:=rfl;cases z7<;>cases dst<;>simp [y4,G5,X6,hx,e1]<;>first|rfl|(split<;>rfl)
def sX (i:o9):Bool:=match i.op with
 | .call .. =>true
 | .aO .. =>true
 |_=>false
def Ow {i:o9}{m:Nat}{o:A1}(hc:sX i=true)(hi:m<st.H.length)(hs:L5 E st i.op<=m):z6 E l5 z7 k i (aI st m o)=(z6 E l5 z7 k i st).map fun p=>(aI p.1 m o,p.2):=by
 have hW:E2 E l5 z7 k i.op (aI st m o)=(E2 E l5 z7 k i.op st).map fun p=>(aI p.1 m o,p.2):=by
  unfold sX at hc;unfold E2;have e:∀ x,J2 (aI st m o).T (aI st m o).L x=J2 st.T st.L x:=fun _=>rfl
  split at hc
  .rename_i f xs hop
   rw [hop] at hs ⊢;simp [x9.D9,F3];have:D0 E k f (xs.map (J2 (aI st m o).T (aI st m o).L)) (aI st m o)=(D0 E k f (xs.map (J2 st.T st.L)) st).map fun s=>aI s m o:=ud hi hs
   grind
  .rename_i x xs hop
   rw [hop] at hs ⊢;simp [x9.D9,F3];rw [e x];simp [L5] at hs;cases hx:J2 st.T st.L x with
   |func f first caps =>
    grind [D0,J2,aI,ud]
   |_=>rfl
  .cases hc
 unfold z6;have e3:z8 (aI st m o).L i.guard=z8 st.L i.guard:=rfl;rw [e3,hW];split
 .grind [E2,yH,y4]
 .have e4:put (aI st m o) k (.tuple [])=aI (put st k (.tuple [])) m o:=rfl
  grind [yH,y4,put]
 .rfl
def Ub {i:o9}{m:Nat}{o:A1}(hs:L5 E (aI st m o) i.op<=m):L5 E st i.op=L5 E (aI st m o) i.op:=by
 have e:∀ x,J2 (aI st m o).T (aI st m o).L x=J2 st.T st.L x:=fun _=>rfl
 have e1:(aI st m o).H=st.H.set m o:=rfl;cases hop:i.op<;>rw [hop] at hs<;>simp [L5] at hs ⊢
 case call f xs =>
  by_cases hp:E.prom f=true
  .simp_all
  .rw [if_neg hp] at hs ⊢
   rw [if_neg hp];exact xT _ _ _ _ _ _ hs
 case aO x xs =>
  simp [e x,e1] at hs ⊢;split at hs
  .rename_i f first caps hx
   by_cases hp:E.prom f=true
   .simp_all
   .rw [if_neg hp] at hs ⊢
    rw [if_neg hp];exact xT _ _ _ _ _ _ hs
  .rfl
def bY (s:H6)(dst:Option Nat)(u:c8):H6:=match dst with
 |none=>s
 |some t=>{ s with T:=s.T.set t u }
def Oh (s:H6)(dst:Option Nat)(u:c8):(bY s dst u).L=s.L:=by cases dst<;>rfl
def Og (s:H6)(dst:Option Nat)(u:c8):(bY s dst u).H=s.H:=by cases dst<;>rfl
def XK (s:H6)(dst:Option Nat)(u:c8):(bY s dst u).p7=s.p7:=by cases dst<;>rfl
def EU (s:H6)(dst:Option Nat)(u:c8):(bY s dst u).T.length=s.T.length:=by cases dst<;>simp [bY]
theorem uJ {s:H6}{dst:Option Nat}{u:c8}{x:y5}(h:∀ t,dst=some t->t ∉ x.slots):J2 (bY s dst u).T (bY s dst u).L x=J2 s.T s.L x:=by
 simp_all [J2,bY,y5.slots]<;>grind
def ue {f:FuncId}{args:List c8}{dst:Option Nat}{u:c8}:D0 E k f args (bY st dst u)=(D0 E k f args st).map fun s=>bY s dst u:=by
 cases dst with
 |none=>grind [bY,D0]
 |some t =>
  unfold D0;have e1:(bY st (some t) u).H=st.H:=rfl;have e2:(bY st (some t) u).p7=st.p7:=rfl;simp [e1];split
  .split
   .split<;>rfl
   .rfl
  .split
   .split
    .split
     .split<;>rfl
     .rfl
    .split
     .split<;>rfl
     .rfl
    .split
     .split<;>rfl
     .rfl
   .rfl
def yI {dst dst' :Option Nat}{u:c8}(h:∀ s,dst=some s->dst' ≠some s):y4 z7 (bY st dst' u) k dst=(y4 z7 st k dst).map fun s=>bY s dst' u:=by
 cases dst' with
 |none=>simp_all [bY,y4]
 |some t =>
  have hx:D8 (bY st (some t) u) (.loc k)=((D8 st (.loc k)).1,bY (D8 st (.loc k)).2 (some t) u):=by
   simp [D8,bY];cases st.L[k]? with
   |none=>rfl
   |some a=>cases a<;>rfl
  have e2:(bY st (some t) u).p7=st.p7:=rfl;have e3:(bY st (some t) u).T.length=st.T.length:=EU _ _ _;cases dst with
  |none=>cases z7<;>rfl
  |some s =>
   have hne:t≠s:=fun e=>h s rfl (by rw [e])
   have e4:∀ x,(bY st (some t) u).T.set s x=(st.T.set s x).set t u:=fun x=>List.set_comm _ _ hne
   cases z7<;>simp [y4,G5,X6,hx,e2,e3,e4]<;>split<;>rfl
def Dy (i:o9):Bool:= !i.op.D9&&(match i.op with
 | .Q5 _=>false
 |_=>true)
def Ch {op:x9}(h:op.D9=false)(hm:∀ y,op≠ .Q5 y):E2 E l5 z7 k op st=(o6 (J2 st.T st.L) st.H op).map fun p=>(put st k p.1,p.2):=by
 unfold E2;rw [h];cases op<;>first
  |exact (hm _ rfl).elim
  |(simp only [j4,if_false]
    generalize o6 _ _ _=r;cases r<;>rfl)
def OV {i:o9}(h:Dy i=true):i.op.D9=false/\∀ y,i.op≠ .Q5 y:=by
 simp only [Dy,c7,o7] at h;refine ⟨h.1,fun y e=> ?_⟩;rw [e] at h;cases h.2
def mh {i:o9}(h:Dy i=true)(st:H6):I5 st i.op=false:=by
 have h1:=(OV h).1;cases hop:i.op<;>rw [hop] at h1<;>first|rfl|(cases h1)
def Cg {i:o9}{dst:Option Nat}{u:c8}(hc:sX i=true\/Dy i=true)(hu:∀ t,dst=some t->t ∉ gA i)(hd:∀ s,i.dst=some s->dst≠some s) :
  z6 E l5 z7 k i (bY st dst u)=(z6 E l5 z7 k i st).map fun p=>(bY p.1 dst u,p.2):=by
 have hρ:∀ x,x ∈ i.op.T1->J2 (bY st dst u).T (bY st dst u).L x=J2 st.T st.L x:=by
  intro x hx;refine uJ fun t ht hs=>hu t ht ?_
  unfold gA;exact List.mem_flatMap.2 ⟨x,hx,hs⟩
 have hW:E2 E l5 z7 k i.op (bY st dst u)=(E2 E l5 z7 k i.op st).map fun p=>(bY p.1 dst u,p.2):=by
  rcases B7 (Dy i) with hd1|hd1
  .obtain ⟨h1,h2⟩:=OV hd1
   rw [Ch h1 h2,Ch h1 h2,oa hρ,Og];have e4:∀ v,put (bY st dst u) k v=bY (put st k v) dst u:=fun v=>by cases dst<;>rfl
   cases o6 (J2 st.T st.L) st.H i.op with
   |none=>rfl
   |some p=>simp only [M7,e4]
  replace hc:sX i=true:=hc.resolve_right (by rw [hd1];simp)
  unfold sX at hc;unfold E2;split at hc
  .rename_i f xs hop
   rw [hop] at hρ ⊢;simp only [x9.D9,if_true,F3];rw [aB (l:=xs) fun y hy=>hρ y (by simp [x9.T1,hy]),ue];cases D0 E k f (xs.map (J2 st.T st.L)) st<;>rfl
  .rename_i x xs hop
   rw [hop] at hρ ⊢;simp only [x9.D9,if_true,F3];rw [hρ x (by simp [x9.T1]),aB (l:=xs) fun y hy=>hρ y (by simp [x9.T1,hy])];cases hx:J2 st.T st.L x with
   |func f first caps =>
    simp only;rw [ue];cases D0 E k f (first++xs.map (J2 st.T st.L)++caps) st<;>rfl
   |_=>rfl
  .cases hc
 unfold z6;rw [Oh,hW];split
 .cases hp:E2 E l5 z7 k i.op st with
  |none=>rfl
  |some p =>
   obtain ⟨s1,rs⟩:=p;simp only [M7];rw [yI hd];cases y4 z7 s1 k i.dst<;>rfl
 .have e4:put (bY st dst u) k (.tuple [])=bY (put st k (.tuple [])) dst u:=by cases dst<;>rfl
  rw [e4,yI hd];cases y4 z7 (put st k (.tuple [])) k i.dst<;>rfl
 .rfl
end
end Go.A2
namespace Go.A2
variable [C9]
def AI (i:o9):Bool:= !i.op.D9&&i.dst.isNone&&(match i.op with
 | .Q5 (.loc _)=>false
 |_=>true)
def rI (i:o9):Bool:=match i.op with
 | .rJ _=>true
 | .alloc _=>true
 | .box _=>true
 | .makeMap=>true
 | .F5 _ _ _ _ b=>b
 |_=>false
section
variable {E:Env} {l5:List o9} {z7:Option Nat} {k q:Nat} {st st1 st2 st' :H6}
def gD {i:o9}(h:AI i=true)(st:H6):I5 st i.op=false:=by
 simp_all [AI,x9.D9,I5]<;>grind
def eE {i:o9}(h:AI i=true)(st:H6):L5 E st i.op=0:=by
 simp_all [AI,x9.D9,L5]<;>grind
def bP {i:o9}(h:rI i=true)(st:H6):I5 st i.op=false:=by
 grind [rI,I5]
def eD {i:o9}(h:rI i=true)(st:H6):L5 E st i.op=0:=by
 grind [rI,L5]
def gC {i:o9}(h:rI i=true):i.op.B6=true:=by
 grind [rI,x9.B6]
def jy {i:o9}(h:sX i=true)(st:H6):I5 st i.op=false:=by
 grind [sX,I5]
theorem kN {s:H6}{dst:Option Nat}(h:dst.isNone=true):y4 z7 s k dst=some s:=by
 cases dst with
 |none=>cases z7<;>rfl
 |some _=>simp at h
def Gk {i:o9}(hP:AI i=true){rs:List Nat}(h:z6 E l5 z7 k i st=some (st',rs)) :
  ∃ v,st' =put st k v/\∀ s2:H6,(∀ x,x ∈ i.op.T1->J2 s2.T s2.L x=J2 st.T st.L x)->z8 s2.L i.guard=z8 st.L i.guard->(∀ id,id ∈ rs->U2 s2.H[id]? st.H[id]?) ->
   z6 E l5 z7 k i s2=some (put s2 k v,rs):=by
 simp only [AI,c7,o7] at hP;obtain ⟨⟨h1,h2⟩,h3⟩:=hP;unfold z6 at h;split at h
 .rename_i hw
  split at h
  .rename_i s1 rs1 hW
   rw [kN h2] at h;cases h;unfold E2 at hW;rw [h1] at hW;simp [j4,if_false] at hW;have other:∀ {v:c8},(∀ x,i.op≠ .Q5 x)->o6 (J2 st.T st.L) st.H i.op=some (v,rs)->st' =put st k v->∃ v,st' =put st k v/\∀ s2:H6,(∀ x,x ∈ i.op.T1->J2 s2.T s2.L x=J2 st.T st.L x)->z8 s2.L i.guard=z8 st.L i.guard->(∀ id,id ∈ rs->U2 s2.H[id]? st.H[id]?) ->
     z6 E l5 z7 k i s2=some (put s2 k v,rs):=by
    intro v hm hp e;refine ⟨v,e,fun s2 hρ hwd hr=> ?_⟩;unfold z6;rw [hwd,hw];have:E2 E l5 z7 k i.op s2=some (put s2 k v,rs):=by
     unfold E2;have hp2:o6 (J2 s2.T s2.L) s2.H i.op=some (v,rs):=Kw (by simp_all [oa]) hr;simp_all
    simp_all [kN]
   split at hW
   .rename_i x hop
    cases hW;refine ⟨(D8 st x).1,?_,fun s2 hρ hwd hr=> ?_⟩
    .cases x with
     |loc j=>simp_all
     |slot s=>rfl
     |const c=>rfl
    .unfold z6
     have e1:D8 s2 x=((D8 st x).1,s2):=by
      simp_all [x9.T1,D8]<;>grind
     simp_all [E2,x9.D9,j4,if_false,kN]
   grind
  .cases h
 all_goals grind [kN,z6]
def oO (s:H6)(n:Nat):Option A1->H6
 |some o=>aI s n o
 |none=>s
inductive NF (k n:Nat) (dst:Option Nat):(H6->H6)->Prop where
 |mk (o:Option A1) (v u:c8):NF k n dst (fun s=>bY (put (oO s n o) k v) dst u)
inductive NF0 (k:Nat) (dst:Option Nat):(H6->H6)->Prop where
 |mk (v u:c8):NF0 k dst (fun s=>bY (put s k v) dst u)
structure Alike (i:o9)(st s2:H6):Prop where
 T:s2.T.length=st.T.length
 L:s2.L.length=st.L.length
 p7:∀ s,i.dst=some s->s2.p7.any (Touch.U9 s)=true
def Li {s:H6}{v:c8}{dst:Option Nat}(hv:∀ z n c,v≠ .own z n c){s' :H6}(h:X6 (put s k v) k dst=some s') :
  ∃ u,s' =bY (put s k v) dst u/\∀ s2:H6,s2.T.length=s.T.length->s2.L.length=s.L.length->(∀ t,dst=some t->s2.p7.any (Touch.U9 t)=true)->X6 (put s2 k v) k dst=some (bY (put s2 k v) dst u):=by
 cases dst with
 |none=>cases h;exact ⟨.any,rfl,fun s2 _ _ _=>rfl⟩
 |some t =>
  have hx:∀ s:H6,D8 (put s k v) (.loc k)=((if k<s.L.length then v.SU else .any),put s k v):=by
   simp_all [D8,put,J2,List.getD,c8.J3,c8.SU,absurd]<;>grind
  simp only [X6,hx] at h;split at h
  .rename_i hc
   simp [c7,decide_eq_true_eq] at hc;cases h;refine ⟨_,rfl,fun s2 h1 h2 h3=> ?_⟩;simp only [X6,hx];have:(decide (t<(put s2 k v).T.length)&&(put s2 k v).p7.any (Touch.U9 t))=true:=by
    simp_all [c7,decide_eq_true_eq,put]
   rw [if_pos this,h2];rfl
  .cases h
def HE (s:H6)(n:Nat)(o:Option A1):(oO s n o).T=s.T:=by cases o<;>rfl
def BR (s:H6)(n:Nat)(o:Option A1):(oO s n o).L=s.L:=by cases o<;>rfl
def KP (s:H6)(n:Nat)(o:Option A1):(oO s n o).p7=s.p7:=by cases o<;>rfl
def Gj {i:o9}{n:Nat}(hN:rI i=true){rs:List Nat}(h:z6 E l5 (some n) k i st=some (st',rs)) :
  rs=[]/\∃ f,NF k n i.dst f/\(i.op.makes=false->NF0 k i.dst f)/\st' =f st/\∀ s2:H6,(∀ x,x ∈ i.op.T1->J2 s2.T s2.L x=J2 st.T st.L x)->z8 s2.L i.guard=z8 st.L i.guard->Alike i st s2->z6 E l5 (some n) k i s2=some (f s2,[]):=by
 unfold rI at hN;have h3:=hN;have cc7:i.op.D9=true:=by
  grind [x9.D9]
 have slot:∀ (o:Option A1) (v:c8),(i.op.makes=false->o=none)->(∀ z n c,v≠ .own z n c)->(∀ s2:H6,(∀ x,x ∈ i.op.T1->J2 s2.T s2.L x=J2 st.T st.L x)->z8 s2.L i.guard=z8 st.L i.guard->z6 E l5 (some n) k i s2=(X6 (put (oO s2 n o) k v) k i.dst).map fun s=>(s,[])) ->
   rs=[]/\∃ f,NF k n i.dst f/\(i.op.makes=false->NF0 k i.dst f)/\st' =f st/\∀ s2:H6,(∀ x,x ∈ i.op.T1->J2 s2.T s2.L x=J2 st.T st.L x)->z8 s2.L i.guard=z8 st.L i.guard->Alike i st s2->z6 E l5 (some n) k i s2=some (f s2,[]):=by
  intro o v ho hv hs;rw [hs st (fun _ _=>rfl) rfl] at h;cases ht:X6 (put (oO st n o) k v) k i.dst with
  |none=>simp_all
  |some s' =>
   rw [ht] at h;obtain ⟨rfl,rfl⟩:=h;obtain ⟨u,h4,h5⟩:=Li hv ht;refine ⟨rfl,_,NF.mk o v u,fun hm=>by rw [ho hm];exact NF0.mk v u,h4,fun s2 hρ hw ha=> ?_⟩;rw [hs s2 hρ hw,h5 (oO s2 n o) (by rw [HE,HE];exact ha.T) (by rw [BR,BR];exact ha.L) (fun t ht=>by rw [KP];exact ha.p7 t ht)];rfl
 obtain ⟨wd,hw⟩:∃ wd,z8 st.L i.guard=wd:=⟨_,rfl⟩;cases wd with
 |none=>simp_all [z6]
 |some b =>
  cases b with
  |false =>
   refine slot none (.tuple []) (fun _=>rfl) (by simp) fun s2 hρ hwd=> ?_
   unfold z6
   grind [y4,oO,X6,put]
  |true =>
   by_cases hcn:∃ x,i.op= .rJ x
   .obtain ⟨x,hx⟩:=hcn
    refine slot none (.d x) (fun _=>rfl) (by simp) fun s2 hρ hwd=> ?_
    grind [z6,E2,x9.D9,F3,y4,oO,X6,put]
   have hmk:i.op.makes=true:=by
    cases hop:i.op<;>rw [hop] at h3<;>first|exact h3|simp_all|simp_all|rfl
   have key:∀ (o:A1) (v:c8),(∀ z n c,v≠ .own z n c)->(∀ s2:H6,(∀ x,x ∈ i.op.T1->J2 s2.T s2.L x=J2 st.T st.L x)->F3 E l5 (some n) k s2 i.op=some (put (aI s2 n o) k v)) ->
     rs=[]/\∃ f,NF k n i.dst f/\(i.op.makes=false->NF0 k i.dst f)/\st' =f st/\∀ s2:H6,(∀ x,x ∈ i.op.T1->J2 s2.T s2.L x=J2 st.T st.L x)->z8 s2.L i.guard=z8 st.L i.guard->Alike i st s2->z6 E l5 (some n) k i s2=some (f s2,[]):=by
    intro o v hv h5;refine slot (some o) v (fun h=>by simp_all) hv fun s2 hρ hwd=> ?_
    unfold z6
    grind [E2,put,aI,y4,oO,X6]
   obtain ⟨op,hop⟩:∃ op,i.op=op:=⟨_,rfl⟩;have he:∃ s1,F3 E l5 (some n) k st i.op=some s1:=by
    grind [z6,E2]
   obtain ⟨s1,he⟩:=he;have bv7 :∀ x,op≠ .rJ x:=fun x e=>hcn ⟨x,hop.trans e⟩
   cases op<;>(try (exact absurd rfl (bv7 _)))<;>rw [hop] at h3<;>simp at h3<;>(try (cases h3;done))<;>rw [hop] at he<;>simp only [F3] at he
   .rename_i zero
    refine key (.cells zero) (.ptr n 0) (by simp) (fun s2 _=> ?_);rw [hop];rfl
   .rename_i x
    split at he
    .rename_i l hl
     refine key (.cells l) (.ptr n 0) (by simp) (fun s2 hρ=> ?_);rw [hop];simp only [F3];rw [hρ x (by simp [hop,x9.T1]),hl];rfl
    .cases he
   .rename_i sz len zero parts ob
    subst h3;simp only at he;split at he
    .rename_i cs hcs
     split at he
     .rename_i hl
      refine key (.cells cs) (.B4 n sz 0 len) (by simp) (fun s2 hρ=> ?_);rw [hop];simp only [F3];have e:(parts.map fun x=>(x.1,x.2.1,J2 s2.T s2.L x.2.2))=(parts.map fun x=>(x.1,x.2.1,J2 st.T st.L x.2.2)):=kJ (fun x hx=>hρ x (by grind [x9.T1]));have wQ :cg zero (parts.map fun x=>(x.1,x.2.1,J2 st.T st.L x.2.2))=some cs:=hcs;simp only [e,wQ,if_pos hl];rfl
     .cases he
    .cases he
   .refine key (.map []) (.map n) (by simp) (fun s2 _=> ?_)
    rw [hop];rfl
end
end Go.A2
namespace Go.A2
variable [C9]
def aa2 (i:o9):Bool:=match i.op with
 | .rJ _=>true
 |_=>false
def wF {i:o9}(h:aa2 i=true):rI i=true/\i.op.makes=false:=by
 unfold aa2 at h;unfold rI;cases hop:i.op<;>rw [hop] at h<;>first|exact ⟨rfl,rfl⟩|(cases h)
def Ho (l5:List o9)(j:Nat)(a:o9)(i:Nat)(b:o9):Bool :=
 !(fU l5 b).contains j&& !(fU l5 a).contains i &&
 (match b.dst with|some s=> !(gA a).contains s&&a.dst != some s|none=>true)&&(match a.dst with|some s=> !(gA b).contains s|none=>true) &&
 ((AI a&&(AI b||a.cD.contains i))||(AI b&&b.cD.contains j)||(rI a&&rI b)||(rI a&&sX b&&a.cD.contains i)||(sX a&&rI b&&b.cD.contains j)||(aa2 a&&Dy b)||(Dy a&&aa2 b))
def OM (E:Env)(l5:List o9)(W6:Nat->Option Nat)(lg:Nat->lZ)(k:Nat)(st st' :H6):Prop :=
 ∃ i,l5[k]? =some i/\kL E l5 (W6 k) k i st=some (st',lg k)
structure SJ (l5:List o9)(W6:Nat->Option Nat):Prop where
 alloc:∀ (k:Nat) i,l5[k]? =some i->(W6 k).isSome=i.op.B6
 inj:∀ j k n,W6 j=some n->W6 k=some n->j=k
def OL (l5:List o9)(lg:Nat->lZ):Prop :=
 ∀ (k:Nat) i e,l5[k]? =some i->e ∈ i.cD->K0 (lg e).JB (lg k).reads=false/\(i.op.makes=true->(lg e).HB<=(lg k).id)
section
variable {E:Env} {l5:List o9} {z7:Option Nat} {k q:Nat} {v:c8} {st st1 st2 st' :H6}
def bT {i:o9}{l:lZ}:kL E l5 z7 k i st=some (st',l)↔(I5 st i.op&&l5.any fun a=>a.cD.contains k&& !calm st i.op a)=false/\∃ rs,z6 E l5 z7 k i st=some (st',rs)/\l=eO E i z7 st st' rs:=by
 grind [kL]
def dP {i:o9}{l:lZ}(h:I5 st i.op=false/\∃ rs,z6 E l5 z7 k i st=some (st',rs)/\l=eO E i z7 st st' rs):kL E l5 z7 k i st=some (st',l) :=
 bT.2 ⟨by rw [h.1];rfl,h.2⟩
def PI {j:Nat}{i b:o9}{q:Nat}(h:(I5 st i.op&&l5.any fun a=>a.cD.contains j&& !calm st i.op a)=false)(hk:I5 st i.op=true)(hb:l5[q]? =some b)(hu:j ∈ b.cD):calm st i.op b=true:=by
 grind
def IM {op:x9}{a:o9}(h:calm st op a=true):∃ sz UT ob x y s id z lo n j o,op= .append sz UT ob x y/\a.op= .Q5 (.slot s)/\a.dst=none/\a.guard=none/\J2 st.T st.L x= .B4 id z lo n/\st.T[s]? =some (.ptr j o)/\j≠id:=by
 unfold calm at h;split at h
 .rename_i sz UT ob x y s ho
  simp [c7,Option.isNone_iff_eq_none] at h;obtain ⟨⟨h1,h2⟩,h3⟩:=h;split at h3
  .rename_i id z lo n j o h4 h5
   exact ⟨_,_,_,_,_,_,_,_,_,_,_,_,rfl,ho,h1,h2,h4,h5,fun e=>by simp_all⟩
  .cases h3
 .cases h
def AA {s2:H6}{op:x9}{a:o9}(h:∀ x,x ∈ op.T1->J2 s2.T s2.L x=J2 st.T st.L x)(hT:s2.T=st.T):calm s2 op a=calm st op a:=by
 unfold calm
 grind [x9.T1]
def IP {sz UT :Nat}{ob:Bool}{x y:y5}{id z lo n j o:Nat}(h:J2 st.T st.L x= .B4 id z lo n)(hj:j≠id):Iu st (.append sz UT ob x y) (.ptr j o):=fun _ _ _ x' _ id' _ _ _ e hx=>by
 simp_all [c8.kill]
def uD {a:o9}{s j o:Nat}(h1:a.op= .Q5 (.slot s))(h2:a.dst=none)(h3:a.guard=none)(h:st.T[s]? =some (.ptr j o)):z6 E l5 z7 k a st=some (put st k (.ptr j o),[]):=by
 have e:(D8 st (.slot s))=(.ptr j o,st):=by simp [D8,J2,h,c8.J3]
 simp [z6,h3,E2,h1,e,h2];cases z7<;>rfl
def IE {i:o9}{sz UT :Nat}{ob:Bool}{x y:y5}{id z lo n s j o:Nat}{rs:List Nat}(hop:i.op= .append sz UT ob x y)(hx:J2 st.T st.L x= .B4 id z lo n)(h:z6 E l5 z7 k i st=some (st',rs))(hs:i.dst≠some s)(hT:st.T[s]? =some (.ptr j o))(hj:j≠id):st'.T[s]? =some (.ptr j o):=by
 have slot:∀ s1 s2:H6,y4 z7 s1 k i.dst=some s2->s1.T[s]? =some (.ptr j o)->s2.T[s]? =some (.ptr j o):=by
  intro s1 s2 h h1;cases hd:i.dst with
  |none=>rw [hd] at h;cases z7<;>cases h<;>exact h1
  |some t =>
   cases z7<;>simp only [y4,G5,X6] at h<;>split at h<;>first|grind|grind
 unfold z6 at h;split at h
 .split at h
  .rename_i s1 rs1 h1
   split at h
   .rename_i s2 h2
    cases h;refine slot _ _ h2 ?_;simp [E2,hop,x9.D9,if_true,F3,hx] at h1;split at h1
    .rename_i s3 h3
     cases h1;split at h3
     .unfold U0 at h3
      split at h3
      .split at h3
       .split at h3
        .cases h3
         have e:∀ (l:List c8) (s:Nat),l[s]? =some (.ptr j o)->(I6 id l)[s]? =some (.ptr j o):=by
          intro l
          induction l with
          |nil=>simp_all
          |cons a l ih =>
           grind [I6,c8.kill]
         exact e _ _ hT
        .cases h3
       .cases h3
      .cases h3
     .cases h3
    .cases h1
   .cases h
  .cases h
 .split at h
  .rename_i s2 h2
   cases h;exact slot _ _ h2 hT
  .cases h
 .cases h
def ia {s2:H6}{op:x9}(h:∀ x,x ∈ op.T1->J2 s2.T s2.L x=J2 st.T st.L x):I5 s2 op=I5 st op:=by
 cases op<;>simp [I5];simp_all [x9.T1]
def gL {s2:H6}{op:x9}(h:∀ x,x ∈ op.T1->J2 s2.T s2.L x=J2 st.T st.L x)(hH:s2.H=st.H):L5 E s2 op=L5 E st op:=by
 cases op<;>simp [L5,x9.T1] at h ⊢
 all_goals simp_all [call,aB]
def W0 {i:o9}(hu:q ∉ fU l5 i):∀ x,x ∈ i.op.T1->J2 (put st q v).T (put st q v).L x=J2 st.T st.L x :=
 fun _ hx=>rj (R5 hx hu)
theorem NF.J2 {n:Nat}{dst:Option Nat}{f:H6->H6}(hf:NF k n dst f){x:y5}(h:k ∉ x.fo)(ht:∀ t,dst=some t->t ∉ x.slots)(s:H6):J2 (f s).T (f s).L x=J2 s.T s.L x:=by
 cases hf with
 |mk o v u =>
  simp_all [uJ,rj,HE,BR]
def NF.wanted {n:Nat}{dst:Option Nat}{f:H6->H6}(hf:NF k n dst f){g:Option (Nat×Bool)}(h:∀ j b,g=some (j,b)->j≠k)(s:H6):z8 (f s).L g=z8 s.L g:=by
 cases hf with
 |mk o v u =>
  simp_all [Oh,wanted_put,BR]
theorem NF.p7 {n:Nat}{dst:Option Nat}{f:H6->H6}(hf:NF k n dst f)(s:H6):(f s).p7=s.p7:=by
 cases hf with
 |mk o v u =>
  rw [XK];exact KP _ _ _
def NF.W5 {n:Nat}{dst:Option Nat}{f:H6->H6}(hf:NF k n dst f)(s:H6):(f s).T.length=s.T.length:=by
 cases hf with
 |mk o v u =>
  rw [EU];show (oO s n o).T.length=_
  rw [HE]
def NF.jS {n:Nat}{dst:Option Nat}{f:H6->H6}(hf:NF k n dst f)(s:H6):(f s).L.length=s.L.length:=by
 cases hf with
 |mk o v u =>
  simp_all [Oh,put,BR]
def NF.comm {n m j i:Nat}{d e:Option Nat}{f g:H6->H6}(hf:NF j n d f)(hg:NF i m e g)(hji:j≠i)(hnm:n≠m)(hde:∀ s,e=some s->d≠some s)(s:H6):f (g s)=g (f s):=by
 cases hf with
 |mk o v u =>
  cases hg with
  |mk o' v' u' =>
   have tr:∀ (l:List A1) (a b:A1),(l.set m b).set n a=(l.set n a).set m b:=fun l a b=>List.set_comm _ _ (fun e=>hnm e.symm)
   have hL:∀ (l:List c8) (a b:c8),(l.set i b).set j a=(l.set j a).set i b:=fun l a b=>List.set_comm _ _ (fun e=>hji e.symm)
   cases o<;>cases o' <;>cases d<;>cases e<;>simp [bY,oO,aI,put,hL]
   all_goals grind [set,List.set_comm]
def Of {i:o9}{m:Nat}{o:A1}(hs:L5 E st i.op<=m):L5 E (aI st m o) i.op=L5 E st i.op:=by
 have e:∀ x,J2 (aI st m o).T (aI st m o).L x=J2 st.T st.L x:=fun _=>rfl
 have e1:(aI st m o).H=st.H.set m o:=rfl;have e2:∀ xs,List.map (J2 (aI st m o).T (aI st m o).L) xs=List.map (J2 st.T st.L) xs:=fun _=>rfl
 cases hop:i.op<;>rw [hop] at hs<;>simp [L5] at hs ⊢
 case call f xs =>
  simp [e2]
  by_cases hp:E.prom f=true
  all_goals simp_all [if_pos,if_neg,jJ]
 case aO x xs =>
  simp [e x,e2];split at hs
  .rename_i f first caps hx
   by_cases hp:E.prom f=true
   all_goals simp_all [if_true,if_neg,jJ]
  .rfl
def NF.HB {n j:Nat}{dst:Option Nat}{f:H6->H6}(hf:NF j n dst f){i:o9}(hu:j ∉ fU l5 i)(ht:∀ t,dst=some t->t ∉ gA i) :
  ∃ o:Option A1,L5 E (f st) i.op=L5 E (oO st n o) i.op:=by
 cases hf with
 |mk o v u =>
  refine ⟨o,?_⟩;refine gL (fun x hx=> ?_) ?_
  .grind [uJ,rj,R5,gA]
  .simp [Og]
   rfl
def aN1 {i:o9}{n j:Nat}{dst:Option Nat}{f:H6->H6}(hf:NF j n dst f)(hC:sX i=true)(hjk:j≠k)(hu:j ∉ fU l5 i)(ht:∀ t,dst=some t->t ∉ gA i)(hd:∀ s,i.dst=some s->dst≠some s)(hn:n<st.H.length)(hs:L5 E st i.op<=n) :
  z6 E l5 z7 k i (f st)=(z6 E l5 z7 k i st).map (fun p=>(f p.1,p.2))/\L5 E (f st) i.op=L5 E st i.op:=by
 refine ⟨?_,?_⟩
 .cases hf with
  |mk o v u =>
   have h1:=Cg (E:=E) (l5:=l5) (z7:=z7) (k:=k) (st:=put (oO st n o) j v) (u:=u) (.inl hC) ht hd;have h2:=jC (E:=E) (z7:=z7) (v:=v) (st:=oO st n o) hjk hu (.of (jy hC _));have h3:z6 E l5 z7 k i (oO st n o)=(z6 E l5 z7 k i st).map (fun p=>(oO p.1 n o,p.2)):=by
    cases o with
    |none=>simp only [oO];cases z6 E l5 z7 k i st<;>rfl
    |some o=>exact Ow hC hn hs
   simp only;rw [h1,h2,h3];cases z6 E l5 z7 k i st<;>rfl
 .obtain ⟨o,ho⟩:=hf.HB (E:=E) (st:=st) hu ht
  rw [ho];cases o with
  |none=>rfl
  |some o=>exact Of hs
def al7 {i:o9}{j:Nat}{dst:Option Nat}{f:H6->H6}(hf:NF0 j dst f)(hC:sX i=true\/Dy i=true)(hjk:j≠k)(hu:j ∉ fU l5 i)(ht:∀ t,dst=some t->t ∉ gA i)(hd:∀ s,i.dst=some s->dst≠some s) :
  z6 E l5 z7 k i (f st)=(z6 E l5 z7 k i st).map (fun p=>(f p.1,p.2))/\L5 E (f st) i.op=L5 E st i.op:=by
 cases hf with
 |mk v u =>
  have h1:=Cg (E:=E) (l5:=l5) (z7:=z7) (k:=k) (st:=put st j v) (u:=u) hC ht hd;have h2:=jC (E:=E) (z7:=z7) (v:=v) (st:=st) hjk hu (.of (hC.elim (fun h=>jy h _) (fun h=>mh h _)));refine ⟨?_,?_⟩
  .simp only
   rw [h1,h2];cases z6 E l5 z7 k i st<;>rfl
  .refine gL (fun x hx=> ?_) (by rw [Og];rfl)
   rw [uJ (fun t ht' =>fun hs=>ht t ht' (by unfold gA;exact List.mem_flatMap.2 ⟨x,hx,hs⟩)),rj (R5 hx hu)]
def SF {i:o9}{n j:Nat}{dst:Option Nat}{f:H6->H6}(hf:NF j n dst f)(hu:j ∉ fU l5 i)(ht:∀ t,dst=some t->t ∉ gA i)(hs:L5 E (f st) i.op<=n):L5 E st i.op=L5 E (f st) i.op:=by
 obtain ⟨o,ho⟩:=hf.HB (E:=E) (st:=st) hu ht;rw [ho] at hs ⊢;cases o with
 |none=>rfl
 |some o=>exact Ub hs
def mJ {i:o9}{s s2 s' s2' :H6}{rs:List Nat}(h1:s2.p7=s.p7)(h2:s2'.p7=s'.p7)(h3:L5 E s2 i.op=L5 E s i.op):eO E i z7 s2 s2' rs=eO E i z7 s s' rs:=by
 simp_all [eO]
def eP {i:o9}{s s2 s' s2' :H6}{rs:List Nat}(h1:s2'.p7.take (s2'.p7.length - s2.p7.length)=s'.p7.take (s'.p7.length - s.p7.length))(h3:L5 E s2 i.op=L5 E s i.op):eO E i z7 s2 s2' rs=eO E i z7 s s' rs:=by
 simp_all [eO]
def Still.Hx {i b:o9}{d:List Touch}{zB:Option Nat}{kb:Nat}(h:Still kb b.dst zB d st st')(hl:kb ∉ fU l5 i)(ht:∀ s,b.dst=some s->s ∉ gA i):∀ x,x ∈ i.op.T1->A2.J2 st'.T st'.L x=A2.J2 st.T st.L x:=by
 intro x hx;refine h.J2 (R5 hx hl) fun s hs e=>ht s e ?_
 simp_all [gA,List.mem_flatMap]
def Still.rH {i b:o9}{d:List Touch}{zB:Option Nat}{kb:Nat}(h:Still kb b.dst zB d st st')(hl:kb ∉ fU l5 i):z8 st'.L i.guard=z8 st.L i.guard :=
 h.wanted fun _ _ hg=>ec hg hl
def jE (l5:List o9)(st:H6):Prop:=∀ (k:Nat) i s,l5[k]? =some i->i.op.B6=true->i.dst=some s->st.p7.any (Touch.U9 s)=true
def Still.marked {kb:Nat}{dst zB:Option Nat}{d:List Touch}(h:Still kb dst zB d st st')(hm:jE l5 st):jE l5 st' :=by
 intro k i s hi ha hd;rw [h.p7,List.any_append,hm k i s hi ha hd];simp
def xz {i:o9}{rs:List Nat}(hn:z7.isSome=i.op.B6)(h:z6 E l5 z7 k i st=some (st',rs)):st.H.length<=st'.H.length/\∃ d,st'.p7=d++st.p7:=by
 cases hk:I5 st i.op with
 |false =>
  obtain ⟨d,hd⟩:=Still.z6 hk hn h;exact ⟨hd.NM,d,hd.p7⟩
 |true =>
  have slot:∀ {s s2:H6} {dst:Option Nat},y4 z7 s k dst=some s2->s.H.length=s2.H.length/\∃ d,s2.p7=d++s.p7:=by
   intro s s2 dst h;have hx:(D8 s (.loc k)).2.H=s.H/\(D8 s (.loc k)).2.p7=s.p7:=by
    simp only [D8];split<;>exact ⟨rfl,rfl⟩
   cases dst with
   |none=>cases z7<;>simp only [y4,G5,X6,Option.some.injEq] at h<;>subst h<;>exact ⟨rfl,[],rfl⟩
   |some t =>
    cases z7<;>simp only [y4,G5,X6] at h
    .split at h
     .cases h;exact ⟨by simp only [hx.1],[_],rfl⟩
     .cases h
    .split at h
     .cases h;exact ⟨by simp only [hx.1],[],by simp only [hx.2];rfl⟩
     .cases h
  have bG4:∀ {v:c8} {s2:H6},y4 z7 (put st k v) k i.dst=some s2->st.H.length<=s2.H.length/\∃ d,s2.p7=d++st.p7:=by
   intro v s2 h;obtain ⟨h1,d,h2⟩:=slot h;exact ⟨Nat.le_of_eq h1,d,h2⟩
  simp only [z6] at h;split at h
  .split at h
   .rename_i s1 rs1 h1
    split at h
    .rename_i s2 h2
     cases h;obtain ⟨e1,d,e2⟩:=slot h2;have hw:st.H.length<=s1.H.length/\∃ d,s1.p7=d++st.p7:=by
      cases hop:i.op<;>rw [hop] at hk h1<;>simp only [I5,j4] at hk
      .rename_i sz bytes ob x y
       simp only [E2,x9.D9,if_true] at h1;split at h1
       .rename_i s3 h3
        cases h1;simp only [F3] at h3;split at hk
        .rename_i id z lo len hr
         rw [hr] at h3;simp only at h3;split at h3
         .simp only [U0] at h3
          split at h3
          .split at h3
           .split at h3
            .cases h3
             refine ⟨by simp [put];omega,[_],rfl⟩
            .cases h3
           .cases h3
          .cases h3
         .cases h3
        .cases hk
       .cases h1
     obtain ⟨e3,d2,e4⟩:=hw;exact ⟨by omega,d++d2,by rw [e2,e4,D2]⟩
    .cases h
   .cases h
  .split at h
   .rename_i s2 h2
    cases h;exact bG4 h2
   .cases h
  .cases h
theorem jE.ext (hm:jE l5 st)(h:∃ d,st'.p7=d++st.p7):jE l5 st' :=by
 obtain ⟨d,h⟩:=h;intro k i s hi ha hd;rw [h,List.any_append,hm k i s hi ha hd];simp
def swap {W6:Nat->Option Nat}{lg:Nat->lZ}(hn:SJ l5 W6)(hlg:OL l5 lg){j i:Nat}{a b:o9}(hp:Ho l5 j a i b=true)(ha:l5[j]? =some a)(hb:l5[i]? =some b)(hji:j≠i)
  (hin:∀ k n,W6 k=some n->n<st.H.length) (tQ:jE l5 st) (h1:OM E l5 W6 lg j st st1) (h2:OM E l5 W6 lg i st1 st2):∃ KW,OM E l5 W6 lg i st KW /\OM E l5 W6 lg j KW st2:=by
 obtain ⟨a',ha',h1⟩:=h1;rw [ha] at ha';cases ha';obtain ⟨b',hb',h2⟩:=h2;rw [hb] at hb';cases hb';obtain ⟨ka0,rsa,sa,la⟩:=bT.1 h1;obtain ⟨kb0,rsb,sb,lb⟩:=bT.1 h2;simp only [Ho,c7,o7,List.contains_eq_mem,decide_eq_false_iff_not] at hp;obtain ⟨⟨⟨⟨u1,u2⟩,t1⟩,t2⟩,fm⟩:=hp;have t1' :∀ s,b.dst=some s->s ∉ gA a:=by
  intro s hs;rw [hs] at t1;simp at t1;exact t1.1
 have t3:∀ s,b.dst=some s->a.dst≠some s:=by
  intro s hs;rw [hs] at t1;simp at t1;exact t1.2
 have t4:∀ s,a.dst=some s->b.dst≠some s:=fun s hs h=>t3 s h hs
 have t2' :∀ s,a.dst=some s->s ∉ gA b:=by
  intro s hs;rw [hs] at t2;simpa using t2
 have WA:=hn.alloc j a ha;have zB:=hn.alloc i b hb;simp only [Bool.or_eq_true,c7,decide_eq_true_eq] at fm;cases kb:I5 st1 b.op with
 |true =>
  have hu:AI a=true/\i ∈ a.cD:=by
   rcases fm with (((((h|h)|h)|h)|h)|h)|h
   .rcases h.2 with h2|h2
    .rw [gD h2] at kb;cases kb
    .exact ⟨h.1,h2⟩
   .rw [gD h.1] at kb;cases kb
   .rw [bP h.2] at kb;cases kb
   .rw [jy h.1.2] at kb;cases kb
   .rw [bP h.1.2] at kb;cases kb
   .rw [mh h.2] at kb;cases kb
   .rw [bP (wF h.2).1] at kb;cases kb
  obtain ⟨sz,UT,ob,x,y,s,id,z,lo,n,jd,o,hop,hmv,hd,hg,hx,hT,hne⟩:=IM (PI kb0 kb ha hu.2);obtain ⟨v,e0,_⟩:=Gk hu.1 sa;have hT0:st.T[s]? =some (.ptr jd o):=by rw [e0] at hT;exact hT
  rw [uD hmv hd hg hT0] at sa;obtain ⟨rfl,rfl⟩:put st j (.ptr jd o)=st1/\[]=rsa:=by simpa using sa
  have hx0:J2 st.T st.L x= .B4 id z lo n:=by rw [<- W0 u1 x (by simp [hop,x9.T1])];exact hx
  rw [jC hji u1 (by rw [hop];exact IP hx0 hne)] at sb;cases Iq:z6 E l5 (W6 i) i b st with
  |none=>rw [Iq] at sb;cases sb
  |some p =>
   obtain ⟨s',rs'⟩:=p;rw [Iq] at sb;simp only [M7,Option.some.injEq,Prod.mk.injEq] at sb;obtain ⟨rfl,rfl⟩:=sb;have hTs:=IE hop hx0 Iq (fun e=>t1' s e (by simp [gA,hmv,x9.T1,y5.slots])) hT0 hne;refine ⟨s',⟨b,hb,bT.2 ⟨?_,rs',Iq,?_⟩⟩,a,ha,bT.2 ⟨by rw [gD hu.1];rfl,[],uD hmv hd hg hTs,?_⟩⟩
   .rw [<- kb0,ia (W0 u1)]
    simp only [AA (W0 u1) (show (put st j (.ptr jd o)).T=st.T from rfl)]
   .rw [lb];exact mJ rfl rfl (gL (W0 u1) rfl)
   .rw [la];exact (eP (by simp [put]) (by rw [eE hu.1,eE hu.1])).symm
 |false =>
 cases ka:I5 st a.op with
 |true =>
  have hu:AI b=true/\j ∈ b.cD:=by
   rcases fm with (((((h|h)|h)|h)|h)|h)|h
   .rw [gD h.1] at ka;cases ka
   .exact ⟨h.1,h.2⟩
   .rw [bP h.1] at ka;cases ka
   .rw [bP h.1.1] at ka;cases ka
   .rw [jy h.1.1] at ka;cases ka
   .rw [bP (wF h.1).1] at ka;cases ka
   .rw [mh h.1] at ka;cases ka
  obtain ⟨sz,UT,ob,x,y,s,id,z,lo,n,jd,o,hop,hmv,hd,hg,hx,hT,hne⟩:=IM (PI ka0 ka hb hu.2);have hT1:=IE hop hx sa (fun e=>t2' s e (by simp [gA,hmv,x9.T1,y5.slots])) hT hne;rw [uD hmv hd hg hT1] at sb;obtain ⟨rfl,rfl⟩:put st1 i (.ptr jd o)=st2/\[]=rsb:=by simpa using sb
  refine ⟨put st i (.ptr jd o),⟨b,hb,bT.2 ⟨by rw [gD hu.1];rfl,[],uD hmv hd hg hT,?_⟩⟩,a,ha,bT.2 ⟨?_,rsa,?_,?_⟩⟩
  .rw [lb];exact eP (by simp [put]) (by rw [eE hu.1,eE hu.1])
  .rw [<- ka0,ia (W0 u2)]
   simp only [AA (W0 u2) (show (put st i (.ptr jd o)).T=st.T from rfl)]
  .rw [jC (fun e=>hji e.symm) u2 (by rw [hop];exact IP hx hne),sa]
   rfl
  .rw [la];exact (mJ (s:=st) (s2:=put st i (.ptr jd o)) (s' :=st1) (s2' :=put st1 i (.ptr jd o)) rfl rfl (gL (W0 u2) rfl)).symm
 |false =>
 obtain ⟨da,stA⟩:=Still.z6 ka WA sa;have aC1:rI a=true->(sX b=true\/Dy b=true)->(a.op.makes=true->sX b=true/\i ∈ a.cD)->∃ KW,OM E l5 W6 lg i st KW /\OM E l5 W6 lg j KW st2:=by
  intro Uz hCD VQ;have hkb:∀ s,I5 s b.op=false:=fun s=>hCD.elim (fun h=>jy h s) (fun h=>mh h s)
  have ya:=gC Uz;rw [ya] at WA;obtain ⟨n,hn1⟩:=Option.isSome_iff_exists.1 WA;rw [hn1] at sa;obtain ⟨rfl,f,hf,hf0,rfl,Ta⟩:=Gj Uz sa;obtain ⟨hs1,hs2⟩:z6 E l5 (W6 i) i b (f st)=(z6 E l5 (W6 i) i b st).map (fun p=>(f p.1,p.2))/\L5 E (f st) b.op=L5 E st b.op:=by
   cases hmk:a.op.makes with
   |true =>
    have ad4:L5 E (f st) b.op<=n:=by
     have:=(hlg j a i ha (VQ hmk).2).2 hmk;rw [lb,la] at this;simpa [eO,hn1] using this
    have aS1:=SF hf u1 t2' ad4;exact aN1 (E:=E) (l5:=l5) (z7:=W6 i) hf (VQ hmk).1 hji u1 t2' t3 (hin j n hn1) (by rw [aS1];exact ad4)
   |false=>exact al7 (hf0 hmk) hCD hji u1 t2' t3
  rw [hs1] at sb;cases Iq:z6 E l5 (W6 i) i b st with
  |none=>rw [Iq] at sb;cases sb
  |some p =>
   obtain ⟨s',rs'⟩:=p;rw [Iq] at sb;simp only [M7,Option.some.injEq,Prod.mk.injEq] at sb;obtain ⟨rfl,rfl⟩:=sb;obtain ⟨db,stB⟩:=Still.z6 (hkb st) zB Iq;refine ⟨s',⟨b,hb,dP ⟨hkb _,rs',Iq,?_⟩⟩,a,ha,dP ⟨bP Uz _,[],?_,?_⟩⟩
   .rw [lb]
    exact mJ (hf.p7 _) (hf.p7 _) hs2
   .rw [hn1]
    exact Ta s' (stB.Hx u2 t1') (stB.rH u2) ⟨stB.W5,stB.jS,fun s hs=>stB.marked tQ j a s ha ya hs⟩
   .rw [la]
    refine eP ?_ ?_
    .simp [hf.p7]
    .rw [eD Uz,eD Uz]
 have aC2:rI b=true->(sX a=true\/Dy a=true)->(b.op.makes=true->sX a=true/\j ∈ b.cD)->∃ KW,OM E l5 W6 lg i st KW /\OM E l5 W6 lg j KW st2:=by
  intro UA hCD VQ;have hka:∀ s,I5 s a.op=false:=fun s=>hCD.elim (fun h=>jy h s) (fun h=>mh h s)
  have ya:=gC UA;rw [ya] at zB;obtain ⟨m,Pv⟩:=Option.isSome_iff_exists.1 zB;rw [Pv] at sb;obtain ⟨rfl,g,hg,hg0,rfl,Tb⟩:=Gj UA sb;obtain ⟨hs1,hs2⟩:z6 E l5 (W6 j) j a (g st)=(z6 E l5 (W6 j) j a st).map (fun p=>(g p.1,p.2))/\L5 E (g st) a.op=L5 E st a.op:=by
   cases hmk:b.op.makes with
   |true =>
    have ad4:L5 E st a.op<=m:=by
     have:=(hlg i b j hb (VQ hmk).2).2 hmk;rw [lb,la] at this;simpa [eO,Pv] using this
    exact aN1 (E:=E) (l5:=l5) (z7:=W6 j) hg (VQ hmk).1 (fun e=>hji e.symm) u2 t1' t4 (hin i m Pv) ad4
   |false=>exact al7 (hg0 hmk) hCD (fun e=>hji e.symm) u2 t1' t4
  have sb0:z6 E l5 (some m) i b st=some (g st,[]) :=
   Tb st (fun x hx=>(stA.Hx u1 t2' x hx).symm) (stA.rH u1).symm ⟨stA.W5.symm,stA.jS.symm,fun s hs=>tQ i b s hb ya hs⟩
  refine ⟨g st,⟨b,hb,dP ⟨bP UA _,[],by rw [Pv];exact sb0,?_⟩⟩,a,ha,dP ⟨hka _,rsa,?_,?_⟩⟩
  .rw [lb]
   refine eP ?_ ?_
   .simp [hg.p7]
   .rw [eD UA,eD UA]
  .rw [hs1,sa];rfl
  .rw [la]
   exact (mJ (hg.p7 _) (hg.p7 _) hs2).symm
 rcases fm with (((((fm|fm)|fm)|fm)|fm)|fm)|fm
 ·
  obtain ⟨hPa,fm⟩:=fm;obtain ⟨v,rfl,Ta⟩:=Gk hPa sa;have kb' :I5 st b.op=false:=by rw [<- ia (W0 u1)];exact kb
  have hs:=jC (E:=E) (z7:=W6 i) (v:=v) hji u1 (.of kb');rw [hs] at sb;cases Iq:z6 E l5 (W6 i) i b st with
  |none=>rw [Iq] at sb;cases sb
  |some p =>
   obtain ⟨s',rs'⟩:=p;rw [Iq] at sb;simp only [M7,Option.some.injEq,Prod.mk.injEq] at sb;obtain ⟨rfl,rfl⟩:=sb;have lb' :lg i=eO E b (W6 i) st s' rs' :=by rw [lb];exact mJ rfl rfl (gL (W0 u1) rfl)
   obtain ⟨db,stB⟩:=Still.z6 kb' zB Iq;refine ⟨s',⟨b,hb,dP ⟨kb',rs',Iq,lb'⟩⟩,a,ha,dP ⟨gD hPa _,rsa,?_,?_⟩⟩
   .refine Ta s' (stB.Hx u2 t1') (stB.rH u2) fun id hid=> ?_
    rcases fm with hPb|hun
    .obtain ⟨u,rfl,_⟩:=Gk hPb Iq
     exact U2.refl _
    .have:=(hlg j a i ha hun).1
     rw [lb',la] at this;exact stB.reads (E:=E) (i:=b) (rs:=rs') this hid
   .rw [la]
    refine (eP ?_ ?_).symm
    .simp [put]
    .rw [eE hPa,eE hPa]
 ·
  obtain ⟨hPb,hun⟩:=fm;obtain ⟨v,rfl,Tb⟩:=Gk hPb sb;have sb0:z6 E l5 (W6 i) i b st=some (put st i v,rsb):=by
   refine Tb st (fun x hx=>(stA.Hx u1 t2' x hx).symm) (stA.rH u1).symm fun id hid=> ?_
   have:=(hlg i b j hb hun).1;rw [la,lb] at this;exact (stA.reads (E:=E) (i:=a) (rs:=rsa) this hid).symm
  refine ⟨put st i v,⟨b,hb,dP ⟨gD hPb _,rsb,sb0,?_⟩⟩,a,ha,dP ⟨by rw [ia (W0 u2)];exact ka,rsa,?_,?_⟩⟩
  .rw [lb]
   refine (eP ?_ ?_)
   .simp [put]
   .rw [eE hPb,eE hPb]
  .rw [jC (fun e=>hji e.symm) u2 (.of ka),sa]
   rfl
  .rw [la]
   exact (mJ (s:=st) (s2:=put st i v) (s' :=st1) (s2' :=put st1 i v) rfl rfl (gL (W0 u2) rfl)).symm
 ·
  obtain ⟨Uz,UA⟩:=fm;rw [gC Uz] at WA;rw [gC UA] at zB;obtain ⟨n,hn1⟩:=Option.isSome_iff_exists.1 WA;obtain ⟨m,Pv⟩:=Option.isSome_iff_exists.1 zB;rw [hn1] at sa;rw [Pv] at sb;obtain ⟨rfl,f,hf,hf0,rfl,Ta⟩:=Gj Uz sa;obtain ⟨rfl,g,hg,hg0,rfl,Tb⟩:=Gj UA sb;have hnm:n≠m:=by
   rintro rfl;exact hji (hn.inj j i n hn1 Pv)
  have ut:∀ {c:o9} {x:y5} {t:Nat},x ∈ c.op.T1->t ∉ gA c->t ∉ x.slots:=by
   intro c x t hx ht h;apply ht;unfold gA;exact List.mem_flatMap.2 ⟨x,hx,h⟩
  have sb0:z6 E l5 (some m) i b st=some (g st,[]) :=
   Tb st (fun x hx=>(hf.J2 (R5 hx u1) (fun t ht=>ut hx (t2' t ht)) st).symm) (hf.wanted (fun _ _ h=>ec h u1) st).symm ⟨(hf.W5 st).symm,(hf.jS st).symm,fun s hs=>tQ i b s hb (gC UA) hs⟩
  have sa0:z6 E l5 (some n) j a (g st)=some (f (g st),[]) :=
   Ta (g st) (fun x hx=>hg.J2 (R5 hx u2) (fun t ht=>ut hx (t1' t ht)) st) (hg.wanted (fun _ _ h=>ec h u2) st) ⟨hg.W5 st,hg.jS st,fun s hs=>by rw [hg.p7];exact tQ j a s ha (gC Uz) hs⟩
  refine ⟨g st,⟨b,hb,dP ⟨bP UA _,[],by rw [Pv];exact sb0,?_⟩⟩,a,ha,dP ⟨bP Uz _,[],by rw [hn1,sa0,hf.comm hg hji hnm t3],?_⟩⟩
  .rw [lb]
   refine eP ?_ ?_
   .simp [hf.p7,hg.p7]
   .rw [eD UA,eD UA]
  .rw [la]
   refine (eP ?_ ?_)
   .simp [hf.p7,hg.p7]
   .rw [eD Uz,eD Uz]
 .exact aC1 fm.1.1 (.inl fm.1.2) fun _=>⟨fm.1.2,fm.2⟩
 .exact aC2 fm.1.2 (.inl fm.1.1) fun _=>⟨fm.1.1,fm.2⟩
 .exact aC1 (wF fm.1).1 (.inr fm.2) fun h=>by rw [(wF fm.1).2] at h;cases h
 .exact aC2 (wF fm.2).1 (.inr fm.1) fun h=>by rw [(wF fm.2).2] at h;cases h
end
end Go.A2
namespace Go.A2
variable [C9]
inductive tV (E:Env) (l5:List o9) (W6:Nat->Option Nat) (lg:Nat->lZ):List Nat->H6->H6->Prop where
 |nil (st:H6):tV E l5 W6 lg [] st st
 |cons {k:Nat} {ks:List Nat} {st st1 st2:H6}:OM E l5 W6 lg k st st1->tV E l5 W6 lg ks st1 st2->tV E l5 W6 lg (k::ks) st st2
section
variable {E:Env} {l5:List o9} {W6:Nat->Option Nat} {lg:Nat->lZ} {st st1 st2 fin:H6}
theorem OM.len (hn:SJ l5 W6){k:Nat}(h:OM E l5 W6 lg k st st1):st.H.length<=st1.H.length:=by
 obtain ⟨i,hi,h⟩:=h;obtain ⟨hk,rs,hs,_⟩:=bT.1 h;exact (xz (hn.alloc k i hi) hs).1
def OM.marked (hn:SJ l5 W6){k:Nat}(h:OM E l5 W6 lg k st st1)(hm:jE l5 st):jE l5 st1:=by
 obtain ⟨i,hi,h⟩:=h;obtain ⟨hk,rs,hs,_⟩:=bT.1 h;exact hm.ext (xz (hn.alloc k i hi) hs).2
theorem tV.front (hn:SJ l5 W6)(hlg:OL l5 lg){i:Nat}{b:o9}(hb:l5[i]? =some b){rest:List Nat} :
  ∀ (js:List Nat) (st:H6),(∀ j,j ∈ js->j≠i/\∃ a,l5[j]? =some a/\Ho l5 j a i b=true)->(∀ k n,W6 k=some n->n<st.H.length)->jE l5 st->tV E l5 W6 lg (js++i::rest) st fin ->
   ∃ st',OM E l5 W6 lg i st st' /\tV E l5 W6 lg (js++rest) st' fin
 |[],st,_,_,_,h=>by
  cases h with
  |cons h1 h2=>grind
 |j::js,st,hj,hin,tQ,h=>by
  cases h with
  |cons h1 h2 =>
   obtain ⟨s2,g1,g2⟩:=tV.front hn hlg hb js _ (fun j' hj' =>hj j' (by simp [hj'])) (fun k n hk=>Nat.lt_of_lt_of_le (hin k n hk) (h1.len hn)) (h1.marked hn tQ) h2;obtain ⟨hne,a,ha,hp⟩:=hj j (by simp);obtain ⟨s1,e1,e2⟩:=swap hn hlg hp ha hb hne hin tQ h1 g1;exact ⟨s1,e1,tV.cons e2 g2⟩
end
def direct (o:Oper):List Nat:=(o.after.toList.filter (Region.binds .any)).map (·.on)
def MS:List Oper->List (List Nat)->List (List Nat)
 |[],acc=>acc
 |o::os,acc=>MS os (acc++[((direct o).flatMap fun e=>e::acc.getD e []).eraseDups])
def Kl (ny:List (List Nat))(k:Nat)(o:Oper):Bool :=
 (ny.getD k []).all fun j=>(direct o).contains j||(direct o).any fun e=>(ny.getD e []).contains j
def AF (l5:List o9)(ny:List (List Nat))(i:Nat)(b:o9):Bool :=
 (List.range i).all fun j=>(ny.getD i []).contains j||(match l5[j]? with
  |some a=>Ho l5 j a i b
  |none=>false)
def oV (X:Cx)(l5:List o9)(ny:List (List Nat)):List o9->Nat->Bool
 |[],k=>X.ops.size==k
 |i::is,k=>(match X.ops[k]? with
  |some o=>Kl ny k o&&(direct o).all (fun e=>decide (e<k))&&sW X (fun j=>(ny.getD k []).contains j) o i&&AF l5 ny k i
  |none=>false)&&oV X l5 ny is (k+1)
theorem AD {X:Cx}{l5:List o9}{ny:List (List Nat)}:∀ (is:List o9) (k:Nat),l5.drop k=is->oV X l5 ny is k=true->∀ (m:Nat) b,k<=m->l5[m]? =some b ->
  ∃ o,X.ops[m]? =some o/\Kl ny m o=true/\(∀ e,e ∈ direct o->e<m)/\sW X (fun j=>(ny.getD m []).contains j) o b=true/\AF l5 ny m b=true
 |[],k,hd,_,m,b,hkm,hb=>by
  simp_all [List.length]<;>grind
 |i::is,k,hd,h,m,b,hkm,hb=>by
  simp only [oV,c7] at h
  by_cases e:m=k
  .subst e
   have hi:l5[m]? =some i:=by
    have:(l5.drop m)[0]? =some i:=by rw [hd];rfl
    grind
   grind
  .have hd' :l5.drop (k+1)=is:=by
    have:=congrArg (List.drop 1) hd
    grind [List.drop_drop]
   exact AD is (k+1) hd' h.2 m b (by omega) hb
theorem oW {X:Cx}{l5:List o9}{ny:List (List Nat)}:∀ (is:List o9) (k:Nat),oV X l5 ny is k=true->X.ops.size=k+is.length
 |[],k,h=>by grind [oV]
 |i::is,k,h=>by
  simp [oV,c7] at h;have:=oW is (k+1) h.2
  grind
def UG (X:Cx)(S:Nat->Prop):Prop:=∀ (k:Nat) o,S k->X.ops[k]? =some o->∀ e,e ∈ direct o->S e
def MT {X:Cx}{ny:List (List Nat)}{S:Nat->Prop}(hc:UG X S)(hok:∀ (k:Nat) o,X.ops[k]? =some o->Kl ny k o=true/\∀ e,e ∈ direct o->e<k)(hout:∀ k,X.ops.size<=k->ny.getD k []=[]) :
  ∀ (n k:Nat),k<=n->∀ o,X.ops[k]? =some o->(∀ e,e ∈ direct o->S e)->∀ j,j ∈ ny.getD k []->S j:=by
 intro n
 induction n with
 |zero =>
  grind [Kl]
 |succ n ih =>
  intro k hk o ho hd j hj;obtain ⟨h1,h2⟩:=hok k o ho;have:=Q2.1 h1 j hj;simp [Bool.or_eq_true,List.contains_eq_mem,decide_eq_true_eq,List.any_eq_true] at this
  rcases this with h|⟨e,he,hej⟩
  .exact hd j h
  .have hlt:=h2 e he
   cases hoe:X.ops[e]? with
   |none =>
    simp_all
   |some oe=>exact ih e (by omega) oe hoe (hc e oe (hd e he) hoe) j hej
def dO (n:Nat)(listed:Array Bool):List Nat:=(List.range n).filter fun j=> !listed.getD j false
def KF {n i:Nat}{listed:Array Bool}(hi:i<n)(hu:listed.getD i false=false)(hs:listed.size=n) :
  ∃ js rest,dO n listed=js++i::rest/\dO n (listed.setIfInBounds i true)=js++rest/\∀ j,j ∈ js->j<i/\listed.getD j false=false:=by
 refine ⟨(List.range i).filter fun j=> !listed.getD j false,(List.range' (i+1) (n - i - 1)).filter fun j=> !listed.getD j false,?_,?_,?_⟩
 .unfold dO
  have:List.range n=List.range i++i::List.range' (i+1) (n - i - 1):=by
   have h:=List.range'_append_1 (s:=0) (m:=i) (n:=n - i - 1+1)
   grind [List.range_eq_range',List.range'_succ]
  simp_all
 .unfold dO
  have:List.range n=List.range i++i::List.range' (i+1) (n - i - 1):=by
   have h:=List.range'_append_1 (s:=0) (m:=i) (n:=n - i - 1+1)
   grind [List.range_eq_range',List.range'_succ]
  rw [this,List.filter_append,List.filter_cons];have e1:(!(listed.setIfInBounds i true).getD i false)=false:=by simp [hs,hi]
  rw [e1]
  congr 1
  .refine List.filter_congr fun j hj=> ?_
   simp_all<;>grind
  .refine List.filter_congr fun j hj=> ?_
   simp_all<;>grind
 simp_all
section
variable {X:Cx} {l5:List o9} {E:Env} {nt:Nat} {W6:Nat->Option Nat} {lg:Nat->lZ} {fin:H6} {ny:List (List Nat)}
def SL (hst:Stat X nt)(Pt:oQ X.P E.cf E.prom)(gv:∀ f args H lm r,E.cf f args H lm=some r->T6 X.P f=true)(hs:E.lim.strict<=E.lim.base)(hbe:E.lim.base<=E.entry)(Q:Exit->Act->World->Prop)
  (Jw:oV X l5 ny l5 0=true) (hout:∀ k,X.ops.size<=k->ny.getD k []=[]) (hn:SJ l5 W6) (hne:∀ k n,W6 k=some n->E.entry<=n) (hlg:OL l5 lg) :
  ∀ (fuel:Nat) (listed:Array Bool) (st:H6) (a:Act) (w:World) (G:Gh) (I:S7) (N:Nat->Prop),Rg X l5 E nt (fun j=>listed.getD j false=true) st a w G I N->listed.size=l5.length->UG X (fun j=>listed.getD j false=true) ->
   (∀ k n,W6 k=some n->n<st.H.length)->jE l5 st->(∀ k n,W6 k=some n->listed.getD k false=false->¬ N n)->tV E l5 W6 lg (dO l5.length listed) st fin->(dO l5.length listed).length<=fuel ->
   (∀ a' w' G' I' N',Fin X l5 E nt st w G I N fin a' w' G' I' N' ->Q .normal a' w')->wpAny X.P .any X.ops Q fuel listed a w:=by
 have hsize:X.ops.size=l5.length:=by grind [oW]
 have Jy:=fun (m:Nat) b hb=>AD l5 0 (by simp) Jw m b (Nat.zero_le _) hb
 have VU:∀ (k:Nat) o,X.ops[k]? =some o->Kl ny k o=true/\∀ e,e ∈ direct o->e<k:=by
  intro k o ho;have hk:k<l5.length:=by
   grind
  obtain ⟨o',h1,h2,h3,_⟩:=Jy k l5[k] (n9 hk);simp_all
 have hdone:∀ (listed:Array Bool),listed.size=l5.length->Region.ready .any X.ops listed=[]->dO l5.length listed=[]:=by
  intro listed hls hr;cases VW:dO l5.length listed with
  |nil=>rfl
  |cons i rest =>
   exfalso;have hi:i<l5.length/\listed.getD i false=false/\∀ j,j<i->listed.getD j false=true:=by
    have hm:i ∈ dO l5.length listed:=by simp_all
    unfold dO at hm;simp only [List.mem_filter,List.mem_range,o7] at hm;refine ⟨hm.1,hm.2,fun j hj=> ?_⟩;cases hlj:listed.getD j false with
    |true=>rfl
    |false =>
     have hjm:j ∈ dO l5.length listed:=by
      grind [dO,o7]
     have bh7:(dO l5.length listed).Pairwise (·<·):=List.Pairwise.filter _ List.pairwise_lt_range
     grind [List.pairwise_cons]
   obtain ⟨o,ho,_,hlt,_⟩:=Jy i l5[i] (n9 hi.1);have:i ∈ Region.ready .any X.ops listed:=by
    grind [mem_ready,direct]
   simp_all
 have hend:∀ (listed:Array Bool) (st:H6) (a:Act) (w:World) (G:Gh) (I:S7) (N:Nat->Prop),Rg X l5 E nt (fun j=>listed.getD j false=true) st a w G I N->listed.size=l5.length->tV E l5 W6 lg (dO l5.length listed) st fin->dO l5.length listed=[] ->
   Fin X l5 E nt st w G I N fin a w G I N:=by
  intro listed st a w G I N hR hls hrun VW;rw [VW] at hrun;cases hrun;refine ⟨hR.congr fun j=> ?_,aM.refl _ _ _ _ _ _⟩;constructor
  .grind
  simp_all [dO,List.mem_filter,List.mem_range,o7]
 intro fuel
 induction fuel with
 |zero =>
  intro listed st a w G I N hR hls hcl hin tQ hfr hrun hfl hQ;have VW:dO l5.length listed=[]:=List.length_eq_zero_iff.1 (by omega);refine ⟨?_,hQ _ _ _ _ _ (hend listed st a w G I N hR hls hrun VW)⟩;cases hr:Region.ready .any X.ops listed with
  |nil=>rfl
  |cons i rest =>
   exfalso;have:i ∈ Region.ready .any X.ops listed:=by rw [hr];simp
   obtain ⟨h0,o,ho,_⟩:=mem_ready.1 this;have hi:i<l5.length:=by grind
   have DG:i<listed.size:=by omega
   have:i ∈ dO l5.length listed:=by
    grind [dO,o7]
   grind
 |succ fuel ih =>
  intro listed st a w G I N hR hls hcl hin tQ hfr hrun hfl hQ;refine ⟨fun hr=>hQ _ _ _ _ _ (hend listed st a w G I N hR hls hrun (hdone listed hls hr)),fun i hi=> ?_⟩;obtain ⟨h0,o,ho,hall⟩:=mem_ready.1 hi;have hia:i<l5.length:=by grind
  have DG:i<listed.size:=by omega
  have hun:listed.getD i false=false:=by
   grind
  obtain ⟨b,hb⟩:∃ b,l5[i]? =some b:=⟨_,n9 hia⟩;obtain ⟨o',ho',hoa,hlt,hci,lD⟩:=Jy i b hb;rw [ho] at ho';cases ho';have bw1:∀ e,e ∈ direct o->listed.getD e false=true:=by
   grind [direct]
  have bv5:=MT hcl VU hout i i (n5 _) o ho bw1;obtain ⟨js,rest,hr1,hr2,hjs⟩:=KF hia hun hls;rw [hr1] at hrun;obtain ⟨st1,by3,bO1⟩:=tV.front hn hlg hb js st (fun j hj=>by
   obtain ⟨hji,hju⟩:=hjs j hj
   grind [AF]) hin tQ hrun
  obtain ⟨b',hb',hD⟩:=by3;rw [hb] at hb';cases hb';obtain ⟨hk,rs,hstep,cd9⟩:=bT.1 hD;have hstill:=(xz (hn.alloc i b hb) hstep).2;refine yF hst Pt gv hs hbe hR (D:=fun j=>(ny.getD i []).contains j) (fun j hj=>bv5 j (by simpa using hj)) (by grind) ho hb hci (z7:=W6 i) (fun ya=> ?_) (fun n hni=>⟨hne i n hni,hin i n hni⟩) hstep _ _ ?_
  .have:=hn.alloc i b hb
   rw [ya] at this;obtain ⟨n,hni⟩:=Option.isSome_iff_exists.1 this;rw [hni];have h1:=hne i n hni;exact ⟨hfr i n hni hun,(fun m hm=>by grind),by grind [newId],by grind [newId]⟩
  .intro a' w' G' I' N' hdn
   have tr:∀ j,(listed.setIfInBounds i true).getD j false=true↔(listed.getD j false=true\/j=i):=by
    intro j
    by_cases e:j=i
    .subst e;simp [DG]
    .rw [Go.getD_set_ne false (fun h=>e h.symm)]
     simp [e]
   refine ih (listed.setIfInBounds i true) st1 a' w' G' I' N' (hdn.rg.congr fun j=>(tr j).symm) (by simp [hls]) ?_ (fun k n hk=>Nat.lt_of_lt_of_le (hin k n hk) hdn.len) (tQ.ext hstill) ?_ (by grind) ?_ ?_
   .intro k ok hk hok e he
    rw [tr] at hk ⊢
    rcases hk with hk|rfl
    .exact Or.inl (hcl k ok hk hok e he)
    grind
   .intro k n hk hku hN
    have bw6 :listed.getD k false=false/\k≠i:=by
     grind
    rcases hdn.old n (hin k n hk) hN with h|h
    .grind
    .exact bw6.2 (hn.inj k i n hk h)
   .grind
   .intro a'' w'' G'' I'' N'' hf
    exact hQ _ _ _ _ _ ⟨hf.rg,hdn.since.trans hf.since⟩
def rY (l5:List o9)(base:Nat)(k:Nat):Option Nat :=
 match l5[k]? with
 |some i=>if i.op.B6 then some (base+((l5.take k).filter (·.op.B6)).length) else none
 |none=>none
def af5 (l5:List o9)(base:Nat):SJ l5 (rY l5 base):=by
 refine ⟨fun k i hi=> ?_,fun j k n hj hk=> ?_⟩
 .grind [rY]
 .have key:∀ a b n,a<b->rY l5 base a=some n->rY l5 base b=some n->False:=by
   intro a b n hab ha hb;unfold rY at ha hb;split at ha
   .split at ha
    .split at hb
     .split at hb
      .have h1:((l5.take (a+1)).filter (·.op.B6)).length=((l5.take a).filter (·.op.B6)).length+1:=by
        simp_all [List.take_add_one,List.filter_append]
       grind [List.Sublist.length_le,List.Sublist.filter,List.take_sublist_take_left]
      .cases hb
     .cases hb
    .cases ha
   .cases ha
  grind
theorem yz {base:Nat}:∀ (is:List o9) (k:Nat) (na:Nat) (st st2:H6) (NN:List lZ) (lgf:Nat->lZ),l5.drop k=is->na=base+((l5.take k).filter (·.op.B6)).length->T3 E l5 is k na st=some (st2,NN) ->
  (∀ m,m<is.length->lgf (k+m)=NN.getD m ⟨[],[],0,0⟩)->NN.length=is.length/\tV E l5 (rY l5 base) lgf (List.range' k is.length) st st2
 |[],k,na,st,st2,NN,lgf,hd,hna,h,hl=>by
  cases h;exact ⟨rfl,tV.nil _⟩
 |i::is,k,na,st,st2,NN,lgf,hd,hna,h,hl=>by
  have hi:l5[k]? =some i:=by
   have:(l5.drop k)[0]? =some i:=by rw [hd];rfl
   grind
  have hd' :l5.drop (k+1)=is:=by
   have:=congrArg (List.drop 1) hd
   grind [List.drop_drop]
  simp [T3] at h;split at h
  .rename_i st1 l hstep
   split at h
   .rename_i st3 lg3 hrun
    cases h;have bx1 :(if i.op.B6=true then na+1 else na)=base+((l5.take (k+1)).filter (·.op.B6)).length:=by
     grind
    obtain ⟨g1,g2⟩:=yz is (k+1) _ st1 st2 lg3 lgf hd' bx1 hrun (fun m hm=>by
     simp_all<;>grind)
    refine ⟨by simp [g1],?_⟩;refine tV.cons ⟨i,hi,?_⟩ g2
    grind [rY]
   .cases h
  .cases h
def TJ {NN:List lZ}(hlen:NN.length=l5.length)(h:ym l5 NN=true):OL l5 (fun k=>NN.getD k ⟨[],[],0,0⟩):=by
 intro k i e hi he;unfold ym at h;have hk:=u7 hi;have hz:(i,NN.getD k ⟨[],[],0,0⟩) ∈ l5.zip NN:=by
  refine List.mem_of_getElem? (i:=k) ?_;simp_all
 grind
end
end Go.A2
namespace Go.A2
variable [C9]
structure Cd (P:Program)(names:List Tmp)(E:Env)(nt:Nat)(st:St)(a:Act)(w:World)(G:Gh)(I:S7)(N:Nat->Prop):Prop where
 T:∀ (s:Nat) t,names[s]? =some t->VR G I N w (.slot s) (st.T.getD s .any) (a.tmps.getD t undef)
 H:HR G I N w st.H
 wf:WF G w
 W4:SG E.lim st.H
 W5:st.T.length=names.length
 bI:∀ id,N id->id<st.H.length
 GF:E.entry<=st.H.length
 size:a.tmps.size=nt
 idle:∀ d,d ∈ a.defers->Iy P E.idle d
def tc (names:List Tmp):List (Option Tmp)->Bool
 |[]=>true
 |none::r=>tc names r
 |some d::r=>(names.contains d|| !r.contains (some d))&&tc names r
def kG:List Tmp->Bool
 |[]=>true
 |x::xs=> !xs.contains x&&kG xs
theorem rX:∀ (l:List Tmp),kG l=true->∀ (s s' :Nat) t,l[s]? =some t->l[s']? =some t->s=s'
 |[],_,s,s',t,h,_=>by simp at h
 |x::xs,hok,s,s',t,h,h' =>by
  simp [kG,c7,List.contains_eq_mem] at hok;cases s with
  |zero =>
   grind
  |succ s =>
   cases s' with
   |zero =>
    grind
   |succ s' =>rw [rX xs hok.2 s s' t (by simpa using h) (by simp_all)]
theorem ur (names:List Tmp):∀ (l:List (Option Tmp)),tc names l=true->∀ (i j:Nat) d,l[i]? =some (some d)->l[j]? =some (some d)->names.contains d=false->i=j
 |[],_,i,j,d,h,_,_=>by simp at h
 |x::xs,hok,i,j,d,h,h',hn=>by
  have uA:tc names xs=true:=by
   cases x with
   |none=>exact hok
   |some d' =>simp_all [tc,c7]
  have hnot:x=some d->some d ∉ xs:=by
   grind [tc,absurd]
  cases i with
  |zero =>
   grind
  |succ i =>
   cases j with
   |zero =>
    grind
   |succ j=>rw [ur names xs uA i j d (by simpa using h) (by simp_all) hn]
def eC (P:Program)(names:List Tmp)(nt:Nat)(ops:Array Oper)(l5:List o9)(draw:Bool):Bool :=
 tc names (ops.toList.map (·.dst))&&(ops.toList.all fun o=>match o.dst with|some d=>decide (d<nt)|none=>true) &&
 (if draw then
   let ny:=MS ops.toList []
   decide (ny.length<=ops.size)&&oV ⟨P,names,ops⟩ l5 ny l5 0&&P.follows .mixedOrders
  else nF ⟨P,names,ops⟩ l5 0)
def ak0 {P:Program}{names:List Tmp}{nt:Nat}{ops:Array Oper}{l5:List o9}{draw:Bool}(hn:kG names=true)(h:eC P names nt ops l5 draw=true):Stat ⟨P,names,ops⟩ nt:=by
 simp [eC,c7] at h;obtain ⟨⟨h1,h2⟩,_⟩:=h;have get:∀ (i:Nat) d,(ops[i]?).bind (·.dst)=some d->(ops.toList.map (·.dst))[i]? =some (some d):=by
  simp_all<;>grind
 refine ⟨fun i j d hi hj hc=>ur names _ h1 i j d (get i d hi) (get j d hj) hc,fun i d hd=> ?_,fun s s' t=>rX names hn s s' t⟩
 grind
section
variable {P:Program} {names:List Tmp} {E:Env} {nt:Nat} {st:St} {a:Act} {w:World} {G:Gh} {I:S7} {N:Nat->Prop} {ops:Array Oper} {l5:List o9}
def Cd.start (h:Cd P names E nt st a w G I N)(X:Cx)(hX:X=⟨P,names,ops⟩){S:Nat->Prop}(hS:∀ j,¬ S j){H' :p9}(ext:p9)(hH:H' =st.H++ext)(aQ1:∀ o,o ∈ ext->o= .dead){L:List c8}(hL:L.length=l5.length)(p7:List Touch) :
  Rg X l5 E nt S ⟨st.T,H',L,p7⟩ a w G I N:=by
 subst hX;subst hH;have get:∀ (id:Nat) o,(st.H++ext)[id]? =some o->st.H[id]? =some o\/o= .dead:=by
  intro id o ho
  rcases A5 id st.H.length with hlt|hge
  .grind
  .rw [u9 hge] at ho
   exact Or.inr (aQ1 o (List.mem_of_getElem? ho))
 refine ⟨⟨h.T,fun j hj=>absurd hj (hS j),fun id o ho=> ?_,h.wf,fun id o ho=> ?_⟩,⟨fun j _ _ _ _ hj=>absurd hj (hS j),fun j _ _ _ _ _ _ hj=>absurd hj (hS j)⟩,fun j _ _ hj=>absurd hj (hS j),h.W5,hL,fun id hid=> ?_,?_,h.size,h.idle⟩
 .rcases get id o ho with h1|rfl
  .exact h.H id o h1
  .simp [OR]
 .rcases get id o ho with h1|rfl
  .exact h.W4 id o h1
  .simp [A1.O5]
 .have:=h.bI id hid;simp;omega
 .have:=h.GF;simp;omega
theorem Cd.drew (h:Cd P names E nt st a w G I N)(n:Nat)(hn:w.drawn<=n):Cd P names E nt st a { w with drawn:=n } G I N/\aM E st.H w G I N st.H { w with drawn:=n } G I N:=by
 have hx:Ext G w G { w with drawn:=n }:=(Ext.refl G w).drew n hn;have hk:∀ pl,bZ pl G w G { w with drawn:=n }:=fun _ _ _ h=>⟨h,rfl⟩
 refine ⟨⟨fun s t ht=>VR.mono hx (fun _ _=>rfl) (fun _ h=>h) _ _ _ (Or.inr (hk _)) (h.T s t ht),fun id o ho=>OR.mono (w:=w) hx.sub (fun _ _=>rfl) (fun _ h=>h) id o (fun h=>⟨h,rfl⟩) (fun _=>hk _) (h.H id o ho),h.wf,h.W4,h.W5,h.bI,h.GF,h.size,h.idle⟩,?_⟩;exact ⟨hx,fun id _=>⟨fun _ h=>⟨h,rfl⟩,fun _=>hk _⟩,fun _ _ _=>rfl,fun _ _ h=>h,fun _ _ h=>h,fun _ o _ h=>Or.inr ⟨o,h,n5 _⟩⟩
def Cd.done {X:Cx}(hX:X=⟨P,names,ops⟩){S:Nat->Prop}{r:H6}(h:Rg X l5 E nt S r a w G I N):Cd P names E nt ⟨r.T,r.H⟩ a w G I N:=by
 subst hX;exact ⟨h.ri.T,h.ri.H,h.ri.wf,h.ri.W4,h.W5,h.bI,h.GF,h.size,h.idle⟩
structure OH (P:Program)(E:Env):Prop where
 cf:oQ P E.cf E.prom
 can:∀ f args H lm r,E.cf f args H lm=some r->T6 P f=true
 strict:E.lim.strict<=E.lim.base
 base:E.lim.base<=E.entry
def aM.wL {H0 ext H:p9}{w0 w:World}{G0 G:Gh}{I0 I:S7}{N0 N:Nat->Prop}(hb:E.lim.base<=H0.length)(h:aM E (H0++ext) w0 G0 I0 N0 H w G I N):aM E H0 w0 G0 I0 N0 H w G I N:=by
 refine ⟨h.ext,h.fu,h.inj,h.mono,h.old,fun id o' hid ho=> ?_⟩
 rcases h.hle id o' hid ho with h1|⟨o,h1,h2⟩
 all_goals grind
def uI (hE:OH P E)(hn:kG names=true){draw:Bool}(hc:eC P names nt ops l5 draw=true)(h:Cd P names E nt st a w G I N){r:H6}(hr:S2 E l5 draw st.T st.H=some r)(id:Nat)(Q:Exit->Act->World->Prop)
  (hQ:∀ a' w' G' I' N',Rg ⟨P,names,ops⟩ l5 E nt (fun j=>j<l5.length) r a' w' G' I' N' ->aM E st.H w G I N r.H w' G' I' N' ->Q .normal a' w'):(Code.region id ops draw).wp P Q a w:=by
 have hst:=ak0 hn hc;simp only [eC,c7] at hc;obtain ⟨_,hc⟩:=hc;unfold S2 at hr;cases draw with
 |false =>
  refine wp_region ?_;have hsz:ops.size=l5.length:=by
   have:∀ (is:List o9) (k:Nat),nF ⟨P,names,ops⟩ is k=true->ops.size=k+is.length:=by
    intro is
    induction is with
    |nil=>simp_all [nF]
    |cons i is ih =>
     grind [nF]
   grind
  rw [hsz,List.range_eq_range'];have hR:Rg ⟨P,names,ops⟩ l5 E nt (fun j=>j<0) ⟨st.T,st.H,c9 l5.length .any,[]⟩ a w G I N :=
   h.start _ rfl (fun j=>by simp) [] (by simp) (by simp) (by simp) []
  refine Hz (X:=⟨P,names,ops⟩) hst hE.cf hE.can hE.strict hE.base Q l5 0 (by simp) (by simp) hc _ a w G I N r hR hr ?_;intro a' w' G' I' N' hf;exact hQ a' w' G' I' N' hf.rg hf.since
 |true =>
  simp only [if_true,c7,decide_eq_true_eq] at hr hc;obtain ⟨⟨cf3,aP4⟩,bx0⟩:=hc;split at hr
  .rename_i r' NN hrun
   split at hr
   .rename_i hok
    cases hr;refine wp_region_any bx0 ?_;obtain ⟨h2,ay9⟩:=h.drew (w.drawn+1) (Nat.le_succ _);have hR:Rg ⟨P,names,ops⟩ l5 E nt (fun j=>(Array.replicate ops.size false).getD j false=true) ⟨st.T,st.H++aN l5,c9 l5.length .any,slotsOf l5⟩ a { w with drawn:=w.drawn+1 } G I N :=
     h2.start _ rfl (fun j=>by
      simp_all<;>grind) (aN l5) rfl (by
      simp_all [aN]) (by simp) (slotsOf l5)
    have aR1:jE l5 ⟨st.T,st.H++aN l5,c9 l5.length .any,slotsOf l5⟩:=by
     intro k i s hi ha hd;simp_all [Touch.U9,slotsOf]<;>grind
    have hsize:ops.size=l5.length:=by
     have:=oW (X:=⟨P,names,ops⟩) l5 0 aP4;simp_all
    obtain ⟨hlen,ca6⟩:=yz (base:=st.H.length) l5 0 st.H.length _ r NN (fun k=>NN.getD k ⟨[],[],0,0⟩) (by simp) (by simp) hrun (fun m _=>by simp);have VW:dO l5.length (Array.replicate ops.size false)=List.range' 0 l5.length:=by
     simp_all [dO,List.filter_eq_self,List.range_eq_range']
    have hlt:∀ k n,rY l5 st.H.length k=some n->st.H.length<=n/\n<(st.H++aN l5).length:=by
     intro k n hk;unfold rY at hk;split at hk
     .split at hk
      .have h1:((l5.take (k+1)).filter (·.op.B6)).length=((l5.take k).filter (·.op.B6)).length+1:=by
        simp_all [List.take_add_one,List.filter_append]
       grind [List.Sublist.length_le,List.Sublist.filter,List.take_sublist,aN]
      .cases hk
     .cases hk
    refine SL (X:=⟨P,names,ops⟩) (ny:=MS ops.toList []) (W6:=rY l5 st.H.length) (lg:=fun k=>NN.getD k ⟨[],[],0,0⟩) (fin:=r) hst hE.cf hE.can hE.strict hE.base Q aP4 (fun k hk=> ?_) (af5 l5 _) (fun k n hk=> ?_) (TJ hlen hok)
     ops.size (Array.replicate ops.size false) _ a _ G I N hR (by simp [hsize]) ?_ (fun k n hk=>(hlt k n hk).2) aR1 (fun k n hk _ hN=> ?_) (by simp_all) (by simp_all) ?_
    .grind
    .have:=(hlt k n hk).1;have:=h.GF;omega
    .intro k o hk
     simp_all<;>grind
    .have h1:=h.bI n hN;grind
    .intro a' w' G' I' N' hf
     have hb:E.lim.base<=st.H.length:=F9 hE.base h.GF;exact hQ a' w' G' I' N' hf.rg (ay9.trans (hf.since.wL hb))
   .cases hr
  .cases hr
end
end Go.A2
namespace Go.A2
variable [C9]
section
variable {P:Program} {names:List Tmp} {E:Env} {nt:Nat} {st st' :St} {a:Act} {w:World} {G:Gh} {I:S7} {N:Nat->Prop}
theorem yy:∀ (cs:List c8) (k i id sz lo len:Nat),eS cs k=some (i,id,sz,lo,len)->∃ j,i=k+j/\cs[j]? =some (.B4 id sz lo len)
 |[],_,_,_,_,_,_,h=>by simp [eS] at h
 |c::cs,k,i,id,sz,lo,len,h=>by
  cases c
  case B4 id' sz' lo' len' =>
   simp_all [eS,Option.some.injEq,Prod.mk.injEq]
  all_goals
   obtain ⟨j,h1,h2⟩:=yy cs (k+1) i id sz lo len (by simp_all [eS]);simp_all<;>grind
def Nk {pl:Place}{v:c8}{d:Data}{x:Value}(hd:v.data? =some d)(h:VR G I N w pl v x):DR G w d x:=by
 have h2:VR G I N w pl v.J3 x:=h.J3;cases v<;>simp [c8.data?] at hd<;>first|cases hd|skip
 all_goals simp_all [c8.J3,VR]
theorem Vm (b:Nat)(ay0:∀ o,jv G b o):∀ (vs:List c8) (xs:List Data) (o:Nat),O0 vs=some xs->(∀ j v,vs[j]? =some v->∃ u,w.cell? (ad b (o+j))=some u/\∀ d,v.data? =some d->DR G w d u)->fB G w b o xs
 |[],xs,o,h,_=>by simp_all [O0,fB]
 |v::vs,xs,o,h,hv=>by
  unfold O0 at h;cases hd:v.data? with
  |none=>simp_all
  |some d =>
   rw [hd] at h;cases hds:O0 vs with
   |none=>simp_all
   |some ds =>
    rw [hds] at h;cases h;obtain ⟨u,h1,h2⟩:=hv 0 v rfl;refine ⟨ay0 o,⟨u,by omega,h2 d hd⟩,Vm b ay0 vs ds (o+1) hds fun j v' hj=> ?_⟩;obtain ⟨u',g1,g2⟩:=hv (j+1) v' (by simp_all)
    grind
def VM (h:Cd P names E nt st a w G I N){s:Nat}(hr:uw E.lim E.entry s st=some st'):∃ G' N',Cd P names E nt st' a w G' I N' /\aM E st.H w G I N st'.H w G' I N' :=by
 unfold uw at hr;split at hr
 .rename_i b hT
  split at hr
  .rename_i cs hb
   split at hr
   .rename_i i id sz lo len bx8
    split at hr
    .rename_i vs hvs
     split at hr
     .rename_i xs hxs
      split at hr
      .rename_i dN
       cases hr;obtain ⟨hbase,Nx,hmay,hbb,hne⟩:=dN;obtain ⟨j,hj,hcj⟩:=yy cs 0 i id sz lo len bx8;obtain rfl:i=j:=by omega
       obtain ⟨old,hold,hlen,bz6⟩:∃ old,st.H[id]? =some (.cells old)/\lo+len * sz<=old.length/\vs=(old.drop lo).take (len * sz):=by
        grind [rd]
       have hO:=h.H id _ hold;simp only [OR] at hO;obtain ⟨hN,c,e,f,g1,g2,g3,g4,g5⟩:=hO;have hlt:(I id).1<w.heap.size:=by
        grind
       have ax9:=u7 hold;have hx:Ext G w (jD G (I id).1 .lX) w:=by
        refine ⟨rfl,rfl,rfl,fun _=>n5 _,n5 _,fun b' o hi=>⟨?_,rfl⟩,fun b' hb' =>⟨?_,rfl⟩,fun _ c _ _ hc=>⟨c,hc,rfl⟩⟩
        all_goals grind [jv,qt,K7]
       have hkp:∀ q,bZ q G w (jD G (I id).1 .lX) w:=fun q b' n hb' =>⟨by grind [K7],rfl⟩
       have hob:∀ id',id' ≠id->∀ b',G b' = .obj id' ->(jD G (I id).1 .lX) b' = .obj id' /\w.heap[b']? =w.heap[b']? :=fun id' hid b' hb' =>⟨by grind [K7],rfl⟩
       have vr:∀ {pl:Place} {v:c8} {u:Value},VR G I N w pl v u->VR (jD G (I id).1 .lX) I (fun i=>N i/\i≠id) w pl (v.kill id) u :=
        fun hv=>VR.mono hx (fun _ _=>rfl) (fun _ h=>h) _ _ _ (Or.inr (hkp _)) (VR.kill id _ _ _ hv)
       have tr:∀ (id' :Nat) (o' :A1),(((st.H.take E.lim.base++(st.H.drop E.lim.base).map (A1.kill id)).set id .dead).set b (.cells ((I6 id cs).set i (.d (.slice len xs)))))[id']? =some o' ->
         (id' =b/\o' = .cells ((I6 id cs).set i (.d (.slice len xs))))\/(id' ≠b/\id' =id/\o' = .dead)\/(id' ≠b/\id' ≠id/\id' <E.lim.base/\st.H[id']? =some o')\/(id' ≠b/\id' ≠id/\E.lim.base<=id' /\∃ o1,st.H[id']? =some o1/\o' =o1.kill id):=by
        intro id' o' ho'
        by_cases e1:id' =b
        .grind
        .rw [B5 (fun e=>e1 e.symm)] at ho'
         grind
       have wP:C5 ((I6 id cs).set i (.d (.slice len xs)))<=C5 cs:=F9 (nD _ _ _) (eB id cs);refine ⟨jD G (I id).1 .lX,fun i=>N i/\i≠id,⟨?_,?_,?_,?_,?_,?_,?_,h.size,h.idle⟩,⟨hx,?_,fun _ _ _=>rfl,?_,fun _ _ hn=>hn.1,?_⟩⟩
       .intro s' t ht
        simp only [wN];exact vr (h.T s' t ht)
       .intro id' o' ho'
        rcases tr id' o' ho' with ⟨rfl,rfl⟩|⟨_,rfl,rfl⟩|⟨e1,e2,e3,e4⟩|⟨e1,e2,e3,o1,e4,rfl⟩
        .have hk:=OR.kill id (fun e=>hne e.symm) _ (h.H id' _ hb)
         have hk:=OR.mono hx (fun _ _=>rfl) (fun _ h=>h) id' _ (fun hb' =>hob id' (fun e=>hne e.symm) _ hb') (fun _=>hkp _) hk;simp only [A1.kill,OR] at hk ⊢;obtain ⟨k0,c2,e2,f2,k1,k2,k3,k4,k5⟩:=hk;refine ⟨k0,c2,e2,f2,k1,k2,k3,by grind,fun i' x' hx' => ?_⟩
         by_cases ei:i' =i
         .subst ei
          have DG:i' <(I6 id cs).length:=by grind
          rw [L0 DG] at hx';cases hx';have hOb:=h.H id' _ hb;simp only [OR] at hOb;obtain ⟨_,c3,e3,f3,m1,_,_,_,m5⟩:=hOb;rw [k1] at m1;cases m1;obtain ⟨u,u1,u2⟩:=m5 i' _ hcj;refine ⟨u,u1,?_⟩;simp only [VR] at u2 ⊢;obtain ⟨_,cap,rfl,u3,_⟩:=u2;simp only [DR];refine Or.inr ⟨(I id).1,(I id).2+lo,cap,rfl,u3,Vm _ (fun o=>by grind [jv,qt]) vs xs _ hxs fun j v hj=> ?_⟩;subst bz6;have hj2:j<len * sz/\old[lo+j]? =some v:=by
           grind
          obtain ⟨y,y1,y2⟩:=g5 _ _ hj2.2;refine ⟨y,?_,fun d hd=>DR.mono hx.lX _ _ (Nk hd y2)⟩
          grind [World.cell?,M6]
         grind
        .simp [OR]
        .have VP:=OR.low (n:=E.lim.base) e3 o' ((h.W4 id' o' e4).2 e3) (h.H id' o' e4)
         exact OR.mono hx (fun _ _=>rfl) (fun i hi=>⟨hi.1,by omega⟩) id' o' (fun hb' =>hob id' e2 _ hb') (fun _=>hkp _) VP
        .exact OR.mono hx (fun _ _=>rfl) (fun _ h=>h) id' _ (fun hb' =>hob id' e2 _ hb') (fun _=>hkp _) (OR.kill id e2 o1 (h.H id' o1 e4))
       .intro b' hb'
        rw [K7 (by omega)];exact h.wf b' hb'
       .intro id' o' ho'
        rcases tr id' o' ho' with ⟨rfl,rfl⟩|⟨_,rfl,rfl⟩|⟨e1,e2,e3,e4⟩|⟨e1,e2,e3,o1,e4,rfl⟩
        .obtain ⟨d1,d2⟩:=h.W4 id' _ hb
         grind [A1.O5,F9]
        .simp_all [A1.O5]
        .exact h.W4 id' o' e4
        .obtain ⟨d1,d2⟩:=h.W4 id' o1 e4
         grind [EF,F9]
       .rw [S1];exact h.W5
       .intro id' hn
        have:=h.bI id' hn.1
        grind
       .grind
       .intro id' hm
        grind
       all_goals grind
      .cases hr
     .cases hr
    .cases hr
   .cases hr
  .cases hr
 .cases hr
def Dp (E:Env)(H:p9)(w:World)(G:Gh)(I:S7)(N:Nat->Prop)(H' :p9)(w' :World)(G' :Gh)(I' :S7)(N' :Nat->Prop):Prop :=
 ∀ H0 w0 G0 I0 N0,(E.entry=0->∀ b n pl,G0 b≠ .grow n pl)->aM E H0 w0 G0 I0 N0 H w G I N->aM E H0 w0 G0 I0 N0 H' w' G' I' N'
def aM.trn {E:Env}{H H' :p9}{w w' :World}{G G' :Gh}{I I' :S7}{N N' :Nat->Prop}(h:aM E H w G I N H' w' G' I' N'):Dp E H w G I N H' w' G' I' N' :=
 fun _ _ _ _ _ _ h0=>h0.trans h
theorem Dp.refl (E:Env)(H:p9)(w:World)(G:Gh)(I:S7)(N:Nat->Prop):Dp E H w G I N H w G I N:=fun _ _ _ _ _ _ h=>h
theorem Dp.trans {E:Env}{H0 H1 H2:p9}{w0 w1 w2:World}{G0 G1 G2:Gh}{I0 I1 I2:S7}{N0 N1 N2:Nat->Prop}
  (h:Dp E H0 w0 G0 I0 N0 H1 w1 G1 I1 N1) (k:Dp E H1 w1 G1 I1 N1 H2 w2 G2 I2 N2):Dp E H0 w0 G0 I0 N0 H2 w2 G2 I2 N2 :=
 fun H w G I N hg hs=>k H w G I N hg (h H w G I N hg hs)
theorem eH:∀ l:List c8,(R9 l).length=l.length
 |[]=>rfl
 |_::l=>by simp [R9,eH l]
theorem pH:∀ (l:List c8) (i:Nat),(R9 l)[i]? =(l[i]?).map c8.forget
 |[],_=>by rfl
 |_::_,0=>by rfl
 |_::l,i+1=>by simpa [R9] using pH l i
def xZ (l:List c8)(s:Nat):(R9 l).getD s .any=(l.getD s .any).forget:=by
 grind [pH,c8.forget]
section
variable {G' :Gh} {I' :S7} {N' :Nat->Prop}
mutual
theorem VR.forget (hI:∀ id,N id->I' id=I id)(hN:∀ id,N id->N' id):∀ (pl:Place) (v:c8) (u:Value),VR G I N w pl v u->VR G' I' N' w pl v.forget u
 |_,.any,_,_=>by simp [c8.forget,VR]
 |_,.d x,_,h=>by
  cases x
  case slice n cells =>
   cases cells with
   |nil =>
    simp_all [c8.forget,VR,DR,fB]
   |cons c cs=>simp [c8.forget,VR]
  all_goals simp_all [c8.forget,VR,DR]
 |_,.ptr id off,_,h=>by
  simp_all [c8.forget,VR]
 |_,.T4 _,_,_=>by simp [c8.forget,VR]
 |_,.B4 id sz lo len,_,h=>by
  simp_all [c8.forget,VR]
 |_,.own _ _ _,_,_=>by simp [c8.forget,VR]
 |_,.O2,_,h=>by simp_all [c8.forget,VR]
 |_,.agg l,_,h=>by
  obtain ⟨cs,h1,h2⟩:=h;exact ⟨cs,h1,J4.forget hI hN l _ h2⟩
 |_,.tuple l,_,h=>by
  obtain ⟨cs,h1,h2⟩:=h;exact ⟨cs,h1,J4.forget hI hN l _ h2⟩
 |_,.func f a b,_,h=>by
  obtain ⟨x,y,h1,h2,h3⟩:=h;exact ⟨x,y,h1,J4.forget hI hN a _ h2,J4.forget hI hN b _ h3⟩
 |_,.map id,_,h=>by
  simp_all [c8.forget,VR]
theorem J4.forget (hI:∀ id,N id->I' id=I id)(hN:∀ id,N id->N' id):∀ (l:List c8) (vs:List Value),J4 G I N w l vs->J4 G' I' N' w (R9 l) vs
 |[],_,h=>by grind [R9,J4]
 |a::as,vs,h=>by
  obtain ⟨x,xs,h1,h2,h3⟩:=h;exact ⟨x,xs,h1,VR.forget hI hN .none a x h2,J4.forget hI hN as xs h3⟩
end
theorem ER.forget (hI:∀ id,N id->I' id=I id)(hN:∀ id,N id->N' id):∀ (l:List (Key×c8)) (es:List MapEntry),ER G I N w l es->ER G' I' N' w (l.map fun p=>(p.1,p.2.forget)) es
 |[],_,h=>by grind [ER]
 |(k,v)::r,es,h=>by
  obtain ⟨e,es',h1,h2,h3,h4⟩:=h;exact ⟨e,es',h1,h2,VR.forget hI hN _ _ _ h3,ER.forget hI hN r es' h4⟩
theorem OR.forget (hI:∀ id,N id->I' id=I id)(hN:∀ id,N id->N' id)(hG:∀ b id,G b= .obj id->G' b= .obj id)(id:Nat)(o:A1)(h:OR G I N w id o):OR G' I' N' w id o.forget:=by
 cases o with
 |dead=>simp [A1.forget,OR]
 |cells l =>
  simp [A1.forget,OR] at h ⊢
  grind [eH,pH,VR.forget]
 |map es =>
  grind [A1.forget,OR,ER.forget]
end
theorem yq:∀ (cs:List c8) (k i sz len:Nat) (xs:List Data),yp cs k=some (i,sz,len,xs)->∃ j,i=k+j/\cs[j]? =some (.own sz len xs)
 |[],_,_,_,_,_,h=>by simp [yp] at h
 |c::cs,k,i,sz,len,xs,h=>by
  cases c
  case own sz' len' xs' =>
   simp_all [yp,Option.some.injEq,Prod.mk.injEq]
  all_goals
   obtain ⟨j,h1,h2⟩:=yq cs (k+1) i sz len xs (by simp_all [yp]);simp_all<;>grind
theorem GC {b:Nat}:∀ (xs:List Data) (o i:Nat) (d:Data),fB G w b o xs->xs[i]? =some d->∃ x,w.cell? (ad b (o+i))=some x/\DR G w d x
 |[],_,_,_,_,h=>by simp at h
 |c::cs,o,0,d,hd,h=>by
  simp_all [fB]
 |c::cs,o,i+1,d,hd,h=>by
  obtain ⟨x,h1,h2⟩:=GC cs (o+1) i d hd.2.2 (by simpa using h)
  grind
def Pd {G' :Gh}{d:Data}{x:Value}(hf:d.flat=true)(h:DR G w d x):DR G' w d x:=by
 cases d
 case slice n cs=>simp [Data.flat] at hf
 all_goals simp_all [DR]
def Yq (_h:Cd P names E nt st a w G I N){b2 n2 m:Nat}{pl2:Place}(bT8:b2<w.heap.size)(k6:G b2= .grow n2 pl2)(hG:∀ b' id,G b' = .obj id->jD G b2 (.obj m) b' = .obj id)(Nx:E.entry=0)(hbase:E.lim.base=0){H' :p9}{I' :S7}{N' :Nat->Prop} :
  Dp E st.H w G I N H' w (jD G b2 (.obj m)) I' N' :=by
 intro H0 w0 G0 I0 N0 hg hs;have hne:∀ b',(jv G0 b' =jv G0 b')/\((G0 b' = .lX\/∃ n,G0 b' = .held n)->b' ≠b2):=fun b' =>⟨rfl,fun hi e=>by
  subst e;have:=(hs.ext.still b' hi).1;simp_all⟩
 have ay0:∀ b' o',jv G0 b' o' ->G0 b' = .lX\/∃ n,G0 b' = .held n:=fun b' o' hi=>by
  grind [jv,absurd]
 refine ⟨⟨hs.ext.os,hs.ext.tape,hs.ext.output,hs.ext.drawn,hs.ext.size,fun b' o' hi=> ?_,fun b' hi=> ?_,hs.ext.shape⟩,?_,?_,?_,?_,?_⟩
 .obtain ⟨q1,q2⟩:=hs.ext.lX b' o' hi
  grind [jv,K7]
 .obtain ⟨q1,q2⟩:=hs.ext.still b' hi
  simp_all [K7]
 .intro id hm
  obtain ⟨p1,p2⟩:=hs.fu id hm;refine ⟨fun b' hb' => ?_,fun off b' n hb' =>absurd hb' (hg Nx _ _ _)⟩;simp_all
 all_goals omega
def aw4 (hbase:E.lim.base=0){H' :p9}:Dp E st.H w G I N H' w G I N:=fun _ _ _ _ _ _ hs=>⟨hs.ext,hs.fu,hs.inj,hs.mono,hs.old,fun id o' hlt=>by omega⟩
def Yp (h:Cd P names E nt st a w G I N){s:Nat}(hr:Lh E.lim E.entry s st=some st'):∃ G' I' N',Cd P names E nt st' a w G' I' N' /\Dp E st.H w G I N st'.H w G' I' N' :=by
 unfold Lh at hr;split at hr
 .rename_i b hT
  split at hr
  .rename_i cs hb
   split at hr
   .rename_i i sz len xs how
    split at hr
    .cases hr
     exact ⟨G,I,N,h,Dp.refl _ _ _ _ _ _⟩
    split at hr
    .rename_i hl0 dN
     cases hr;obtain ⟨Nx,hbase,VY,Pu⟩:=dN;obtain ⟨j,hj,hcj⟩:=yq cs 0 i sz len xs how;obtain rfl:i=j:=by omega
     have hO:=h.H b _ hb;simp only [OR] at hO;obtain ⟨hN,c,e,f,g1,g2,g3,g4,g5⟩:=hO;obtain ⟨v,v1,v2⟩:=g5 i _ hcj;simp only [VR] at v2;obtain ⟨hlen,v2⟩:=v2
     rcases v2 with ⟨_,v2⟩|⟨_,b2,o,cap,c2,e2,f2,rfl,k2,k3,k4,k5,k6,k7⟩
     .exact absurd v2 hl0
     have ZG:b2<w.heap.size:=by
      rcases A5 b2 w.heap.size with h|h
      .exact h
      .rw [Array.getElem?_eq_none h] at k3;cases k3
     have hbl:=u7 hb;have hI:∀ id,N id->(fun k=>if k=st.H.length then (b2,o) else I k) id=I id:=fun id hid=>by
      have:=h.bI id hid;simp only;rw [if_neg (by omega)]
     have hN' :∀ id,N id->(fun k=>N k\/k=st.H.length) id:=fun id hid=> .inl hid
     have hG:∀ b' id,G b' = .obj id->jD G b2 (.obj st.H.length) b' = .obj id:=fun b' id hb' =>by
      rw [K7 (by rintro rfl;rw [k6] at hb';cases hb')];exact hb'
     have tr:∀ (id' :Nat) (o' :A1),((st.H.map A1.forget).set b (.cells ((R9 cs).set i (.B4 st.H.length sz 0 len)))++[.cells (xs.map .d)])[id']? =some o' ->
       (id' =b/\o' = .cells ((R9 cs).set i (.B4 st.H.length sz 0 len)))\/(id' ≠b/\∃ o1,st.H[id']? =some o1/\o' =o1.forget)\/(id' =st.H.length/\o' = .cells (xs.map .d)):=by
      intro id' o' ho'
      rcases A5 id' st.H.length with hlt|hge
      .rw [A8 (by simpa using hlt)] at ho'
       by_cases e1:id' =b
       .subst e1
        rw [L0 (by simpa using hlt)] at ho';cases ho';exact .inl ⟨rfl,rfl⟩
       .rw [B5 (fun e=>e1 e.symm),List.getElem?_map] at ho'
        cases h1:st.H[id']? with
        |none=>rw [h1] at ho';cases ho'
        |some o1 =>
         rw [h1] at ho';cases ho';exact .inr (.inl ⟨e1,o1,rfl,rfl⟩)
      .rw [u9 (by simpa using hge)] at ho'
       have h0:id' - ((st.H.map A1.forget).set b (.cells ((R9 cs).set i (.B4 st.H.length sz 0 len)))).length=0:=by
        have:=u7 ho';simp only [List.length_singleton] at this;omega
       rw [h0] at ho';simp only [List.length_set,B9] at h0;simp only [List.getElem?_cons_zero,Option.some.injEq] at ho';exact .inr (.inr ⟨by omega,ho'.symm⟩)
     have aS2:VR (jD G b2 (.obj st.H.length)) (fun k=>if k=st.H.length then (b2,o) else I k) (fun k=>N k\/k=st.H.length) w (.cell b i) (.B4 st.H.length sz 0 len) (.slice (some (ad b2 o)) len cap):=by
      simp only [VR,if_true,Nat.add_zero];exact ⟨.inr trivial,cap,rfl,k2,c2,e2,f2,k3,k4⟩
     refine ⟨jD G b2 (.obj st.H.length),fun k=>if k=st.H.length then (b2,o) else I k,fun k=>N k\/k=st.H.length,⟨?_,?_,?_,?_,?_,?_,?_,h.size,h.idle⟩,?_⟩
     .intro s' t ht
      simp only [xZ];exact VR.forget hI hN' _ _ _ (h.T s' t ht)
     .intro id' o' ho'
      rcases tr id' o' ho' with ⟨rfl,rfl⟩|⟨_,o1,h1,rfl⟩|⟨rfl,rfl⟩
      .have hk:=OR.forget hI hN' hG id' _ (h.H id' _ hb)
       simp only [A1.forget,OR] at hk ⊢;obtain ⟨q0,c3,e3,f3,q1,q2,q3,q4,q5⟩:=hk;refine ⟨q0,c3,e3,f3,q1,q2,q3,by simpa using q4,fun i' x' hx' => ?_⟩
       by_cases ei:i' =i
       .subst ei
        rw [L0 (by rw [eH];exact u7 hcj)] at hx';cases hx';rw [if_neg (by omega),g1] at q1;cases q1;refine ⟨_,?_,aS2⟩;rw [if_neg (by omega)];exact v1
       .rw [B5 (fun e=>ei e.symm)] at hx'
        exact q5 i' x' hx'
      .exact OR.forget hI hN' hG id' _ (h.H id' o1 h1)
      .simp only [OR,if_true]
       refine ⟨.inr trivial,c2,e2,f2,k3,qt _ _ _,k5,?_,fun i' x' hx' => ?_⟩
       .have:=Nat.mul_le_mul_right sz k2
        rw [B9,hlen];omega
       .rw [List.getElem?_map] at hx'
        cases hd:xs[i']? with
        |none=>rw [hd] at hx';cases hx'
        |some d =>
         rw [hd] at hx';cases hx';obtain ⟨x,x1,x2⟩:=GC xs o i' d k7 hd;refine ⟨x,?_,?_⟩
         .simp only [World.cell?,k3] at x1
          simpa using x1
         .simp only [VR]
          exact Pd (Q2.1 Pu d (List.mem_of_getElem? hd)) x2
     .intro b' hb'
      rw [K7 (by omega)];exact h.wf b' hb'
     .intro id' o' ho'
      exact ⟨fun hh=>by omega,fun hh=>by omega⟩
     .rw [eH];exact h.W5
     .intro id' hn
      rcases hn with hn|rfl
      .have:=h.bI id' hn
       simp;omega
      .simp
     .have:=h.GF
      simp;omega
     .exact Yq h ZG k6 hG Nx hbase
    .cases hr
   .cases hr
  .cases hr
 .rename_i sz len xs hT
  split at hr
  .cases hr
   exact ⟨G,I,N,h,Dp.refl _ _ _ _ _ _⟩
  split at hr
  .rename_i hl0 dN
   cases hr;obtain ⟨Nx,hbase,VY,Pu⟩:=dN;have tQ:=u7 hT;have hlt:=h.W5;obtain ⟨t,ht⟩:∃ t,names[s]? =some t:=⟨_,n9 (by omega)⟩;have v2:=h.T s t ht;rw [List.getD_eq_getElem?_getD,hT,Option.getD_some] at v2;simp only [VR] at v2;obtain ⟨hlen,v2⟩:=v2
   rcases v2 with ⟨_,v2⟩|⟨_,b2,o,cap,c2,e2,f2,hv,k2,k3,k4,k5,k6,k7⟩
   .exact absurd v2 hl0
   have ZG:b2<w.heap.size:=by
    rcases A5 b2 w.heap.size with h|h
    .exact h
    .rw [Array.getElem?_eq_none h] at k3;cases k3
   have hI:∀ id,N id->(fun k=>if k=st.H.length then (b2,o) else I k) id=I id:=fun id hid=>by
    have:=h.bI id hid;simp only;rw [if_neg (by omega)]
   have hN' :∀ id,N id->(fun k=>N k\/k=st.H.length) id:=fun id hid=> .inl hid
   have hG:∀ b' id,G b' = .obj id->jD G b2 (.obj st.H.length) b' = .obj id:=fun b' id hb' =>by
    rw [K7 (by rintro rfl;rw [k6] at hb';cases hb')];exact hb'
   refine ⟨jD G b2 (.obj st.H.length),fun k=>if k=st.H.length then (b2,o) else I k,fun k=>N k\/k=st.H.length,⟨?_,?_,?_,?_,?_,?_,?_,h.size,h.idle⟩,Yq h ZG k6 hG Nx hbase⟩
   .intro s' t' ht'
    by_cases e:s' =s
    .subst e
     rw [ht] at ht';cases ht';rw [List.getD_eq_getElem?_getD,L0 (by rw [eH];exact tQ),Option.getD_some,hv];simp only [VR,if_true,Nat.add_zero];exact ⟨.inr trivial,cap,rfl,k2,c2,e2,f2,k3,k4⟩
    .rw [List.getD_eq_getElem?_getD,B5 (fun h=>e h.symm),<- List.getD_eq_getElem?_getD,xZ]
     exact VR.forget hI hN' _ _ _ (h.T s' t' ht')
   .intro id' o' ho'
    rcases A5 id' st.H.length with hlt' |hge
    .rw [A8 (by simpa using hlt'),List.getElem?_map] at ho'
     cases h1:st.H[id']? with
     |none=>rw [h1] at ho';cases ho'
     |some o1 =>
      rw [h1] at ho';cases ho';exact OR.forget hI hN' hG id' _ (h.H id' o1 h1)
    .rw [u9 (by simpa using hge)] at ho'
     have h0:id' - (st.H.map A1.forget).length=0:=by
      have:=u7 ho';simp only [List.length_singleton] at this;omega
     rw [h0] at ho';simp only [B9] at h0;simp only [List.getElem?_cons_zero,Option.some.injEq] at ho';obtain rfl:id' =st.H.length:=by omega
     subst ho';simp only [OR,if_true];refine ⟨.inr trivial,c2,e2,f2,k3,qt _ _ _,k5,?_,fun i' x' hx' => ?_⟩
     .have:=Nat.mul_le_mul_right sz k2
      rw [B9,hlen];omega
     .rw [List.getElem?_map] at hx'
      cases hd:xs[i']? with
      |none=>rw [hd] at hx';cases hx'
      |some d =>
       rw [hd] at hx';cases hx';obtain ⟨x,x1,x2⟩:=GC xs o i' d k7 hd;refine ⟨x,?_,?_⟩
       .simp only [World.cell?,k3] at x1
        simpa using x1
       .simp only [VR]
        exact Pd (Q2.1 Pu d (List.mem_of_getElem? hd)) x2
   .intro b' hb'
    rw [K7 (by omega)];exact h.wf b' hb'
   .intro id' o' ho'
    exact ⟨fun hh=>by omega,fun hh=>by omega⟩
   .rw [List.length_set,eH];exact h.W5
   .intro id' hn
    rcases hn with hn|rfl
    .have:=h.bI id' hn
     simp;omega
    .simp
   .have:=h.GF
    simp;omega
  .cases hr
 .split at hr
  .rename_i hc
   cases hr;obtain ⟨_,hb,hst⟩:=hc;refine ⟨G,I,N,⟨h.T,fun id' o' ho' => ?_,h.wf,fun id' o' ho' =>⟨fun hh=>by omega,fun hh=>by omega⟩,h.W5,fun id' hn=> ?_,?_,h.size,h.idle⟩,aw4 hb⟩
   .rcases A5 id' st.H.length with hlt|hge
    .rw [A8 hlt] at ho'
     exact h.H id' o' ho'
    .rw [u9 hge] at ho'
     have:=List.mem_of_getElem? ho';rw [s8] at this;subst this;simp only [OR]
   .have:=h.bI id' hn
    simp;omega
   .have:=h.GF
    simp;omega
  .cases hr
 .cases hr
def aw8 (h:Cd P names E nt st a w G I N){s:Nat}(hr:nQ E.lim E.entry s st=some st'):∃ G' I' N',Cd P names E nt st' a w G' I' N' /\Dp E st.H w G I N st'.H w G' I' N' :=by
 unfold nQ at hr;split at hr
 .rename_i r h1
  cases hr;obtain ⟨G',N',h2,h3⟩:=VM h h1;exact ⟨G',I,N',h2,h3.trn⟩
 .exact Yp h hr
end
end Go.A2


import Derived.Test.YtibjocmpkoepoaaGreatUB0
import Derived.Orders
set_option linter.all false
open Bool renaming and_eq_true → c7, eq_false_or_eq_true → B3, false_eq_true → j3, not_eq_true' → n5, or_eq_false_iff → F3
open List renaming all_eq_true → L9, append_assoc → E8, getElem?_append_left → A7, getElem?_append_right → s5, getElem?_eq_getElem → l6, getElem?_set_ne → D3, getElem?_set_self → O0, length_append → o8, length_cons → p7, length_map → B0, length_nil → A3, map_cons → F4, mem_append_left → E0, mem_append_right → E7, mem_cons → B4, replicate → c9, set_cons_succ → q7
open Nat renaming le_refl → o5, le_trans → B6, lt_or_ge → y4, zero_le → I7
open Option renaming map_some → L4
namespace Go.x9
variable [D9]
mutual
theorem VR.kill {G:Gh}{I:R3}{N:Nat->Prop}{w:World}(id:Nat):∀ (pl:Place) (a:c8) (x:Value),VR G I N w pl a x->VR G I (fun i=>N i/\i≠id) w pl (a.kill id) x
 |_,.any,_,_=>by simp [c8.kill,VR]
 |_,.d _,_,h=>by grind [c8.kill,VR]
 |_,.ptr i o,x,h=>by
  grind [c8.kill,VR]
 |_,.S7 _,_,h=>by grind [c8.kill,VR]
 |_,.A8 i z lo n,x,h=>by
  grind [c8.kill,VR]
 |_,.own _ _ _,_,h=>by simp_all [c8.kill,VR]
 |_,.N7,_,h=>by simp_all [c8.kill,VR]
 |_,.agg l,x,h=>by
  obtain ⟨cs,h1,h2⟩:=h;exact ⟨cs,h1,J5.kill id l _ h2⟩
 |_,.tuple l,x,h=>by
  obtain ⟨cs,h1,h2⟩:=h;exact ⟨cs,h1,J5.kill id l _ h2⟩
 |_,.func f a b,x,h=>by
  obtain ⟨u,v,h1,h2,h3⟩:=h;exact ⟨u,v,h1,J5.kill id a _ h2,J5.kill id b _ h3⟩
 |_,.map i,x,h=>by
  grind [c8.kill,VR]
theorem J5.kill {G:Gh}{I:R3}{N:Nat->Prop}{w:World}(id:Nat):∀ (l:List c8) (xs:List Value),J5 G I N w l xs->J5 G I (fun i=>N i/\i≠id) w (H9 id l) xs
 |[],_,h=>by grind [H9,J5]
 |a::as,xs,h=>by
  obtain ⟨x,xs',h1,h2,h3⟩:=h;exact ⟨x,xs',h1,VR.kill id _ a x h2,J5.kill id as xs' h3⟩
end
mutual
theorem VR.low {G:Gh}{I:R3}{N:Nat->Prop}{w:World}(n:Nat):∀ (pl:Place) (a:c8) (x:Value),a.K5<=n->VR G I N w pl a x->VR G I (fun i=>N i/\i<n) w pl a x
 |_,.any,_,_,_=>by simp [VR]
 |_,.d _,_,_,h=>by grind [VR]
 |_,.ptr i o,x,hb,h=>by grind [c8.K5,VR]
 |_,.S7 _,_,_,h=>by grind [VR]
 |_,.A8 i z lo n',x,hb,h=>by grind [c8.K5,VR]
 |_,.own _ _ _,_,_,h=>by simp_all [VR]
 |_,.N7,_,_,h=>by simp_all [VR]
 |_,.agg l,x,hb,h=>by
  obtain ⟨cs,h1,h2⟩:=h;exact ⟨cs,h1,J5.low n l _ hb h2⟩
 |_,.tuple l,x,hb,h=>by
  obtain ⟨cs,h1,h2⟩:=h;exact ⟨cs,h1,J5.low n l _ hb h2⟩
 |_,.func f a b,x,hb,h=>by
  simp [c8.K5] at hb;obtain ⟨u,v,h1,h2,h3⟩:=h;exact ⟨u,v,h1,J5.low n a _ (by omega) h2,J5.low n b _ (by omega) h3⟩
 |_,.map i,x,hb,h=>by grind [c8.K5,VR]
theorem J5.low {G:Gh}{I:R3}{N:Nat->Prop}{w:World}(n:Nat):∀ (l:List c8) (xs:List Value),A4 l<=n->J5 G I N w l xs->J5 G I (fun i=>N i/\i<n) w l xs
 |[],_,_,h=>by grind [J5]
 |a::as,xs,hb,h=>by
  simp [A4] at hb;obtain ⟨x,xs',h1,h2,h3⟩:=h;exact ⟨x,xs',h1,VR.low n _ a x (by omega) h2,J5.low n as xs' (by omega) h3⟩
end
section
variable {P:Program} {X:Cx} {l:F2} {S:Nat->Prop} {st:G4} {a:Act} {w w' :World} {G:Gh} {I:R3} {N:Nat->Prop} {D:Nat->Bool} {j9:List p6}
theorem ER.kill (id:Nat):∀ (es:List (Key×c8)) (xs:List MapEntry),ER G I N w es xs->ER G I (fun i=>N i/\i≠id) w (es.map fun p=>(p.1,p.2.kill id)) xs
 |[],_,h=>by grind [ER]
 |(k,v)::r,xs,h=>by
  obtain ⟨e,es',h1,h2,h3,h4⟩:=h;exact ⟨e,es',h1,h2,VR.kill id _ v _ h3,ER.kill id r es' h4⟩
theorem ER.low (n:Nat):∀ (es:List (Key×c8)) (xs:List MapEntry),A4 (es.map (·.2))<=n->ER G I N w es xs->ER G I (fun i=>N i/\i<n) w es xs
 |[],_,_,h=>by grind [ER]
 |(k,v)::r,xs,hb,h=>by
  simp [F4,A4] at hb;obtain ⟨e,es',h1,h2,h3,h4⟩:=h;exact ⟨e,es',h1,h2,VR.low n _ v _ (by omega) h3,ER.low n r es' (by omega) h4⟩
theorem fC (id:Nat):∀ (l:List c8) (i:Nat),(H9 id l)[i]? =(l[i]?).map (c8.kill id)
 |[],i=>by simp [H9]
 |v::vs,0=>by simp [H9]
 |v::vs,i+1=>by simp [H9,fC id vs i]
theorem Q7 (id:Nat)(l:List c8):(H9 id l).length=l.length:=by
 induction l with
 |nil=>rfl
 |cons v vs ih=>simp [H9,ih]
def uQ (id:Nat)(l:List c8)(i:Nat):(H9 id l).getD i .any=(l.getD i .any).kill id:=by
 grind [List.getD,fC,c8.kill]
mutual
theorem GS (id:Nat):∀ (a:c8),(a.kill id).K5<=a.K5
 | .any=>by simp [c8.kill]
 | .d _=>by simp [c8.kill]
 | .ptr i o=>by grind [c8.kill,c8.K5]
 | .S7 _=>by simp [c8.kill]
 | .A8 i z lo n=>by grind [c8.kill,c8.K5]
 | .own _ _ _=>by simp [c8.kill]
 | .N7=>by simp [c8.kill]
 | .agg l=>by exact dn id l
 | .tuple l=>by exact dn id l
 | .func f a b=>by
  simp [c8.kill,c8.K5];have:=dn id a;have:=dn id b;omega
 | .map i=>by grind [c8.kill,c8.K5]
theorem dn (id:Nat):∀ (l:List c8),A4 (H9 id l)<=A4 l
 |[]=>by simp [H9]
 |v::vs=>by
  simp [H9,A4];have:=GS id v;have:=dn id vs;omega
end
theorem CG (id:Nat):∀ (es:List (Key×c8)),A4 ((es.map fun p=>(p.1,p.2.kill id)).map (·.2))<=A4 (es.map (·.2))
 |[]=>by simp
 |(k,v)::r=>by
  simp only [F4,A4];have:=GS id v;have:=CG id r;omega
theorem Dr (id:Nat)(o:u0):(o.kill id).K5<=o.K5:=by
 cases o with
 |dead=>simp [u0.kill]
 |cells l=>simp_all [u0.kill,u0.K5,dn]
 |map es=>simpa only [u0.kill,u0.K5] using CG id es
theorem OR.kill (id:Nat){id' :Nat}(hne:id' ≠id)(o:u0)(h:OR G I N w id' o):OR G I (fun i=>N i/\i≠id) w id' (o.kill id):=by
 cases o with
 |dead=>simp [u0.kill,OR]
 |cells l0 =>
  grind [u0.kill,OR,Q7,fC,VR.kill]
 |map es =>
  obtain ⟨hN,arr,eS,h1,h2,h3,h4⟩:=h;exact ⟨⟨hN,hne⟩,arr,eS,h1,h2,ER.kill id es _ h3,h4⟩
theorem sw:∀ (l:List c8) (i:Nat) (x:c8),l[i]? =some x->x.K5<=A4 l
 |[],_,_,h=>by simp at h
 |v::vs,0,x,h=>by grind [A4]
 |v::vs,i+1,x,h=>by have:=sw vs i x (by simpa using h);grind [A4]
theorem OR.low {id n:Nat}(hn:id<n)(o:u0)(hb:o.K5<=n)(h:OR G I N w id o):OR G I (fun i=>N i/\i<n) w id o:=by
 cases o with
 |dead=>simp [OR]
 |cells l0 =>
  obtain ⟨hN,c,e,f,h1,h2,h3,h4,h5⟩:=h
  .refine ⟨⟨hN,hn⟩,c,e,f,h1,h2,h3,h4,fun i x hx=> ?_⟩
   obtain ⟨v,g1,g2⟩:=h5 i x hx;exact ⟨v,g1,VR.low n _ x v (by exact B6 (sw _ _ _ hx) hb) g2⟩
 |map es =>
  grind [OR,ER.low,u0.K5]
end
end Go.x9
namespace Go.x9
variable [D9]
section
variable {P:Program} {X:Cx} {l:F2} {S:Nat->Prop} {st:G4} {a:Act} {w w' :World} {G G' :Gh} {I I' :R3} {N:Nat->Prop} {D:Nat->Bool} {j9:List p6}
def pO (H:o9)(base id:Nat)(o:u0):o9:=(H.take base++(H.drop base).map (u0.kill id)).set id o
def wQ {H:o9}{base id:Nat}{o:u0}(hid:id<H.length){id' :Nat}{o' :u0}(h:(pO H base id o)[id']? =some o') :
  (id' =id/\o' =o)\/(id' ≠id/\id' <base/\H[id']? =some o')\/(id' ≠id/\base<=id' /\∃ o0,H[id']? =some o0/\o' =o0.kill id):=by
 unfold pO at h;have hlen:(H.take base++(H.drop base).map (u0.kill id)).length=H.length:=by simp;omega
 by_cases he:id' =id
 .simp_all
 .by_cases hb:id' <base
  .grind
  .by_cases hl:base<=H.length
   .grind
   grind
def cB.Ub (h:RI X l S st a w G I N){k:Nat}(hk:¬ S k)(aF:k<st.L.length){entry id:Nat}{o0:u0}(h0:st.H[id]? =some o0)(hbase:l.base<=id)(QK:entry<=id)(hmay:l.may id=true)
  (hx:Ext G w G' w') (hkp:∀ q,bz q G w G' w') (ho:∀ id',id' ≠id->∀ b,G b= .obj id' ->G' b= .obj id' /\w'.heap[b]? =w.heap[b]?) (hwf:WF G' w') (hI:∀ i,i≠id->I' i=I i)
  {cs:List c8} (Yn:OR G' I' N w' id (.cells cs)) (uS:A4 cs<=max o0.K5 (id+1)) {v:c8} {x:Value} (hv:VR G' I' N w' (.loc k) v x) (o7:List Touch) (QU:o7.any (Touch.K0 id)=true) :
  cB X l S entry st a w G I N (put { T:=H9 id st.T,H:=pO st.H l.base id (.cells cs),L:=H9 id st.L,o7 } k v) k x w' G' I' N:=by
 have hid:=u7 h0;have hI' :∀ i,(N i/\i≠id)->I' i=I i:=fun i hi=>hI i hi.2
 have hNN:∀ i,(N i/\i≠id)->N i:=fun i hi=>hi.1
 have vr:∀ {pl:Place} {b:c8} {u:Value},VR G I N w pl b u->VR G' I' N w' pl (b.kill id) u :=
  fun hb=>VR.mono hx hI' hNN _ _ _ (Or.inr (hkp _)) (VR.kill id _ _ _ hb)
 refine ⟨⟨?_,?_,?_,hwf,?_⟩,?_,hx,?_,?_,?_,fun _ h=>h,?_,?_⟩
 .intro s t ht
  simp only [x9.put,uQ];exact vr (h.T s t ht)
 .intro j hj d hd hn
  have:k≠j:=by grind
  simp only [x9.put];rw [P8 _ _ _ _ _ this,uQ];exact vr (h.L j hj d hd hn)
 .intro id' o' ho'
  rcases wQ hid ho' with ⟨rfl,rfl⟩|⟨hne,hb,hold⟩|⟨hne,hb,o1,hold,rfl⟩
  .exact Yn
  .have TA:=OR.low (n:=l.base) hb o' ((h.V4 id' o' hold).2 hb) (h.H id' o' hold)
   exact OR.mono hx (fun i hi=>hI i (by omega)) (fun i hi=>hi.1) id' o' (fun hb' =>ho id' hne _ hb') (fun _=>hkp _) TA
  .exact OR.mono hx hI' hNN id' _ (fun hb' =>ho id' hne _ hb') (fun _=>hkp _) (OR.kill id hne o1 (h.H id' o1 hold))
 .intro id' o' ho'
  rcases wQ hid ho' with ⟨rfl,rfl⟩|⟨hne,hb,hold⟩|⟨hne,hb,o1,hold,rfl⟩
  .obtain ⟨d1,d2⟩:=h.V4 id' o0 h0
   grind [u0.K5]
  .exact h.V4 id' o' hold
  .obtain ⟨d1,d2⟩:=h.V4 id' o1 hold
   grind [Dr]
 .simp_all [x9.put,O1,Q7]
 .intro id' hm
  grind
 .grind [x9.put]
 all_goals grind [x9.put,pO]
def IJ {cs:List c8}{vs:List Value}(h:cs.all c8.one=true)(hv:J5 G I N w cs vs):Cu vs:=mq _ _ h hv
def Cn (h:RI X l S st a w G I N)(hD:∀ j,D j=true->S j){k:Nat}(hk:¬ S k)(aF:k<st.L.length){o:Oper}{sz bytes:Nat}{ob:Bool}{x y:y6}
  (hc:gY P (X.ck D) o (.append sz bytes ob x y)=true) {E:Env} (hE:E.lim=l) {id lo len:Nat} (hx:I5 st.T st.L x= .A8 id sz lo len) {st' :G4} (he:S6 E k sz bytes st id lo len (I5 st.T st.L y)=some st') :
  ∃ v w' G' I',(execOp a.eval o).run P w= .ok (.value v) w' /\cB X l S E.entry st a w G I N st' k v w' G' I' N:=by
 obtain ⟨x0,y0,t,t2,e,i,z,hop,Sa,hcy,ht2,hsz,hu,hi,hsi,Yi,hz,hzs,hbp⟩:=gH hc;unfold S6 at he;rw [hE] at he;split at he
 .rename_i cI
  split at he
  .rename_i l0 m cs hl0 hcs
   split at he
   .rename_i QJ
    obtain ⟨rfl,hlen,hroom,be1,hone,_⟩:=QJ;cases he;obtain ⟨vn,hl,hf,hvn,hcl⟩:=vL (P:=P) h.H (h.R7 hD _ _ hcy) hsz hcs;have hval:=h.R7 hD _ _ Sa;rw [hx] at hval;simp only [VR] at hval;obtain ⟨Ye,cap,hx0,hcap,c,e',f,hb,QI⟩:=hval;have wI:(execOp a.eval o).run P w=((Builtin.append_ #[t,t2] o.type #[a.eval x0,a.eval y0]).run P w).andThen fun v w' => .ok (.value v) w' :=by
     obtain ⟨dst,dW,ty,pos,after,guard⟩:=o;simp only at hop;subst hop;simp [execOp,resolve,invoke,builtin]
    have Dc:vn.length=m * sz:=by rw [J5.length _ _ hvn,hcl]
    subst hsi Yi;have hO:=h.H id _ hl0;simp only [OR] at hO;obtain ⟨_,c0,e0,f0,h1,QL,hnf,bI2,h5⟩:=hO;rw [hb] at h1;cases h1;have uS:A4 (H9 id l0++cs)<=max (u0.cells l0).K5 (id+1):=by
     rw [fU];have:=dn id l0;simp only [u0.K5];omega
    have TD:=IJ hone hvn;have vrk:∀ {pl:Place} {b:c8} {u:Value},VR G I N w pl b u->VR G I N w pl (b.kill id) u :=
     fun hb=>VR.mono (Ext.refl _ _).sub (fun _ _=>rfl) (fun i hi=>hi.1) _ _ _ (Or.inr (fun _ _ h=>⟨h,rfl⟩)) (VR.kill id _ _ _ hb)
    by_cases hfit:len+m<=cap
    ·
     have hrun:=fR (P:=P) (w:=w) (ty:=o.type) hu hi ht2 (base:=some (ad (I id).1 ((I id).2+0))) (sLen:=len) (sCap:=cap) hl (hf w rfl) hfit;have hbig:(len+m) * i.size<=cap * i.size:=Nat.mul_le_mul_right _ hfit;rw [Nat.add_mul] at hbig;have bg9:(I id).2+len * i.size+vn.length<=c.size:=by omega
     have hst:=run_storeCells_at (P:=P) (I id).1 ((I id).2+0+len * i.size) e' f vn 0 c w hb hnf (by omega) TD;have CY :(I id).2+0+len * i.size+vn.length<=c.toList.length:=by simp;omega
     have uT :(N5 c.toList ((I id).2+0+len * i.size) vn).toArray.size=c.size:=by rw [List.size_toArray,oF _ _ _ CY,Array.length_toList]
     have hw:=Ea (G:=G) hb QL uT;refine ⟨.slice (some (ad (I id).1 ((I id).2+0))) (len+m) cap,w.setRow (I id).1 (N5 c.toList ((I id).2+0+len * i.size) vn).toArray,G,I,?_,
      cB.Ub h hk aF hl0 cI.1 cI.2.1 cI.2.2 hw.ext hw.keeps (fun id' hne=>hw.Az hne) (fun b' hb' =>h.wf b' (by rw [<- hw.size];exact hb')) (fun _ _=>rfl) ?_ uS ?_ (.obj id::st.o7) (by simp [Touch.K0])⟩
     .rw [wI,hx0,hrun]
      simp only [aK];simp only [Nat.add_zero] at hst ⊢;rw [hst];rfl
     .simp only [OR]
      have mono:∀ {pl:Place} {b:c8} {u:Value},VR G I N w pl b u->VR G I N (w.setRow (I id).1 (N5 c.toList ((I id).2+0+len * i.size) vn).toArray) pl b u :=
       fun hq=>VR.mono hw.ext (fun _ _=>rfl) (fun _ h=>h) _ _ _ (Or.inr (hw.keeps _)) hq
      refine ⟨Ye,_,e',f,setRow_heap w _ c _ e' f hb,QL,by rw [uT];exact hnf,?_,fun j b hj=> ?_⟩
      .rw [uT,o8,Q7,hcl];omega
      .rw [show (N5 c.toList ((I id).2+0+len * i.size) vn).toArray[(I id).2+j]? =(N5 c.toList ((I id).2+0+len * i.size) vn)[(I id).2+j]? from by simp,oE _ _ _ CY]
       have hjl:=u7 hj;rw [o8,Q7,hcl] at hjl
       by_cases hjc:j<l0.length
       .rw [A7 (by rw [Q7];exact hjc),fC] at hj
        rw [if_pos (by omega)];rw [l6 hjc] at hj;simp at hj;subst hj;obtain ⟨v,g1,g2⟩:=h5 j _ (l6 hjc);exact ⟨v,by simpa using g1,mono (vrk g2)⟩
       .rw [s5 (by rw [Q7];omega),Q7] at hj
        rw [if_neg (by omega),if_pos (by omega)];obtain ⟨u,r1,r2⟩:=J5.get _ _ hvn (j - l0.length) b hj;exact ⟨u,by rw [show (I id).2+j - ((I id).2+0+len * i.size)=j - l0.length from by omega];exact r1,mono r2.place⟩
     .simp only [VR]
      exact ⟨Ye,cap,rfl,hfit,_,e',f,setRow_heap w _ c _ e' f hb,by rw [uT];exact QI⟩
    ·
     have hlt:cap<len+m:=by omega
     have aC0:∃ vo:List Value,vo.length=len * i.size/\(∀ w2:World,w2.heap=w.heap->(Builtin.firstCells i.size len (.slice (some (ad (I id).1 ((I id).2+0))) len cap)).run P w2= .ok vo.toArray w2) /\
       (∀ (j:Nat) b,l0[j]? =some b->∃ v,vo[j]? =some v/\VR G I N w (.cell id j) b v):=by
      refine ⟨(List.range (len * i.size)).map (fun j=>(c[(I id).2+j]?).getD default),by simp,fun w2 Xs=> ?_,fun j b hj=> ?_⟩
      .have:=run_loadCells_list (P:=P) w2 (ad (I id).1 ((I id).2+0)) ((List.range (len * i.size)).map (fun j=>(c[(I id).2+j]?).getD default)) (fun j v hj=>by
        have hjn:j<len * i.size:=by
         rcases y4 j (len * i.size) with h|h
         .exact h
         .simp [h] at hj
        simp [hjn] at hj;rw [aK,kA Xs,U5 hb];have hlt:(I id).2+j<c.size:=by omega
        simp [hlt] at hj ⊢;exact hj)
       simpa [Builtin.firstCells] using this
      .have hjn:j<len * i.size:=by have:=u7 hj;omega
       obtain ⟨u,g1,g2⟩:=h5 j b hj;exact ⟨u,by simp [hjn,g1],g2⟩
     obtain ⟨vo,bi1,bi2,bi3⟩:=aC0;obtain ⟨kM,HT,hrun⟩:=iU (P:=P) (w:=w) (ty:=o.type) hu hi hz ht2 (base:=some (ad (I id).1 ((I id).2+0))) (sLen:=len) (sCap:=cap) hl (hf w.drew rfl) (bi2 w.drew rfl) hlt (FQ hroom hbp) (vz hroom hlt);have hnb:jr w (w.drew.alloc (.cells (vo.toArray++vn.toArray++Builtin.zeroCells z.cells (kM - (len+m))) e)) (.cells (vo.toArray++vn.toArray++Builtin.zeroCells z.cells (kM - (len+m))) e):=by
      have:=jr.alloc w.drew (.cells (vo.toArray++vn.toArray++Builtin.zeroCells z.cells (kM - (len+m))) e);exact ⟨this.os,this.tape,this.output,B6 (Nat.le_succ _) this.drawn,this.size,this.old,this.new⟩
     have hsize:(vo.toArray++vn.toArray++Builtin.zeroCells z.cells (kM - (len+m))).size=kM * i.size:=by
      simp only [Array.size_append,List.size_toArray,yK,hzs,bi1,Dc];have:kM * i.size=(len+m) * i.size+(kM - (len+m)) * i.size:=by rw [<- Nat.add_mul];congr 1;omega
      rw [this,Nat.add_mul]
     refine ⟨.slice (some (ad w.heap.size 0)) (len+m) kM,_,iu G w.heap.size (.obj id),Bz I id (w.heap.size,0),?_,
      cB.Ub h hk aF hl0 cI.1 cI.2.1 cI.2.2 (hnb.ext h.wf _) (hnb.keeps h.wf _) (fun id' _=>hnb.Az h.wf _ id') (hnb.wf h.wf _) (fun i hi=>fI hi) ?_ uS ?_ (.obj id::st.o7) (by simp [Touch.K0])⟩
     .rw [wI,hx0,hrun];rfl
     .simp only [OR]
      have mono:∀ {pl:Place} {b:c8} {u:Value},VR G I N w pl b u->VR (iu G w.heap.size (.obj id)) (Bz I id (w.heap.size,0)) N _ pl (b.kill id) u :=
       fun hq=>VR.mono (hnb.ext h.wf _).sub (fun i hi=>fI hi.2) (fun i hi=>hi.1) _ _ _ (Or.inr (hnb.keeps h.wf _ _)) (VR.kill id _ _ _ hq)
      refine ⟨Ye,_,e,(0,0),by rw [dM];exact hnb.new,by simp,ny _,?_,fun j b hj=> ?_⟩
      .rw [hsize]
       simp only [dM,o8,Q7,hcl];have:(len+m) * i.size<=kM * i.size:=Nat.mul_le_mul_right _ HT;rw [Nat.add_mul] at this;omega
      .have hjl:=u7 hj
       rw [o8,Q7,hcl] at hjl;simp only [dM,Nat.zero_add];rw [show (vo.toArray++vn.toArray++Builtin.zeroCells z.cells (kM - (len+m)))[j]? =(vo++vn++(Builtin.zeroCells z.cells (kM - (len+m))).toList)[j]? from by rw [<- Array.getElem?_toList];simp,
        A7 (by rw [o8];omega)]
       by_cases hjc:j<l0.length
       .rw [A7 (by rw [Q7];exact hjc),fC] at hj
        rw [A7 (by omega)];rw [l6 hjc] at hj;simp at hj;subst hj;obtain ⟨v,g1,g2⟩:=bi3 j _ (l6 hjc);exact ⟨v,g1,mono g2⟩
       .rw [s5 (by rw [Q7];omega),Q7] at hj
        rw [s5 (by omega)];obtain ⟨u,r1,r2⟩:=J5.get _ _ hvn (j - l0.length) b hj;refine ⟨u,by rw [show j - vo.length=j - l0.length from by omega];exact r1,?_⟩;have hb' :b.K5<=id:=B6 (sw _ _ _ hj) be1;exact (VR.mono (hnb.ext h.wf _).sub (fun i hi=>fI (by have:=hi.2;omega)) (fun i hi=>hi.1) _ _ _ (Or.inl rfl) (VR.low id _ _ _ hb' r2)).place
     .simp only [VR]
      refine ⟨Ye,kM,by simp,HT,_,e,(0,0),by rw [dM];exact hnb.new,?_⟩;rw [hsize];simp
   .cases he
  .cases he
 .cases he
end
end Go.x9
namespace Go.x9
variable [D9]
section
variable {P:Program} {X:Cx} {l:F2} {S:Nat->Prop} {st:G4} {a:Act} {w w' :World} {G G' :Gh} {I I' :R3} {N:Nat->Prop} {D:Nat->Bool} {j9:List p6}
def LF (P:Program)(ck:Operand->y6->Bool)(o:Oper)(op:z6):Bool :=
 match o.op,op with
 | .mapUpdate t m k v,.dg kk m' k' v' =>ck m m' &&ck k k' &&ck v v' &&(match P.underlying t with
  |some (.map kt _)=>uY P kt kk
  |_=>false)
 |_,_=>false
theorem zh:∀ {ks:List CK} {l m:List KD},P5 ks (l.map KD.av) (m.map KD.av)=some true->l=m
 |[],[],[],_=>rfl
 |[],_::_,_,h=>by simp [P5] at h
 |[],[],_::_,h=>by simp [P5] at h
 |k::ks,[],m,h=>by simp [P5] at h
 |k::ks,x::l,[],h=>by simp_all [P5,KD.av]
 |k::ks,x::l,y::m,h=>by
  have hd:∀ (a b:Data),KD.av x= .d a->KD.av y= .d b->P5 (k::ks) (.d a::l.map KD.av) (.d b::m.map KD.av)=some true->x=y/\l=m:=by
   intro a b ha hb h;simp [P5] at h;split at h
   .split at h
    .rename_i u hu
     simp at h;obtain ⟨rfl,rfl⟩:=h;refine ⟨?_,zh hu⟩;simp_all [KD.av,Data.EU]<;>grind
    .cases h
   .cases h
  simp_all [KD.av]<;>grind
def Mh {kk:KK}{a b:Key}(h:Data.aT kk a b=some true):a=b:=by
 unfold Data.aT at h
 grind [zh]
def TX (k:Key):Instr.sameBits 10000 k.val k.val=true:=by
 have h:∀ x:KD,Instr.sameBits 9999 x.val x.val=true:=by intro x;cases x<;>simp [KD.val,Instr.sameBits,beq_toListBytes]
 cases k<;>simp [Key.val,Instr.sameBits,beq_toListBytes]
 grind
theorem Of {kk:KK}{t:TypeId}{d:TypeDesc}(ht:uY P t kk=true)(hd:P.underlying t=some d){key:Key}{nv:c8}{x:Value}(hx:VR G I N w .none nv x) :
  ∀ (es:List (Key×c8)) (xs:List MapEntry) (i:Nat) (es' :List (Key×c8)),ER G I N w es xs->de kk key nv es=some es' ->
   (qp (mN P w t d key.val kk) xs i none/\∀ born,ER G I N w es' (xs++[{ key:=key.val,val:=x,born }])) \/
   (∃ j v0,qp (mN P w t d key.val kk) xs i (some (i+j,v0))/\(∃ e0,xs[j]? =some e0/\e0.key=key.val)/\ER G I N w es' (xs.modify j fun e=>{ e with key:=key.val,val:=x }))
 |[],xs,i,es',hE,h=>by
  subst hE;simp [de] at h;refine Or.inl ⟨rfl,fun born=> ?_⟩
  grind [ER]
 |(k',v')::rest,xs,i,es',hE,h=>by
  obtain ⟨e,ys,rfl,h2,h3,h4⟩:=hE;unfold de at h;split at h
  .rename_i hk
   have he:=Mh hk;subst he;refine Or.inr ⟨0,e.val,.inl ⟨by simp_all [tJ],rfl⟩,⟨e,rfl,h2⟩,?_⟩
   grind [List.modify_zero_cons,ER]
  .split at h
   .rename_i r' hr
    have hne:mN P w t d key.val kk e.key false:=by simp_all [tJ]
    rcases Of ht hd hx rest ys (i+1) r' h4 hr with ⟨g1,g2⟩|⟨j,v0,g1,g2,g3⟩
    .refine Or.inl ⟨.inr ⟨hne,g1⟩,fun born=> ?_⟩
     grind [ER]
    .refine Or.inr ⟨j+1,v0,.inr ⟨hne,?_⟩,by simp_all,?_⟩
     all_goals grind [List.modify_succ_cons,ER]
   .cases h
  .cases h
theorem yY {kk:KK}{key:Key}{nv:c8}:∀ (es es' :List (Key×c8)),de kk key nv es=some es' ->A4 (es'.map (·.2))<=max (A4 (es.map (·.2))) nv.K5
 |[],es',h=>by grind [de,A4]
 |(k',v')::rest,es',h=>by
  unfold de at h;split at h
  .grind [A4]
  .split at h
   .rename_i r' hr
    have:=yY rest r' hr
    grind [A4]
   .cases h
  .cases h
def LO (h:RI X l S st a w G I N)(hD:∀ j,D j=true->S j){k:Nat}(hk:¬ S k)(aF:k<st.L.length)(entry:Nat){o:Oper}{kk:KK}{m ky v:y6}(hc:LF P (X.ck D) o (.dg kk m ky v)=true){E:Env}(hE:E.lim=l)
  {st' :G4} (he:U3 E k kk st (I5 st.T st.L m) (I5 st.T st.L ky) (I5 st.T st.L v)=some st'):∃ w',(execOp a.eval o).run P w= .ok .skip w' /\cB X l S entry st a w G I N st' k undef w' G I N:=by
 obtain ⟨dst,dW,ty,pos,after,guard⟩:=o;cases dW<;>simp only [LF,c7] at hc<;>try (cases hc;done)
 rename_i t m' k' v';obtain ⟨⟨⟨hm,hky⟩,hv⟩,ht⟩:=hc;have h1:=h.R7 hD _ _ hm;have h2:=h.R7 hD _ _ hky;have h3:=h.R7 hD _ _ hv;split at ht
 .rename_i kt et hu
  obtain ⟨dk,hdk⟩:∃ d,P.underlying kt=some d:=by
   cases hd:P.underlying kt with
   |none=>cases kk<;>simp [uY,eu,iL,hd] at ht
   |some d=>exact ⟨d,rfl⟩
  unfold U3 at he;split at he
  .rename_i id kd hp hq
   rw [hp] at h1;simp only [VR] at h1;have h2:=FB hq h2;split at he
   .rename_i es Tz
    split at he
    .rename_i cI
     split at he
     .rename_i hkk
      split at he
      .rename_i es' aB5
       cases he;have hO:=h.H id _ Tz;simp only [OR] at hO;obtain ⟨hN,arr,eS,g1,g2,g3,g4⟩:=hO;have hgo:(getObj (I id).1).run P w= .ok (.map arr eS) w:=by simp [getObj,Sem.run,g1]
       have hlt:(I id).1<w.heap.size:=by
        rcases y4 (I id).1 w.heap.size with h|h
        .exact h
        .rw [Array.getElem?_eq_none h] at g1;cases g1
       have rH:∀ ob:Obj,(setObj (I id).1 ob).run P w= .ok () { w with heap:=w.heap.setIfInBounds (I id).1 ob }:=by
        intro ob;simp [setObj,Sem.run,g1]
       have wrote:∀ ob:Obj,qq id (I id).1 w { w with heap:=w.heap.setIfInBounds (I id).1 ob } G:=by
        intro ob;refine ⟨g2,rfl,rfl,rfl,o5 _,by simp,fun b' hne=> ?_,fun c e f hc=> ?_⟩
        .simp [Array.getElem?_setIfInBounds_ne (fun e=>hne e.symm)]
        .rw [g1] at hc;cases hc
       have uS:(u0.map es').K5<=max (u0.map es).K5 (id+1)\/(l.base<=id/\l.strict<=id):=by
        left;have:=yY es es' aB5;simp only [u0.K5];have:=cI.1;omega
       have fin:∀ (Qn :Array MapEntry) (SG :Nat),ER G I N w es' Qn.toList->GH Qn SG ->cB X l S entry st a w G I N (put { st with H:=st.H.set id (.map es'),o7:= .obj id::st.o7 } k .any) k undef { w with heap:=w.heap.setIfInBounds (I id).1 (.map Qn SG) } G I N:=by
        intro Qn SG hER hBn;have hw:=wrote (.map Qn SG);refine cB.write h hk aF entry hw Tz ?_ (by rw [<- hE];exact cI.2) uS (fun _=>Iff.rfl) (by simp [VR]) (.obj id::st.o7) (by simp [Touch.K0]);simp only [OR];exact ⟨hN,Qn,SG,by simp [hlt],g2,ER.mono hw.ext (fun _ _=>rfl) (fun _ h=>h) _ _ hER,hBn⟩
       have hck:=iE (P:=P) (w:=w) ht (NB hkk) false 9998;rw [<- h2] at hck;have hp:=Of (P:=P) (w:=w) (key:=kd) ht hdk h3 es arr.toList 0 es' g3 aB5;rw [<- h2] at hp
       rcases hp with ⟨f1,f2⟩|⟨j,v0,f1,⟨e0,f2,f2'⟩,f3⟩
       .have hfk:(Instr.findKey kt (a.eval k') arr.toList).run P w= .ok none w:=nM hdk f1
        refine ⟨_,?_,fin (arr.push { key:=a.eval k',val:=a.eval v',born:=eS }) (eS+1) (by simpa using f2 eS) (g4.push _ _)⟩;simp [execOp,h1.2,Instr.mapUpdate,run_underlying hu,hgo,hck,hfk,rH]
       .have hfk:(Instr.findKey kt (a.eval k') arr.toList).run P w= .ok (some (0+j,v0)) w:=nM hdk f1
        have hkeep:(Instr.keyThatStays (((arr[0+j]?).map (·.key)).getD (a.eval k')) (a.eval k')).run P w= .ok (a.eval k') w:=by
         have e1:arr[0+j]? =some e0:=by simpa using f2
         have GG:=TX kd;rw [<- h2] at GG;rw [e1];simp only [L4,Option.getD_some,f2',Instr.keyThatStays,GG,if_true,Sem.run_pure]
        refine ⟨_,?_,fin (arr.modify (0+j) fun e=>{ e with key:=a.eval k',val:=a.eval v' }) eS (by simpa using f3) (g4.modify _ _ fun _=>rfl)⟩;simp only [execOp,h1.2,Instr.mapUpdate,Sem.run_bind,run_underlying hu,Result.andThen_ok,hgo,hck,hfk,hkeep,rH,Sem.run_pure]
      .cases he
     .cases he
    .cases he
   .cases he
  .cases he
 .cases ht
end
end Go.x9
namespace Go.x9
variable [D9]
section
variable {P:Program} {X:Cx} {l:F2} {S:Nat->Prop} {st:G4} {a:Act} {w w' :World} {G G' :Gh} {I I' :R3} {N:Nat->Prop} {D:Nat->Bool} {j9:List p6}
def Ie (h:RI X l S st a w G I N)(hpv:PV X j9 S st a w I)(hT:st.T.length=X.names.length)(hD:∀ j,D j=true->S j){x:Operand}{y:y6}(hc:X.ck D x y=true)(hn:isNil l j9 st y=true) :
  a.eval x= .slice none 0 0:=by
 unfold isNil at hn;split at hn
 .unfold Cx.ck at hc
  split at hc
  .simp_all
  .simp_all
  .rename_i v' b heq
   cases heq;have:=cF (G:=G) (I:=I) (N:=N) (w:=w) _ _ hc;simp_all [VR,Act.eval]
  all_goals simp_all
 .rename_i j
  have al0:∃ t,x= .tmp t/\D j=true/\(X.ops[j]?).bind (·.dst)=some t/\X.names.contains t=false:=by
   simp_all [Cx.ck]<;>grind
  obtain ⟨t,rfl,hDj,zX,HU⟩:=al0;have hSj:=hD j hDj;simp only [Act.eval];split at hn
  .have h1:=h.L j hSj t zX HU
   simp_all [aM,VR]
  .rename_i n0 c0 hj
   split at hn
   .rename_i ai hai
    unfold oo at hn;split at hn
    .rename_i s hop
     simp only [c7,n5] at hn;obtain ⟨hun,hs⟩:=hn;split at hs
     .obtain ⟨ts,hts⟩:∃ ts,X.names[s]? =some ts:=by
       grind
      have h1:=h.T s ts hts;have he:=hpv.slot j ai s ts t hSj (by rw [hj];simp) hai hop hts zX HU hun;simp_all [VR]
     .cases hs
    .rename_i x' hop
     split at hn
     .rename_i id off Yo
      simp only [c7,n5] at hn;obtain ⟨⟨hun,hmay⟩,hs⟩:=hn;split at hs
      .rename_i cs hcs
       split at hs
       .rename_i hco
        have hO:=h.H id _ hcs;obtain ⟨hN,c,e,f,g1,g2,g3,g4,g5⟩:=hO;have he:=hpv.cell j ai x' id off t cs hSj (by rw [hj];simp) hai hop Yo hcs (u7 hco) hun zX HU
        grind [U5,Option.some_inj,VR]
       .cases hs
      .cases hs
     .cases hn
    .cases hn
   .cases hn
  .cases hn
 .cases hn
def Cm (h:RI X l S st a w G I N)(hpv:PV X j9 S st a w I)(hT:st.T.length=X.names.length)(hD:∀ j,D j=true->S j){k:Nat}(hk:¬ S k)(aF:k<st.L.length)(entry:Nat){y9:Option Nat}(hid:GJ l st N y9){o:Oper}{sz bytes:Nat}{x y:y6}
  (hc:gY P (X.ck D) o (.append sz bytes true x y)=true) {E:Env} (hE:E.lim=l) {st' :G4} (he:M8 E j9 y9 k sz bytes true st x (I5 st.T st.L y)=some st') :
  (∃ v w' G',(execOp a.eval o).run P w= .ok (.value v) w' /\cB X l S entry st a w G I N st' k v w' G' I N) \/
  ∃ v w' G' I' N' ob av,(execOp a.eval o).run P w= .ok (.value v) w' /\st' =put (L7 st y9 ob) k av/\cB X l S entry st a w G I N st' k v w' G' I' N' /\(∀ i,N' i↔N i\/i=newId st y9):=by
 obtain ⟨x0,y0,t,t2,e,i,z,hop,Sa,hcy,ht2,hsz,hu,hi,hsi,Yi,hz,hzs,hbp⟩:=gH hc;have wI:(execOp a.eval o).run P w=((Builtin.append_ #[t,t2] o.type #[a.eval x0,a.eval y0]).run P w).andThen fun v w' => .ok (.value v) w' :=by
  simp_all [guard,execOp,resolve,invoke,builtin]
 unfold M8 at he;rw [hE] at he;simp [if_true] at he;split at he
 .rename_i m cs hcs
  split at he
  .rename_i cI
   obtain ⟨hnil,hroom,_⟩:=cI;have hx0:=Ie h hpv hT hD Sa hnil;obtain ⟨vn,hl,hf,hvn,hcl⟩:=vL (P:=P) h.H (h.R7 hD _ _ hcy) hsz hcs;have Dc:vn.length=m * sz:=by grind [J5.length]
   subst hsi Yi;split at he
   .rename_i hm
    subst hm;cases he;have hrun:=fR (P:=P) (w:=w) (ty:=o.type) hu hi ht2 (base:=none) (sLen:=0) (sCap:=0) hl (hf w rfl) (o5 _);refine Or.inl ⟨.slice none 0 0,w,G,?_,cB.same h hk aF entry (by simp [VR])⟩;simp_all
   .cases he
    have hlt:0<0+m:=by omega
    obtain ⟨kM,HT,hrun⟩:=iU (P:=P) (w:=w) (ty:=o.type) hu hi hz ht2 (base:=none) (sLen:=0) (sCap:=0) (old:= #[]) hl (hf w.drew rfl) (by rfl) hlt (by rw [Nat.zero_add];exact FQ hroom hbp) (by simp_all [Nat.zero_add,vz]);rw [Nat.zero_add] at HT hrun;have hnb:jr w (w.drew.alloc (.cells (#[]++vn.toArray++Builtin.zeroCells z.cells (kM - m)) e)) (.cells (#[]++vn.toArray++Builtin.zeroCells z.cells (kM - m)) e):=by
     have:=jr.alloc w.drew (.cells (#[]++vn.toArray++Builtin.zeroCells z.cells (kM - m)) e);exact ⟨this.os,this.tape,this.output,B6 (Nat.le_succ _) this.drawn,this.size,this.old,this.new⟩
    have hsize:(#[]++vn.toArray++Builtin.zeroCells z.cells (kM - m):Array Value).size=kM * i.size:=by
     simp [Array.size_append,List.size_toArray,yK,hzs,Dc,A3,Nat.zero_add];rw [<- Nat.add_mul];simp_all
    refine Or.inr ⟨.slice (some (ad w.heap.size 0)) m kM,_,_,_,_,.cells cs,_,by simp_all,rfl,cB.newObj h hk aF entry hid hnb (.cells cs) ?_ ?_,fun i=>Iff.rfl⟩
    .simp only [OR]
     refine ⟨Or.inr trivial,_,e,(0,0),by rw [dM];exact hnb.new,by simp,ny _,?_,fun j b hj=> ?_⟩
     .simp_all [dM,Nat.zero_add,Nat.mul_le_mul_right]
     .simp only [dM]
      obtain ⟨u,r1,r2⟩:=J5.get _ _ hvn j b hj;refine ⟨u,?_,?_⟩
      .grind
      .exact (hnb.vr h.wf _ (fun j hj=>fI (by rintro rfl;exact hid.new hj)) (fun _ h=>Or.inl h) r2).place
    .simp only [VR]
     refine ⟨Or.inr trivial,kM,by simp,HT,_,e,(0,0),by rw [dM];exact hnb.new,?_⟩;simp_all
  .cases he
 .cases he
def zj (P:Program)(ck:Operand->y6->Bool)(o:Oper)(op:z6):Bool :=
 match o.op,op with
 | .call ⟨.builtin .clear,args,argTypes⟩,.clear sz zero y =>
  (match args.toList,argTypes.toList with
   |[x],[t]=>ck x y&&decide (0<sz)&&(match P.underlying t with
    |some (.slice e)=>(match P.info? e with
     |some i=>(match i.zero with|some z=>consts z.cells.toList zero&&z.cells.size==sz&&zero.all c8.one|none=>false)
     |none=>false)
    |_=>false)
   |_,_=>false)
 |_,_=>false
theorem HF {α:Type}(zero:List α):∀ (n i:Nat),((c9 n zero).flatten)[i]? =if i<n * zero.length then zero[i % zero.length]? else none
 |0,i=>by simp
 |n+1,i=>by
  rw [List.replicate_succ,List.flatten_cons]
  by_cases h:i<zero.length
  .rw [A7 h,if_pos (by grind),Nat.mod_eq_of_lt h]
  .rw [s5 (by omega),HF zero n (i - zero.length)]
   by_cases h2:i - zero.length<n * zero.length
   .rw [if_pos h2,if_pos (by grind),Nat.mod_eq_sub_mod (a:=i) (b:=zero.length) (by omega)]
   grind
theorem GR {zero:List c8}(h:A4 zero=0):∀ n:Nat,A4 (c9 n zero).flatten=0
 |0=>by simp [A4]
 |n+1=>by rw [List.replicate_succ,List.flatten_cons,fU,h,GR h n];rfl
def Qu (h:RI X l S st a w G I N)(hD:∀ j,D j=true->S j){k:Nat}(hk:¬ S k)(aF:k<st.L.length)(entry:Nat){o:Oper}{sz:Nat}{zero:List c8}{y:y6}
  (hc:zj P (X.ck D) o (.clear sz zero y)=true) {E:Env} (hE:E.lim=l) {st' :G4} (he:X9 E k sz zero st (I5 st.T st.L y)=some st') :
  ∃ w',(execOp a.eval o).run P w= .ok (.value (.tuple #[])) w' /\cB X l S entry st a w G I N st' k (.tuple #[]) w' G I N:=by
 unfold zj at hc;split at hc
 .rename_i args argTypes sz' zero' y' hop heq
  cases heq;split at hc
  .rename_i x t ha ht
   have e1:args= #[x]:=by grind
   have e2:argTypes= #[t]:=by grind
   subst e1 e2;simp only [c7,decide_eq_true_eq] at hc;obtain ⟨⟨hx,hsz⟩,hc⟩:=hc;split at hc
   .rename_i e hu
    split at hc
    .rename_i i hi
     split at hc
     .rename_i z hz
      simp only [c7,beq_iff_eq] at hc;obtain ⟨⟨hcs,hzs⟩,hone⟩:=hc;have wI:(execOp a.eval o).run P w=((Builtin.clear_ #[t] o.type #[a.eval x]).run P w).andThen fun v w' => .ok (.value v) w' :=by
       simp_all [guard,execOp,resolve,invoke,builtin]
      have hv:=h.R7 hD _ _ hx;unfold X9 at he;split at he
      .rename_i id z' lo len hy
       rw [hy] at hv;obtain ⟨hN,cap,hx0,hcap,_⟩:=hv;split at he
       .rename_i cI
        obtain ⟨rfl,hzl,hzb,hmay⟩:=cI;split at he
        .rename_i H' hw
         cases he;obtain ⟨l0,c,e',f,g1,g2,g3,g4,g5,g6,g7,g8,g9⟩:=h.H.wr hw;have hvz:=ek (G:=G) (I:=I) (N:=N) (w:=w) _ _ hcs
         by_cases hlen:len=0
         .subst hlen
          have hH' :H' =st.H:=by
           rw [g2];simp only [List.replicate_zero,List.flatten_nil,splice,A3,Nat.add_zero,List.append_nil,List.take_append_drop];apply List.ext_getElem?
           grind
          have hM:=cB.write (D1:=N) h hk aF entry (w' :=w) (G:=G) (id:=id) (b:=(I id).1) ⟨g6,rfl,rfl,rfl,o5 _,rfl,fun _ _=>rfl,fun c _ _ h=>⟨c,h,rfl⟩⟩ g1 (h.H id _ g1) (by grind) (Or.inl (by omega)) (fun _=>Iff.rfl) (v:= .tuple []) (x:= .tuple #[]) (by grind [VR,J5]) (.obj id::st.o7) (by simp [Touch.K0]);have rH:st.H.set id (.cells l0)=st.H:=by
           grind
          refine ⟨w,?_,by grind⟩;rw [wI,hx0];simp [Builtin.clear_,run_underlying hu]
         .have hzc:(Builtin.zeroCells z.cells len).toList.length=len * z' :=by simp [yK,hzs]
          have hfl:((c9 len zero).flatten).length=len * z' :=by simp [hzl]
          have HP:∀ (j:Nat) b,((c9 len zero).flatten)[j]? =some b->∃ u,(Builtin.zeroCells z.cells len).toList[j]? =some u/\VR G I N w .none b u:=by
           intro j b hj;rw [HF] at hj;split at hj
           .rename_i hjl
            rw [hzl] at hj hjl;obtain ⟨u,r1,r2⟩:=J5.get _ _ hvz (j % z') b hj;have hzj:z.cells[j % z']? =some u:=by simp_all
            have bJ6 :z.cells[j % z.cells.size]! =u:=by
             grind
            simp_all [Array.range,Array.getElem?_toList,Builtin.zeroCells,Array.getElem?_map,L4]
           .cases hj
          obtain ⟨hO,hW⟩:=CD g4 g5 g6 g7 g8 g9 g3 (vs:=(Builtin.zeroCells z.cells len).toList) (by rw [hzc,hfl]) (fun j b hj=>by
           obtain ⟨u,r1,r2⟩:=HP j b hj;exact ⟨u,r1,r2.place⟩)
          have TD:Cu (Builtin.zeroCells z.cells len).toList:=by
           intro u hu';obtain ⟨j,hj,rfl⟩:=List.getElem_of_mem hu';have hjl:j<((c9 len zero).flatten).length:=by omega
           obtain ⟨u',r1,r2⟩:=HP j _ (l6 hjl)
           grind [c9,List.getElem_mem,List.mem_flatten,kP,L9]
          have hrun:=run_storeCells_at (P:=P) (I id).1 ((I id).2+lo) e' f (Builtin.zeroCells z.cells len).toList 0 c w g5 g7 (by omega) TD;have uS:(u0.cells (splice l0 lo (c9 len zero).flatten)).K5<=max (u0.cells l0).K5 (id+1)\/(l.base<=id/\l.strict<=id):=by
           grind [wm,c9,GR,u0.K5]
          have hM:=cB.write (D1:=N) h hk aF entry hW g1 hO (by simp_all) uS (fun _=>Iff.rfl) (v:= .tuple []) (x:= .tuple #[]) (by simp_all [VR,J5]) (.obj id::st.o7) (by simp [Touch.K0]);simp_all [zeroValue,typeInfo,Builtin.clear_,run_underlying]
        .cases he
       .cases he
      .rename_i cells hy
       cases he;rw [hy] at hv;refine ⟨w,?_,cB.same h hk aF entry (by simp_all [VR,J5])⟩;rw [wI]
       rcases hv with ⟨hv|⟨a0,hv⟩,_⟩|⟨b,o',cap,hv,_⟩
       all_goals simp_all [Builtin.clear_,run_underlying]
      .cases he
     .cases hc
    .cases hc
   .cases hc
  .cases hc
 .cases hc
end
end Go.x9
namespace Go.x9
variable [D9]
def hold (G:Gh)(n:Nat):Gh:=fun b =>
 match G b with
 | .grow m (.cell id off)=>if id<n then .grow m (.cell id off) else .held m
 | .grow m _=> .held m
 | .obj id=>if id<n then .obj id else .held 0
 |x=>x
def di (G G1:Gh)(n:Nat):Gh:=fun b=>if hold G n b=G b then G1 b else G b
section
variable {G G1:Gh} {w w1:World} {n:Nat}
theorem yS (b o:Nat):gX (hold G n) b o↔gX G b o:=by
 grind [gX,hold]
def sW:Ext G w (hold G n) w where
 os:=rfl
 tape:=rfl
 output:=rfl
 drawn _:=o5 _
 size:=o5 _
 kg b o h:=⟨(yS b o).2 h,rfl⟩
 still b h:=⟨by grind [hold],rfl⟩
 shape _ c _ _ h:=⟨c,h,rfl⟩
def NI (h:WF G w):WF (hold G n) w:=fun b hb=>by simp [hold,h b hb]
def nV {b id:Nat}(hid:id<n)(h:G b= .obj id):hold G n b= .obj id:=by grind [hold]
def kH {id off:Nat}(hid:id<n):bz (.cell id off) G w (hold G n) w:=fun b m hb=>⟨by grind [hold],rfl⟩
def Da {b m:Nat}{pl:Place}(hn:n=0):hold G n b≠ .grow m pl:=by
 grind [hold]
def HV {b id:Nat}(h:hold G n b= .obj id):id<n:=by
 grind [hold]
theorem hidden {b:Nat}(h:hold G n b≠G b):∃ m,hold G n b= .held m:=by
 grind [hold]
theorem gw {b:Nat}(he:Ext (hold G n) w G1 w1)(h:hold G n b≠G b):di G G1 n b=G b/\w1.heap[b]? =w.heap[b]? /\G1 b=hold G n b:=by
 obtain ⟨m,hm⟩:=hidden h;obtain ⟨h1,h2⟩:=he.still b (Or.inr ⟨m,hm⟩);simp_all [di]
def gy {b:Nat}(h:hold G n b=G b):di G G1 n b=G1 b:=by simp [di,h]
def Bw (he:Ext (hold G n) w G1 w1):Ext G w (di G G1 n) w1 where
 os:=he.os
 tape:=he.tape
 output:=he.output
 drawn:=he.drawn
 size:=he.size
 kg b o h:=by
  obtain ⟨h1,h2⟩:=he.kg b o ((yS b o).2 h);refine ⟨?_,h2⟩
  by_cases hh:hold G n b=G b
  .simp_all [gX,gy]
  .unfold gX at h ⊢;rw [(gw he hh).1];exact h
 still b h:=by
  have hh:hold G n b=G b:=by grind [hold]
  obtain ⟨h1,h2⟩:=he.still b (by simp_all);simp_all [gy]
 shape:=he.shape
def mI (he:Ext (hold G n) w G1 w1):Sub G1 w1 (di G G1 n) w1 where
 kg b o h:=by
  by_cases hh:hold G n b=G b
  .simp_all [gX,gy]
  .obtain ⟨h1,h2,h3⟩:=gw he hh
   grind [gX,hold,yS]
 shape _ c _ _ h:=⟨c,h,rfl⟩
theorem aO (he:Ext (hold G n) w G1 w1){b:Nat}(h:∀ m,G1 b≠ .held m):di G G1 n b=G1 b:=by
 by_cases hh:hold G n b=G b
 .exact gy hh
 .obtain ⟨_,_,h3⟩:=gw he hh
  grind [hidden,absurd]
def jI (he:Ext (hold G n) w G1 w1)(q:Place):bz q G1 w1 (di G G1 n) w1 :=
 fun b m hb=>⟨by grind [aO],rfl⟩
def dK (he:Ext (hold G n) w G1 w1){q:Place}(hq:∀ id off,q= .cell id off->n<=id):bz q G w (di G G1 n) w1:=by
 intro b m hb
 grind [hold,gw]
def Bx (he:Ext (hold G n) w G1 w1){id:Nat}(hid:n<=id):∀ b,G b= .obj id->di G G1 n b= .obj id/\w1.heap[b]? =w.heap[b]? :=by
 grind [hold,gw]
def DX (he:Ext (hold G n) w G1 w1)(hwf:WF G w)(h1:WF G1 w1):WF (di G G1 n) w1:=by
 intro b hb;have hg:G b= .free:=hwf b (B6 he.size hb);have hh:hold G n b=G b:=by simp [hold,hg]
 rw [gy hh];exact h1 b hb
end
structure yM (l:F2)(H:o9)(w:World)(G:Gh)(I:R3)(N:Nat->Prop)(args:List c8)(G6:Array Value):Prop where
 args:J5 G I N w args G6.toList
 hr:HR G I N w H
 wf:WF G w
 bt:∀ id,N id->id<H.length
 V4:Qc l H
 base:l.base<=H.length
 strict:l.strict<=l.base
 kI:∀ b id:Nat,G b= .obj id->id<H.length
 bj2:H.length=0->∀ b n pl,G b≠ .grow n pl
structure ki (l:F2)(H:o9)(w:World)(G:Gh)(I:R3)(N:Nat->Prop)(v:c8)(H1:o9)(x:Value)(w' :World)(G' :Gh)(I' :R3)(N' :Nat->Prop):Prop where
 val:VR G' I' N' w' .ret v x
 hr:HR G' I' N' w' H1
 wf:WF G' w'
 ext:Ext G w G' w'
 ez:kj l G w G' w'
 inj:∀ id,id<H.length->N id->I' id=I id
 mono:∀ id,N id->N' id
 old:∀ id,id<H.length->N' id->N id
 bt:∀ id,N' id->id<H1.length
 hle:∀ (id:Nat) (o' :u0),id<l.base->H1[id]? =some o' ->o'.K5<=id+1\/∃ o:u0,H[id]? =some o/\o'.K5<=o.K5
 V4:Qc l H1
def nx (P:Program)(cf:rZ)(prom:FuncId->Bool):Prop :=
 ∀ f args H l v H1,cf f args H l=some (v,H1)->∀ w G I N G6,yM l H w G I N args G6->(prom f=false->l.base=H.length) ->
  Calls P f G6 w fun e w' =>∃ x G' I' N',e= .returned x/\ki l H w G I N v H1 x w' G' I' N'
def S0 (P:Program)(f:FuncId):Bool :=
 match P.funcs[f]? with
 | some fn => fn.name != "runtime.NumGoroutine" && fn.body.isSome
 |none=>false
def tG {P:Program}{w:World}{f:FuncId}(h:S0 P f=true)(args:Array Value):(callFunc f args).run P w= .ok (.enter f args) w:=by
 unfold S0 at h;split at h
 all_goals (simp_all [callFunc]<;>grind)
end Go.x9
namespace Go.x9
variable [D9]
theorem GQ:∀ (l:List u0) (i:Nat) (o:u0),l[i]? =some o->o.K5<=L8 l
 |[],_,_,h=>by simp at h
 |v::vs,0,o,h=>by grind [L8]
 |v::vs,i+1,o,h=>by have:=GQ vs i o (by simpa using h);grind [L8]
theorem sM:∀ (l:List u0) (k i:Nat) (o:u0),T6 l k=true->l[i]? =some o->o.K5<=k+i+1
 |[],_,_,_,_,h=>by simp at h
 |v::vs,k,0,o,hd,h=>by
  simp_all [T6,c7,decide_eq_true_eq]
 |v::vs,k,i+1,o,hd,h=>by
  simp [T6,c7] at hd;have:=sM vs (k+1) i o hd.2 (by simpa using h);omega
def qJ {H:o9}{n s i:Nat}{o:u0}(hi:i<n)(hs:s<=i)(h:H[i]? =some o):((H.take n).drop s)[i - s]? =some o:=by
 simp_all
def vG {l:F2}{H:o9}{n:Nat}(hd:Qc l H)(hc:L8 ((H.take n).drop l.strict)<=n){id:Nat}{o:u0}(hid:id<n)(h:H[id]? =some o):o.K5<=n:=by
 by_cases hs:id<l.strict
 .have:=(hd id o h).1 hs;omega
 .have:=GQ _ _ _ (qJ (s:=l.strict) hid (by omega) h);omega
def JD (H:o9)(s n:Nat):C9 H s n<=n:=by
 grind [C9]
def FZ {l:F2}{H:o9}{n:Nat}(hd:Qc l H){id:Nat}{o:u0}(hid:id<C9 H l.strict n)(h:H[id]? =some o):o.K5<=id+1:=by
 unfold C9 at hid;split at hid
 .exact (hd id o h).1 (by omega)
 .split at hid
  .rename_i hdf
   by_cases hs:id<l.strict
   .exact (hd id o h).1 hs
   .have:=sM _ _ _ _ hdf (qJ (s:=l.strict) hid (by omega) h);omega
  .exact (hd id o h).1 hid
def VR.GN {G:Gh}{I:R3}{N:Nat->Prop}{w:World}{pl wW :Place}{a:c8}{x:Value}(ha:∀ z n c,a≠ .own z n c)(h:VR G I N w pl a x):VR G I N w wW a x:=by
 cases a with
 |own z n c=>simp_all
 |any=>simp [VR]
 |_=>simp_all [VR]
structure Xx (pl:Place)(l:F2)(H:o9)(w:World)(G:Gh)(I:R3)(N:Nat->Prop)(v:c8)(H1:o9)(x:Value)(w' :World)(G' :Gh)(I' :R3)(N' :Nat->Prop):Prop where
 val:VR G' I' N' w' pl v x
 hr:HR G' I' N' w' H1
 wf:WF G' w'
 ext:Ext G w G' w'
 ez:kj l G w G' w'
def ki.at {l:F2}{H:o9}{w:World}{G:Gh}{I:R3}{N:Nat->Prop}{v:c8}{H1:o9}{x:Value}{w' :World}{G' :Gh}{I' :R3}{N' :Nat->Prop}
  (h:ki l H w G I N v H1 x w' G' I' N') {pl:Place} (hp:pl≠ .none):∃ G2,Xx pl l H w G I N v H1 x w' G2 I' N' :=by
 by_cases ho:∃ z n c,v= .own z n c
 .obtain ⟨z,n,c,rfl⟩:=ho
  obtain ⟨G2,hm,hv⟩:=iT hp h.val;refine ⟨G2,hv,h.hr.Iy hm (by simp),hm.wf h.wf,h.ext.trans hm.ext,h.ez.trans fun id _=>⟨fun b hb=>⟨hm.obj b id hb,rfl⟩,fun off=>hm.keeps _ (by simp)⟩⟩
 .exact ⟨G',h.val.GN (fun z n c e=>ho ⟨z,n,c,e⟩),h.hr,h.wf,h.ext,h.ez⟩
section
variable {P:Program} {X:Cx} {l:F2} {S:Nat->Prop} {st:G4} {a:Act} {w w1:World} {G G1:Gh} {I I1:R3} {N N1:Nat->Prop}
structure Ln (X:Cx)(l:F2)(S:Nat->Prop)(entry:Nat)(st:G4)(a:Act)(w:World)(G:Gh)(I:R3)(N:Nat->Prop)
  (st' :G4) (k:Nat) (x' :Value) (w' :World) (G' :Gh) (I' :R3) (N' :Nat->Prop):Prop where
 mid:cB X l S entry st a w G I N st' k x' w' G' I' N'
 bt:∀ id,N' id->id<st'.H.length
 old:∀ id,id<st.H.length->N' id->N id
def qW (h:RI X l S st a w G I N)(eV:∀ id,N id->id<st.H.length){k:Nat}(hk:¬ S k)(aF:k<st.L.length)(entry:Nat){n m:Nat}(hn:n<=st.H.length)(hm:m<=n)
  {l' :F2} (hl' :l'.base=n) (hmay:∀ id,id<n->l.may id=false->l'.may id=false) (ab3 :∀ id,m<=id->id<n->l'.may id=false)
  {v:c8} {H1:o9} {x:Value} (hlen:H1.length=n) (hc:ki l' (st.H.take n) w (hold G n) I (fun i=>N i/\i<n) v H1 x w1 G1 I1 N1) {o7:List Touch} (QU:∀ id,o7.any (Touch.K0 id)=false->m<=id) :
  ∃ G' I',Ln X l S entry st a w G I N (put { st with H:=H1.take m++st.H.drop m,o7 } k v) k x w1 G' I' N:=by
 have htl:(st.H.take n).length=n:=by simp;omega
 have hN1:∀ id,N1 id->N id/\id<n:=fun id hid=>by
  have:=hc.bt id hid;exact hc.old id (by omega) hid
 have hI1:∀ id,N id->id<n->I1 id=I id:=fun id hid hlt=>hc.inj id (by omega) ⟨hid,hlt⟩
 obtain ⟨G2,hp⟩:=hc.at (pl:= .loc k) (by simp);have hx:=Bw hp.ext;have Yv:∀ id,m<=id->∀ b,G b= .obj id->di G G2 n b= .obj id/\w1.heap[b]? =w.heap[b]? :=by
  intro id hid b hb
  by_cases hlt:id<n
  .obtain ⟨g1,g2⟩:=(hp.ez id (ab3 id hid hlt)).1 b (nV hlt hb)
   exact ⟨by rw [aO hp.ext (by simp_all)];exact g1,g2⟩
  .exact Bx hp.ext (by omega) b hb
 have TW:∀ id,m<=id->∀ off,bz (.cell id off) G w (di G G2 n) w1:=by
  intro id hid off
  by_cases hlt:id<n
  .intro b q hb
   obtain ⟨g1,_⟩:=kH (G:=G) (w:=w) (off:=off) hlt b q hb;obtain ⟨g3,g4⟩:=(hp.ez id (ab3 id hid hlt)).2 off b q g1;exact ⟨by rw [aO hp.ext (by simp_all)];exact g3,g4⟩
  .exact dK hp.ext (by simp_all)
 have az6:∀ id o',(H1.take m++st.H.drop m)[id]? =some o' ->(id<m/\H1[id]? =some o')\/(m<=id/\st.H[id]? =some o'):=by
  grind
 have hle:∀ id o',(H1.take m++st.H.drop m)[id]? =some o' ->o'.K5<=id+1\/∃ o:u0,st.H[id]? =some o/\o'.K5<=o.K5:=by
  intro id o' ho'
  rcases az6 id o' ho' with ⟨hlt,ho⟩|⟨_,ho⟩
  .rcases hc.hle id o' (by omega) ho with hb|⟨o,h1,h2⟩
   all_goals grind
  simp_all
 have bt5:(H1.take m++st.H.drop m).length=st.H.length:=by simp;omega
 have hII:∀ id,N id->I1 id=I id\/n<=id:=fun id hid=>by
  grind
 refine ⟨di G G2 n,fun id=>if id<n then I1 id else I id,?_,?_,?_⟩
 .have hIo:∀ id,N id->(if id<n then I1 id else I id)=I id:=by
   simp_all
  have hIn:∀ id,N1 id->(if id<n then I1 id else I id)=I1 id:=by
   simp_all
  have hNn:∀ id,N1 id->N id:=fun id hid=>(hN1 id hid).1
  refine ⟨⟨?_,?_,?_,DX hp.ext h.wf hp.wf,?_⟩,?_,hx,?_,?_,fun id _ hN=>hIo id hN,fun _ h=>h,?_,?_⟩
  .intro s t ht
   exact VR.mono hx hIo (fun _ h=>h) _ _ _ (Or.inr (dK hp.ext (by simp))) (h.T s t ht)
  .intro j hj d hd HU
   have:k≠j:=by grind
   simp only [x9.put];rw [P8 _ _ _ _ _ this];exact VR.mono hx hIo (fun _ h=>h) _ _ _ (Or.inr (dK hp.ext (by simp))) (h.L j hj d hd HU)
  .intro id o' ho'
   rcases az6 id o' ho' with ⟨hlt,ho⟩|⟨hge,ho⟩
   .refine OR.mono (mI hp.ext) hIn hNn id o' (fun hb=> ?_) (fun off=>jI hp.ext _) (hp.hr id o' ho)
    exact ⟨by rw [aO hp.ext (by simp_all)];exact hb,rfl⟩
   .exact OR.mono hx hIo (fun _ h=>h) id o' (fun hb=>Yv id hge _ hb) (TW id hge) (h.H id o' ho)
  .intro id o' ho'
   rcases hle id o' ho' with hb|⟨o,h1,h2⟩
   .omega
   .obtain ⟨d1,d2⟩:=h.V4 id o h1
    omega
  .simp only [x9.put]
   rw [O1 _ _ _ _ aF];exact VR.mono (mI hp.ext) hIn hNn _ _ _ (Or.inr (jI hp.ext _)) hp.val
  .intro id hid
   by_cases hlt:id<n
   .obtain ⟨p1,p2⟩:=hp.ez id (hmay id hlt hid)
    refine ⟨fun b hb=> ?_,fun off b q hb=> ?_⟩
    .obtain ⟨g1,g2⟩:=p1 b (nV hlt hb)
     exact ⟨by rw [aO hp.ext (by simp_all)];exact g1,g2⟩
    .obtain ⟨g1,_⟩:=kH (G:=G) (w:=w) (off:=off) hlt b q hb
     obtain ⟨g3,g4⟩:=p2 off b q g1;exact ⟨by rw [aO hp.ext (by simp_all)];exact g3,g4⟩
   grind
  all_goals grind [x9.put]
 all_goals simp_all [x9.put]
def LB (h:RI X l S st a w G I N)(eV:∀ id,N id->id<st.H.length){k:Nat}(hk:¬ S k)(aF:k<st.L.length)(entry:Nat)
  {v:c8} {H1:o9} {x:Value} (hlen:st.H.length<=H1.length) (hc:ki l st.H w (hold G st.H.length) I N v H1 x w1 G1 I1 N1) {o7:List Touch} (QU:∀ id,o7.any (Touch.K0 id)=false->st.H.length<=id) :
  ∃ G',Ln X l S entry st a w G I N (put { st with H:=H1,o7 } k v) k x w1 G' I1 N1:=by
 obtain ⟨G2,hp⟩:=hc.at (pl:= .loc k) (by simp);have hx:=Bw hp.ext;have hIo:∀ id,N id->I1 id=I id:=fun id hid=>hc.inj id (eV id hid) hid
 refine ⟨di G G2 st.H.length,?_,hc.bt,hc.old⟩;refine ⟨⟨?_,?_,?_,DX hp.ext h.wf hp.wf,hc.V4⟩,?_,hx,?_,?_,fun id _ hN=>hIo id hN,hc.mono,hlen,fun id o' hb ho' =>hc.hle id o' hb ho'⟩
 .intro s t ht
  exact VR.mono hx hIo hc.mono _ _ _ (Or.inr (dK hp.ext (by simp))) (h.T s t ht)
 .intro j hj d hd HU
  have:k≠j:=by grind
  simp only [x9.put];rw [P8 _ _ _ _ _ this];exact VR.mono hx hIo hc.mono _ _ _ (Or.inr (dK hp.ext (by simp))) (h.L j hj d hd HU)
 .intro id o' ho'
  refine OR.mono (mI hp.ext) (fun _ _=>rfl) (fun _ h=>h) id o' (fun hb=> ?_) (fun off=>jI hp.ext _) (hp.hr id o' ho');exact ⟨by rw [aO hp.ext (by simp_all)];exact hb,rfl⟩
 .simp only [x9.put]
  rw [O1 _ _ _ _ aF];exact VR.mono (mI hp.ext) (fun _ _=>rfl) (fun _ h=>h) _ _ _ (Or.inr (jI hp.ext _)) hp.val
 .intro id hid
  by_cases hlt:id<st.H.length
  .obtain ⟨p1,p2⟩:=hp.ez id hid
   refine ⟨fun b hb=> ?_,fun off b q hb=> ?_⟩
   .obtain ⟨g1,g2⟩:=p1 b (nV hlt hb)
    exact ⟨by rw [aO hp.ext (by simp_all)];exact g1,g2⟩
   .obtain ⟨g1,_⟩:=kH (G:=G) (w:=w) (off:=off) hlt b q hb
    obtain ⟨g3,g4⟩:=p2 off b q g1;exact ⟨by rw [aO hp.ext (by simp_all)];exact g3,g4⟩
  .exact ⟨Bx hp.ext (by omega),fun off=>dK hp.ext (by simp_all)⟩
 .intro id hN ht
  have:=eV id hN;have:=QU id ht;omega
def Ah {l:F2}{a b base strict id:Nat}(h:l.may id=false\/(a<=id/\id<b)):(l.nP a b base strict).may id=false:=by
 grind [F2.nP,F2.may,F3,decide_eq_false_iff_not]
def jy (l:F2)(a b base strict:Nat):(l.nP a b base strict).base=base/\(l.nP a b base strict).strict=strict:=by
 grind [F2.nP]
def Qt {E:Env}(NG:nx P E.cf E.prom)(hE:E.lim=l)(h:RI X l S st a w G I N)(eV:∀ id,N id->id<st.H.length)(hb:l.base<=st.H.length)(hs:l.strict<=l.base)
  {k:Nat} (hk:¬ S k) (aF:k<st.L.length) (entry:Nat) {f:FuncId} {args:List c8} {G6:Array Value} (hargs:J5 G I N w args G6.toList) {st' :G4} (he:C6 E k f args st=some st') :
  Calls P f G6 w fun e w' =>∃ x G' I' N',e= .returned x/\Ln X l S entry st a w G I N st' k x w' G' I' N' :=by
 subst hE;unfold C6 at he;split at he
 .rename_i wL
  split at he
  .rename_i v H1 eW
   split at he
   .rename_i hlen
    cases he;refine Calls.mono (NG f args st.H E.lim v H1 eW w (hold G st.H.length) I N G6 ⟨?_,?_,NI h.wf,eV,h.V4,hb,hs,fun _ _=>HV,fun h0 _ _ _=>Da h0⟩ (by simp_all)) ?_
    .exact J5.mono sW.sub (fun _ _=>rfl) (fun _ h=>h) _ _ hargs
    .intro id o ho
     have hlt:=u7 ho;exact OR.mono sW.sub (fun _ _=>rfl) (fun _ h=>h) id o (fun hb=>⟨nV hlt hb,rfl⟩) (fun _=>kH hlt) (h.H id o ho)
    .rintro e w' ⟨x,G1,I1,N1,rfl,hc⟩
     obtain ⟨G',hd⟩:=LB h eV hk aF entry hlen hc (o7:= .below H1.length::st.o7) (by
      grind [Touch.K0])
     grind
   .cases he
  .cases he
 .rename_i wL
  have wL:E.prom f=false:=by simp_all
  simp only at he;generalize HU:E9 st.H E.lim.strict 8 (A4 args)=n at he;have hna:A4 args<=n:=by
   rw [<- HU];have:∀ (j m:Nat),m<=E9 st.H E.lim.strict j m:=by
    intro j
    induction j with
    |zero=>grind [E9]
    |succ j ih =>
     grind [E9,B6,Nat.le_max_left]
   grind
  split at he
  .rename_i cI
   obtain ⟨hn,hbO⟩:=cI;have htl:(st.H.take n).length=n:=by simp;omega
   have pre:∀ l' :F2,l'.base=n->l'.strict=C9 st.H E.lim.strict n->yM l' (st.H.take n) w (hold G n) I (fun i=>N i/\i<n) args G6:=by
    intro l' h1 h2;refine ⟨?_,?_,NI h.wf,fun id hid=>by omega,?_,by omega,by simp_all [JD],fun b id hb=>by rw [htl];exact HV hb,fun h0 _ _ _=>Da (by omega)⟩
    .exact J5.mono sW.sub (fun _ _=>rfl) (fun _ h=>h) _ _ (J5.low n _ _ hna hargs)
    .intro id o ho
     have hlt:id<n:=by grind
     rw [List.getElem?_take_of_lt hlt] at ho;exact OR.mono sW.sub (fun _ _=>rfl) (fun _ h=>h) id o (fun hb=>⟨nV hlt hb,rfl⟩) (fun _=>kH hlt) (OR.low hlt o (vG h.V4 hbO hlt ho) (h.H id o ho))
    .intro id o ho
     have hlt:id<n:=by have:=u7 ho;omega
     rw [List.getElem?_take_of_lt hlt] at ho;rw [h1,h2];exact ⟨fun hh=>FZ h.V4 hh ho,fun _=>vG h.V4 hbO hlt ho⟩
   split at he
   .split at he
    .rename_i v H1 eW
     split at he
     .rename_i hlen
      cases he;refine Calls.mono (NG f args _ _ v H1 eW w (hold G n) I _ G6 (pre _ rfl rfl) (fun _=>htl.symm)) ?_;rintro e w' ⟨x,G1,I1,N1,rfl,hc⟩;obtain ⟨G',I',hd⟩:=qW (l' :={ E.lim with base:=n,strict:=C9 st.H E.lim.strict n }) h eV hk aF entry hn (o5 n) rfl (fun id _ hid=>hid) (fun id h1 h2=>by omega) hlen hc (o7:= .below n::st.o7) (by
       intro id ht;simp [Touch.K0] at ht;omega)
      rw [<- hlen,List.take_length,hlen] at hd;exact ⟨x,G',I',N,rfl,hd⟩
     .cases he
    .cases he
   .split at he
    .rename_i v H1 eW
     split at he
     .rename_i hlen
      cases he;refine Calls.mono (NG f args _ _ v H1 eW w (hold G n) I _ G6 (pre _ rfl rfl) (fun _=>htl.symm)) ?_;rintro e w' ⟨x,G1,I1,N1,rfl,hc⟩;obtain ⟨G',I',hd⟩:=qW (l' :=⟨0,n,n,C9 st.H E.lim.strict n⟩) h eV hk aF entry hn (I7 n) rfl (fun id h1 _=>by simp [F2.may];omega) (fun id _ h2=>by simp [F2.may];omega) hlen hc (o7:=st.o7) (by intros;omega);refine ⟨x,G',I',N,rfl,?_⟩;simpa using hd
     .cases he
    .cases he
   .split at he
    .rename_i v H1 eW
     split at he
     .rename_i hlen
      cases he;refine Calls.mono (NG f args _ _ v H1 eW w (hold G n) I _ G6 (pre _ (jy _ _ _ _ _).1 (jy _ _ _ _ _).2) (fun _=>by rw [(jy _ _ _ _ _).1,htl])) ?_;rintro e w' ⟨x,G1,I1,N1,rfl,hc⟩;obtain ⟨G',I',hd⟩:=qW h eV hk aF entry hn hlen.2 (jy _ _ _ _ _).1 (fun id _ hid=>Ah (Or.inl hid)) (fun id h1 h2=>Ah (Or.inr ⟨h1,h2⟩)) hlen.1 hc (o7:= .below (args.headD .any).K5::st.o7) (by
       intro id ht;simp [Touch.K0] at ht;simpa using ht.1)
      exact ⟨x,G',I',N,rfl,hd⟩
     .cases he
    .cases he
  .cases he
end
end Go.x9
namespace Go.x9
variable [D9]
structure Tr (N:Nat->Prop)(k:Nat)(st st' :G4):Prop where
 o7:∀ p:Touch->Bool,st.o7.any p=true->st'.o7.any p=true
 L:∀ m id off:Nat,m≠k->st'.L[m]? =some (c8.ptr id off)->st.L[m]? =some (c8.ptr id off)
 T:∀ s id off:Nat,st'.T[s]? =some (c8.ptr id off)->st.T[s]? =some (c8.ptr id off)
 H:∀ (id:Nat) (l' :List c8),N id->st'.o7.any (Touch.K0 id)=false->st'.H[id]? =some (u0.cells l')->∃ l:List c8,st.H[id]? =some (u0.cells l)/\l.length=l'.length
 V5:st'.T.length=st.T.length
 iP:st'.L.length=st.L.length
 Xv:∀ m:Nat,m≠k->st.L[m]? =some (c8.tuple [])->st'.L[m]? =some (c8.tuple [])
section
variable {N:Nat->Prop} {k:Nat} {st st1 st' :G4}
theorem Tr.refl (N:Nat->Prop)(k:Nat)(st:G4):Tr N k st st :=
 ⟨fun _ h=>h,fun _ _ _ _ h=>h,fun _ _ _ h=>h,fun _ l _ _ h=>⟨l,h,rfl⟩,rfl,rfl,fun _ _ h=>h⟩
theorem iS {t t' :List Touch}(h:∀ p:Touch->Bool,t.any p=true->t'.any p=true){p:Touch->Bool}(h' :t'.any p=false):t.any p=false:=by
 grind
theorem Tr.trans (a:Tr N k st st1)(b:Tr N k st1 st'):Tr N k st st' where
 o7 p h:=b.o7 p (a.o7 p h)
 L m id off hm h:=a.L m id off hm (b.L m id off hm h)
 T s id off h:=a.T s id off (b.T s id off h)
 H id l' hN ht h:=by
  obtain ⟨l1,h1,e1⟩:=b.H id l' hN ht h;obtain ⟨l,h2,e2⟩:=a.H id l1 hN (iS b.o7 ht) h1;simp_all
 V5:=b.V5.trans a.V5
 iP:=b.iP.trans a.iP
 Xv m hm h:=b.Xv m hm (a.Xv m hm h)
theorem Tr.put (v:c8):Tr N k st (put st k v) where
 o7 _ h:=h
 L m id off hm h:=by
  grind [x9.put,D3]
 T _ _ _ h:=h
 H _ l _ _ h:=⟨l,h,rfl⟩
 V5:=rfl
 iP:=by simp [x9.put]
 Xv m hm h:=by
  grind [x9.put,D3]
def vF {l:List c8}{j m id off:Nat}{x:Data}(h:(l.set j (.d x))[m]? =some (.ptr id off)):l[m]? =some (.ptr id off):=by
 grind
def xg {l:List c8}{j m:Nat}{z n:Nat}{c:List Data}{v:c8}(hj:l[j]? =some (.own z n c))(h:l[m]? =some (c8.tuple [])):(l.set j v)[m]? =some (c8.tuple []):=by
 grind
theorem Tr.E1 (y:y6):Tr N k st (E1 st y).2:=by
 cases y with
 |loc j =>
  simp [x9.E1];split
  .rename_i hj
   exact ⟨fun _ h=>h,fun m id off _ h=>vF h,fun _ _ _ h=>h,fun _ l _ _ h=>⟨l,h,rfl⟩,rfl,by simp,fun _ _ h=>xg hj h⟩
  all_goals simp_all [Tr.refl]
 |slot s=>exact Tr.refl _ _ _
 |const v=>exact Tr.refl _ _ _
def Tr.newObj {y9:Option Nat}(hi:∀ i,y9=some i->i<st.H.length)(hn:¬ N (newId st y9))(o:u0):Tr N k st (L7 st y9 o) where
 o7 p h:=by cases y9<;>exact h
 L m id off _ h:=by cases y9<;>exact h
 T s id off h:=by cases y9<;>exact h
 H id l' hN _ h:=by
  grind [jC,absurd]
 V5:=by cases y9<;>rfl
 iP:=by cases y9<;>rfl
 Xv m _ h:=by cases y9<;>exact h
def Tr.heap {H' :o9}{o7:List Touch}(h1:∀ p:Touch->Bool,st.o7.any p=true->o7.any p=true)(h2:∀ id,N id->o7.any (Touch.K0 id)=false->H'[id]? =st.H[id]?):Tr N k st { st with H:=H',o7 } where
 o7:=h1
 L _ _ _ _ h:=h
 T _ _ _ h:=h
 H id l' hN ht h:=by
  simp_all
 V5:=rfl
 iP:=rfl
 Xv _ _ h:=h
theorem Tr.W8 {l:F2}{sz len:Nat}{cells:List Data}{op:z6}(h:W8 l st sz op=some (len,cells,st')):Tr N k st st' :=by
 unfold x9.W8 at h;split at h
 .split at h
  .cases h
  .split at h
   .split at h
    .cases h
     exact ⟨fun p hp=>by simp_all,fun _ _ _ _ h=>h,fun s id off h=>vF h,fun _ l _ _ h=>⟨l,h,rfl⟩,by simp,rfl,fun _ _ h=>h⟩
    .cases h
   .cases h
 .split at h
  .split at h
   .cases h
   .split at h
    .split at h
     .split at h
      .cases h
       refine ⟨fun p hp=>by simp_all,fun _ _ _ _ h=>h,fun _ _ _ h=>h,fun id' l' _ _ h=> ?_,rfl,rfl,fun _ _ h=>h⟩
       grind [O0,u7,D3]
      .cases h
     .cases h
    .cases h
  .cases h
 .cases h
theorem Tr.O8 {l:F2}{j9:List p6}{sz len:Nat}{cells:List Data}{y:y6}(h:O8 l j9 st sz y=some (len,cells,st')):Tr N k st st' :=by
 unfold x9.O8 at h;split at h
 .simp_all [Tr.refl]
 .cases h
 .cases h
 .split at h
  .rename_i hj
   split at h
   .cases h
    exact ⟨fun _ h=>h,fun m id off _ h=>vF h,fun _ _ _ h=>h,fun _ l _ _ h=>⟨l,h,rfl⟩,rfl,by simp,fun _ _ h=>xg hj h⟩
   .cases h
  all_goals grind [Tr.W8]
theorem Ua {v:c8}{id i o:Nat}(h:v.kill id= .ptr i o):v= .ptr i o:=by
 cases v<;>simp [c8.kill] at h<;>first|omega|grind|exact h
def Dj {l:List c8}{id m i o:Nat}(h:(H9 id l)[m]? =some (.ptr i o)):l[m]? =some (.ptr i o):=by
 grind [fC,Option.some.injEq,Ua]
theorem Tr.S6 {E:Env}{sz bytes id lo len:Nat}{y:c8}(h:S6 E k sz bytes st id lo len y=some st'):Tr N k st st' :=by
 unfold x9.S6 at h;split at h
 .split at h
  .rename_i l0 m cs hl0 _
   split at h
   .cases h
    refine Tr.trans ?_ (Tr.put _);refine ⟨fun p hp=>by simp_all,fun m' i o _ h=>Dj h,fun s i o h=>Dj h,fun id' l' _ ht h=> ?_,by simp [Q7],by simp [Q7],fun m' _ h=>by grind [fC,c8.kill,H9]⟩;have hne:id' ≠id:=by grind [Touch.K0]
    have h' :(pO st.H E.lim.base id (.cells (H9 id l0++cs)))[id']? =some (.cells l'):=h;unfold pO at h';rw [D3 (fun e=>hne e.symm)] at h'
    by_cases hb:id' <E.lim.base
    .grind
    .by_cases hlt:id' <st.H.length
     .rw [s5 (by simp;omega),List.getElem?_map,List.getElem?_drop] at h'
      rw [show E.lim.base+(id' - (List.take E.lim.base st.H).length)=id' from by simp;omega] at h';cases ho:st.H[id']? with
      |none=>simp_all
      |some o =>
       rw [ho] at h';cases o<;>simp [u0.kill] at h'
       grind [Q7]
     grind
   .cases h
  .cases h
 .cases h
theorem Tr.C6 {E:Env}{f:FuncId}{args:List c8}(eV:∀ id,N id->id<st.H.length)(h:C6 E k f args st=some st'):Tr N k st st' :=by
 unfold x9.C6 at h;split at h
 .split at h
  .split at h
   .cases h
    refine Tr.trans ?_ (Tr.put _);refine Tr.heap (fun p hp=>by simp_all) fun id hN ht=> ?_
    grind [Touch.K0]
   .cases h
  .cases h
 .simp only at h
  split at h
  .split at h
   .split at h
    .split at h
     .cases h
      refine Tr.trans ?_ (Tr.put _);refine Tr.heap (fun p hp=>by simp_all) fun id hN ht=> ?_
      simp_all [Touch.K0,s5,List.getElem?_drop]
     .cases h
    .cases h
   .grind [Tr.put]
   .split at h
    .split at h
     .cases h
      refine Tr.trans ?_ (Tr.put _);refine Tr.heap (fun p hp=>by simp_all) fun id hN ht=> ?_
      simp_all [Touch.K0,s5,List.getElem?_drop]
     .cases h
    .cases h
  .cases h
theorem tW {H H' :o9}{id off:Nat}{vs:List c8}(h:wr H id off vs=some H'){id' :Nat}(hne:id' ≠id):H'[id']? =H[id']? :=by
 grind [wr,D3]
theorem Tr.Q8 {E:Env}{n:Nat}{a:c8}{x:y6}(h:Q8 E k n st a x=some st'):Tr N k st st' :=by
 unfold x9.Q8 at h;split at h
 .split at h
  .split at h
   .split at h
    .cases h
     refine Tr.trans (Tr.trans (Tr.E1 x) ?_) (Tr.put _);refine Tr.heap (fun p hp=>by simp_all) fun id' hN ht=> ?_
     grind [tW,Touch.K0]
    .cases h
   .cases h
  .cases h
 .cases h
theorem Tr.X9 {E:Env}{sz:Nat}{zero:List c8}{a:c8}(h:X9 E k sz zero st a=some st'):Tr N k st st' :=by
 unfold x9.X9 at h;split at h
 .split at h
  .split at h
   .cases h
    refine Tr.trans ?_ (Tr.put _);refine Tr.heap (fun p hp=>by simp_all) fun id' hN ht=> ?_
    grind [tW,Touch.K0]
   .cases h
  .cases h
 all_goals grind [Tr.put]
theorem Tr.U3 {E:Env}{kk:KK}{m key v:c8}(h:U3 E k kk st m key v=some st'):Tr N k st st' :=by
 unfold x9.U3 at h;split at h
 .split at h
  .split at h
   .split at h
    .split at h
     .cases h
      refine Tr.trans ?_ (Tr.put _);refine Tr.heap (fun p hp=>by simp_all) fun id' hN ht=> ?_
      simp_all [D3,Touch.K0]
     .cases h
    .cases h
   .cases h
  .cases h
 .cases h
theorem Tr.M8 {E:Env}{j9:List p6}{y9:Option Nat}{sz bytes:Nat}{ob:Bool}{x:y6}{y:c8}(hi:∀ i,y9=some i->i<st.H.length)(hn:¬ N (newId st y9))
  (h:M8 E j9 y9 k sz bytes ob st x y=some st'):Tr N k st st' :=by
 unfold x9.M8 at h;split at h
 .split at h
  .split at h
   .split at h
    .grind [Tr.put]
    .cases h;exact (Tr.newObj hi hn _).trans (Tr.put _)
   .cases h
  .split at h
   .split at h
    .rename_i ht
     split at h
     .cases h;exact (Tr.O8 ht).trans (Tr.put _)
     .cases h
    .cases h
   .cases h
 .cases h
theorem Tr.E6 {E:Env}{j9:List p6}{y9:Option Nat}{op:z6}(eV:∀ id,N id->id<st.H.length)(hi:∀ i,y9=some i->i<st.H.length)(hn:op.z7=true->¬ N (newId st y9))
  (h:E6 E j9 y9 k st op=some st'):Tr N k st st' :=by
 cases op<;>simp only [x9.E6] at h<;>try simp_all
 case alloc zero=>cases h;exact (Tr.newObj hi (hn rfl) _).trans (Tr.put _)
 case box x =>
  split at h
  .cases h;exact (Tr.newObj hi (hn rfl) _).trans (Tr.put _)
  .cases h
 case makeMap=>cases h;exact (Tr.newObj hi (hn rfl) _).trans (Tr.put _)
 case mX x=>grind [Tr.put]
 case own sz x =>
  split at h
  .rename_i ht
   cases h;exact (Tr.O8 ht).trans (Tr.put _)
  .cases h
 case A2 sz len zero parts ob =>
  cases ob
  .cases h
  .simp only at h
   split at h
   .split at h
    .cases h;exact (Tr.newObj hi (hn rfl) _).trans (Tr.put _)
    .cases h
   .cases h
 case store n a x=>exact Tr.Q8 h
 case append sz bytes ob x y =>
  split at h
  .grind [Tr.S6]
  .cases ob with
   |true=>exact Tr.M8 hi (hn rfl) h
   |false =>
    unfold x9.M8 at h;simp only [j3,if_false] at h;split at h
    .split at h
     .split at h
      .rename_i ht
       split at h
       .cases h;exact (Tr.O8 ht).trans (Tr.put _)
       .cases h
      .cases h
     .cases h
    .cases h
 case clear sz zero x=>exact Tr.X9 h
 all_goals grind [call,Tr.C6,Tr.U3,Tr.put]
theorem Tr.D6 {E:Env}{j9:List p6}{y9:Option Nat}{op:z6}{rs:List Nat}(eV:∀ id,N id->id<st.H.length)(hi:∀ i,y9=some i->i<st.H.length)(hn:op.z7=true->¬ N (newId st y9))
  (h:D6 E j9 y9 k op st=some (st',rs)):Tr N k st st' :=by
 unfold x9.D6 at h;split at h
 .grind [Tr.E6]
 .split at h
  .cases h
   exact (Tr.E1 _).trans (Tr.put _)
  grind [Tr.put]
end
end Go.x9
namespace Go.x9
variable [D9]
structure wg (y9:Option Nat)(X:Cx)(l:F2)(S:Nat->Prop)(entry:Nat)(st:G4)(a:Act)(w:World)(G:Gh)(I:R3)(N:Nat->Prop)
  (st' :G4) (k:Nat) (x' :Value) (w' :World) (G' :Gh) (I' :R3) (N' :Nat->Prop):Prop where
 mid:cB X l S entry st a w G I N st' k x' w' G' I' N'
 bt:∀ id,N' id->id<st'.H.length
 old:∀ id,id<st.H.length->N' id->N id\/y9=some id
def cC (P:Program)(o:Oper)(a:Act)(w:World)(R:Act->World->Prop):Prop :=
 ∀ (K:Act->World->Prop) (Q:Exit->Act->World->Prop),(∀ a' w',R a' w' ->K a' w')->o.wp P a w K Q
section
variable {P:Program} {o:Oper} {a:Act} {w w' :World} {R:Act->World->Prop}
theorem cC.value {x:Value}(h:(execOp a.eval o).run P w= .ok (.value x) w')(hR:R (a.put o.dst x) w'):cC P o a w R:=by
 intro K Q hK;simp_all [Oper.wp,Oper.upon]
theorem cC.skip (h:(execOp a.eval o).run P w= .ok .skip w')(hR:R (a.put o.dst undef) w'):cC P o a w R:=by
 intro K Q hK;simp_all [Oper.wp,Oper.upon]
theorem cC.defer {d:Deferred}(h:(execOp a.eval o).run P w= .ok (.defer d) w')(hR:R ({ a with defers:=d::a.defers }.put o.dst undef) w'):cC P o a w R:=by
 intro K Q hK;simp_all [Oper.wp,Oper.upon]
theorem cC.enter {f:FuncId}{args:Array Value}(h:(execOp a.eval o).run P w= .ok (.enter f args) w)(hR:Calls P f args w fun e w' =>∃ x,e= .returned x/\R (a.put o.dst x) w'):cC P o a w R:=by
 intro K Q hK
 grind [Oper.wp,Oper.upon,Calls.mono]
end
def yd (P:Program)(ck:Operand->y6->Bool)(o:Oper)(op:z6):Bool :=
 match o.op,op with
 | .call ⟨.value (.func f),args,_⟩,.call g ys=>f==g&&SF ck args.toList ys&&S0 P f
 | .call ⟨.value x,args,_⟩,.an y ys=>ck x y&&SF ck args.toList ys
 |_,_=>false
def He (ck:Operand->y6->Bool)(o:Oper)(op:z6):Bool :=
 match o.op,op with
 | .defer ⟨.value x,args,_⟩,.defer y=>ck x y&&args.isEmpty
 |_,_=>false
def uI (ck:Operand->y6->Bool)(o:Oper)(y:y6):Bool :=
 match o.op with
 | .move x=>ck x y
 | .assign x=>ck x y
 |_=>false
def aq (P:Program)(ck:Operand->y6->Bool)(o:Oper)(op:z6):Bool :=
 match op with
 | .Q3 y=>uI ck o y
 | .alloc _=>ec P ck o op
 | .box _=>ec P ck o op
 | .makeMap=>ec P ck o op
 | .mX x=>uI ck o (.const (.d x))
 | .own _ x=>uI ck o x
 | .A2 .. =>ec P ck o op
 | .store .. =>zl P ck o op
 | .append _ _ _ _ _=>gY P ck o op
 | .dg .. =>LF P ck o op
 | .call .. =>yd P ck o op
 | .an .. =>yd P ck o op
 | .defer _=>He ck o op
 | .clear .. =>zj P ck o op
 | .bad=>true
 |op=>E4 P ck o op
section
variable {P:Program} {X:Cx} {l:F2} {S:Nat->Prop} {st st' :G4} {a:Act} {w w' :World} {G G' :Gh} {I I' :R3} {N N' :Nat->Prop} {D:Nat->Bool} {j9:List p6}
def wg.iV {y9:Option Nat}{entry k:Nat}{x:Value}(eV:∀ id,N id->id<st.H.length)(h:cB X l S entry st a w G I N st' k x w' G' I' N):wg y9 X l S entry st a w G I N st' k x w' G' I' N :=
 ⟨h,fun id hid=>Nat.lt_of_lt_of_le (eV id hid) h.len,fun _ _ h=>Or.inl h⟩
def wg.Us {entry k:Nat}{x:Value}{y9:Option Nat}(eV:∀ id,N id->id<st.H.length){o:u0}{v:c8}(hi:∀ i,y9=some i->i<st.H.length)
  (h:cB X l S entry st a w G I N (put (L7 st y9 o) k v) k x w' G' I' N') (hN:∀ i,N' i↔N i\/i=newId st y9) :
  wg y9 X l S entry st a w G I N (put (L7 st y9 o) k v) k x w' G' I' N' :=by
 refine ⟨h,fun id hid=> ?_,fun id hlt hid=> ?_⟩
 all_goals (simp_all [put,L7,newId]<;>grind)
def qU {l1 l2:List c8}{v1 v2:List Value}:∀ (_:J5 G I N w l1 v1) (_:J5 G I N w l2 v2),J5 G I N w (l1++l2) (v1++v2):=by
 induction l1 generalizing v1 with
 |nil=>simp_all [J5]
 |cons b bs ih =>
  grind [J5]
structure jh (X:Cx)(st:G4)(a:Act)(w:World)(I:R3)(op:z6)(x:Value):Prop where
 Q3:∀ s t,op= .Q3 (.slot s)->X.names[s]? =some t->x=a.tmps.getD t undef
 load:∀ y id off,op= .load none y->aV st y=some (id,off)->w.cell? (ad (I id).1 ((I id).2+off))=some x
def jh.other {X:Cx}{st:G4}{a:Act}{w:World}{I:R3}{op:z6}{x:Value}(h1:∀ y,op≠ .Q3 y)(h2:∀ n y,op≠ .load n y):jh X st a w I op x :=
 ⟨fun _ _ h=>absurd h (h1 _),fun _ _ _ h=>absurd h (h2 _ _)⟩
def Ze {st:G4}{y:y6}{id off:Nat}(h:aV st y=some (id,off)):I5 st.T st.L y= .ptr id off:=by
 unfold aV at h
 grind [I5,List.getD,c8.J2]
def QZ {ck:Operand->y6->Bool}{η:Operand->Value}{ρ:y6->c8}{H:o9}(hρ:cq ck G I N w η ρ)(hH:HR G I N w H){o:Oper}{y:y6}(hc:E4 P ck o (.load none y)=true){v:c8}{rs:List Nat}
  (h:n9 ρ H (.load none y)=some (v,rs)) {id off:Nat} (hp:ρ y= .ptr id off) {x:Value} (hx:(execOp η o).run P w= .ok (.value x) w):w.cell? (ad (I id).1 ((I id).2+off))=some x:=by
 obtain ⟨dst,dW,ty,pos,after,guard⟩:=o;cases dW<;>simp [E4] at hc;rename_i t x';have h1:=hρ _ _ hc.1;have ha:dc P t=some false:=by simp_all [rN]
 simp [n9,hp] at h;rw [hp] at h1;simp [VR] at h1;split at h
 .rename_i u hu
  obtain ⟨_,xs,g1,_,g3,g4⟩:=hH.rd hu (by omega);obtain ⟨z,rfl⟩:∃ z,xs=[z]:=by
   match xs,g1 with
   |[z],_=>simp_all
  have hz:=g3 0 z rfl;simp_all [execOp,Instr.loadAt,Instr.sureAddr,loadVar,bV]
 .cases h
def yL (P:Program)(idle:FuncId->Bool)(y9:Option Nat)(X:Cx)(l:F2)(S:Nat->Prop)(entry:Nat)(st:G4)(a:Act)(w:World)(G:Gh)(I:R3)(N:Nat->Prop)(st' :G4)(k:Nat)(o:Oper)(op:z6)(a' :Act)(w' :World):Prop :=
 ∃ x ds G' I' N',jh X st a w I op x/\a' =({ a with defers:=ds }:Act).put o.dst x/\(ds=a.defers\/∃ d,ds=d::a.defers/\GK P idle d)/\wg y9 X l S entry st a w G I N st' k x w' G' I' N'
def JC {E:Env}(NG:nx P E.cf E.prom)(eW:∀ f args H lm r,E.cf f args H lm=some r->S0 P f=true)(hE:E.lim=l)(h:RI X l S st a w G I N)(hpv:PV X j9 S st a w I)(hT:st.T.length=X.names.length)
  (eV:∀ id,N id->id<st.H.length) (hb:l.base<=st.H.length) (hs:l.strict<=l.base) (hD:∀ j,D j=true->S j) {k:Nat} (hk:¬ S k) (aF:k<st.L.length) {o:Oper} {op:z6} (hc:aq P (X.ck D) o op=true)
  {y9:Option Nat} (hid:op.z7=true->GJ l st N y9) {rs:List Nat} (he:D6 E j9 y9 k op st=some (st',rs)) :
  cC P o a w (yL P E.idle y9 X l S E.entry st a w G I N st' k o op):=by
 have hρ:=h.R7 hD;have fin:∀ {x:Value} {w' :World} {G' :Gh} {I' :R3} {N' :Nat->Prop},jh X st a w I op x->wg y9 X l S E.entry st a w G I N st' k x w' G' I' N' ->yL P E.idle y9 X l S E.entry st a w G I N st' k o op (a.put o.dst x) w' :=
  fun {x w' G' I' N'} hF hS=>⟨x,a.defers,G',I',N',hF,rfl,Or.inl rfl,hS⟩
 have UX:∀ {v:c8} {rs:List Nat},(∀ y,op≠ .Q3 y)->E4 P (X.ck D) o op=true->n9 (I5 st.T st.L) st.H op=some (v,rs)->st' =put st k v->cC P o a w (yL P E.idle y9 X l S E.entry st a w G I N st' k o op):=by
  intro v rs hm h1 h2 h3;subst h3;obtain ⟨x,g1,g2⟩:=MA (P:=P) (fun v=>by rfl) hρ h.H h1 h2;refine cC.value g1 (fin ⟨fun s t e=>absurd e (hm _),fun y id off e hp=> ?_⟩ (wg.iV eV (cB.same h hk aF E.entry g2.place)));subst e;exact QZ hρ h.H h1 h2 (Ze hp) g1
 have GV:(∀ y,op≠ .Q3 y)->(∀ n y,op≠ .load n y)->∀ (f:FuncId) (args:List c8) (G6:Array Value),J5 G I N w args G6.toList->C6 E k f args st=some st' ->(execOp a.eval o).run P w=(callFunc f G6).run P w->cC P o a w (yL P E.idle y9 X l S E.entry st a w G I N st' k o op):=by
  intro hm hl f args G6 h1 h2 h3;have hcan:S0 P f=true:=by
   unfold C6 at h2;split at h2
   .split at h2
    .rename_i QJ
     exact eW f _ _ _ _ QJ
    .cases h2
   .simp only at h2
    split at h2
    .split at h2
     .split at h2
      .rename_i QJ
       exact eW f _ _ _ _ QJ
      .cases h2
     .split at h2
      .rename_i QJ
       exact eW f _ _ _ _ QJ
      .cases h2
     .split at h2
      .rename_i QJ
       exact eW f _ _ _ _ QJ
      .cases h2
    .cases h2
  refine cC.enter (f:=f) (args:=G6) (by rw [h3];exact tG hcan G6) ?_;refine Calls.mono (Qt NG hE h eV hb hs hk aF E.entry h1 h2) ?_;rintro e w' ⟨x,G',I',N',rfl,hC⟩;exact ⟨x,rfl,fin (jh.other hm hl) ⟨hC.mid,hC.bt,fun id hlt hid=>Or.inl (hC.old id hlt hid)⟩⟩
 unfold D6 at he;cases op
 case Q3 y =>
  simp only [z6.C8,j3,if_false] at he;cases he;simp only [aq] at hc;have key:∀ x,X.ck D x y=true->(execOp a.eval o).run P w= .ok (.value (a.eval x)) w->cC P o a w (yL P E.idle y9 X l S E.entry st a w G I N (put (E1 st y).2 k (E1 st y).1) k o (.Q3 y)):=by
   intro x hx hrun;obtain ⟨G1,hX⟩:=h.E1 hD hx (pl:= .loc k) (by simp);have hM:=cB.same hX.ri hk (by rw [BF];exact aF) E.entry hX.val;exact cC.value hrun (fin ⟨fun s t e hn=>by cases e;simp only [Cx.ck] at hx;split at hx<;>simp_all [Act.eval],fun _ _ _ e=>by cases e⟩ (wg.iV eV (cB.pre hX.ext hX.keeps hX.obj (vW st y) hM)))
  obtain ⟨dst,dW,ty,pos,after,guard⟩:=o;cases dW<;>simp only [uI] at hc<;>try (cases hc;done)
  .exact key _ hc (by simp [execOp])
  .exact key _ hc (by simp [execOp])
 case alloc zero =>
  simp only [z6.C8,if_true,E6] at he;cases he;have h1:=hid rfl;obtain ⟨x,w',G',I',N',g1,g2,g3⟩:=Re h hk aF E.entry h1 (by simpa [aq] using hc);exact cC.value g1 (fin (jh.other (by simp) (by simp)) (wg.Us eV h1.inside g2 g3))
 case box y =>
  simp only [z6.C8,if_true,E6] at he;split at he
  .rename_i hcs
   split at hcs
   .rename_i cs uT
    cases hcs;cases he;have h1:=hid rfl;obtain ⟨x,w',G',I',N',g1,g2,g3⟩:=YF h hρ hk aF E.entry h1 (by simpa [aq] using hc) uT;exact cC.value g1 (fin (jh.other (by simp) (by simp)) (wg.Us eV h1.inside g2 g3))
   .cases hcs
  .cases he
 case mX d =>
  simp only [z6.C8,if_true,E6] at he;cases he;simp only [aq] at hc;have key:∀ x,X.ck D x (.const (.d d))=true->(execOp a.eval o).run P w= .ok (.value (a.eval x)) w->cC P o a w (yL P E.idle y9 X l S E.entry st a w G I N (put st k (.d d)) k o (.mX d)):=by
   intro x hx hrun;have g2:VR G I N w .none (.d d) (a.eval x):=hρ x _ hx;exact cC.value hrun (fin (jh.other (by simp) (by simp)) (wg.iV eV (cB.same h hk aF E.entry g2.place)))
  obtain ⟨dst,dW,ty,pos,after,guard⟩:=o;cases dW<;>simp only [uI] at hc<;>try (cases hc;done)
  .exact key _ hc (by simp [execOp])
  .exact key _ hc (by simp [execOp])
 case own sz y =>
  simp only [z6.C8,if_true,E6] at he;split at he
  .rename_i hcs
   split at hcs
   .rename_i len cells st1 ht
    cases hcs;cases he;simp only [aq] at hc;have key:∀ x,X.ck D x y=true->(execOp a.eval o).run P w= .ok (.value (a.eval x)) w ->
      cC P o a w (yL P E.idle y9 X l S E.entry st a w G I N (put st1 k (.own sz len cells)) k o (.own sz y)):=by
     intro x hx hrun;obtain ⟨G1,HL⟩:=qI h hpv hT hD hk hx (hE ▸ ht);exact cC.value hrun (fin (jh.other (by simp) (by simp)) (wg.iV eV (cB.YK HL (cB.same HL.ri hk (by rw [HL.L];exact aF) E.entry HL.val))))
    obtain ⟨dst,dW,ty,pos,after,guard⟩:=o;cases dW<;>simp only [uI] at hc<;>try (cases hc;done)
    .exact key _ hc (by simp [execOp])
    .exact key _ hc (by simp [execOp])
   .cases hcs
  .cases he
 case makeMap =>
  simp only [z6.C8,if_true,E6] at he;cases he;have h1:=hid rfl;obtain ⟨x,w',G',I',N',g1,g2,g3⟩:=YG (P:=P) h hk aF E.entry h1 (by simpa [aq] using hc);exact cC.value g1 (fin (jh.other (by simp) (by simp)) (wg.Us eV h1.inside g2 g3))
 case A2 sz len zero parts ob =>
  cases ob with
  |false =>
   simp only [z6.C8,j3,if_false] at he;split at he
   .rename_i v rs' hp
    cases he;obtain ⟨x,w',G',g1,g2⟩:=Rf h hρ hk aF E.entry (by simpa [aq] using hc) hp;exact cC.value g1 (fin (jh.other (by simp) (by simp)) (wg.iV eV g2))
   .cases he
  |true =>
   simp only [z6.C8,if_true,E6] at he;split at he
   .rename_i hcs
    split at hcs
    .rename_i cs uT
     split at hcs
     .rename_i hl
      cases hcs;cases he;have h1:=hid rfl;obtain ⟨x,w',G',I',N',g1,g2,g3⟩:=FF h hρ hk aF E.entry h1 (by simpa [aq] using hc) uT hl.2;exact cC.value g1 (fin (jh.other (by simp) (by simp)) (wg.Us eV h1.inside g2 g3))
     .cases hcs
    .cases hcs
   .cases he
 case store n x y =>
  simp only [z6.C8,if_true,E6] at he;split at he
  .rename_i hst
   cases he;obtain ⟨w',G',g1,g2⟩:=Qv h hD hk aF E.entry (by simpa [aq] using hc) hE hst;exact cC.skip g1 (fin (jh.other (by simp) (by simp)) (wg.iV eV g2))
  .cases he
 case append sz bytes ob x y =>
  simp only [aq] at hc;simp only [z6.C8,if_true,E6] at he;split at he
  .rename_i hst
   cases he;split at hst
   .rename_i id z lo len hx
    split at hst
    .rename_i hz
     subst hz;obtain ⟨v,w',G',I',g1,g2⟩:=Cn h hD hk aF hc hE hx hst;exact cC.value g1 (fin (jh.other (by simp) (by simp)) (wg.iV eV g2))
    .cases hst
   .cases ob with
    |false =>
     obtain ⟨v,w',G',g1,g2⟩:=LN h hpv hT hD hk aF E.entry hc hE hst;exact cC.value g1 (fin (jh.other (by simp) (by simp)) (wg.iV eV g2))
    |true =>
     have h1:=hid rfl
     rcases Cm h hpv hT hD hk aF E.entry h1 hc hE hst with ⟨v,w',G',g1,g2⟩|⟨v,w',G',I',N',ob,av,g1,rfl,g2,g3⟩
     .exact cC.value g1 (fin (jh.other (by simp) (by simp)) (wg.iV eV g2))
     .exact cC.value g1 (fin (jh.other (by simp) (by simp)) (wg.Us eV h1.inside g2 g3))
  .cases he
 case dg kk m ky v =>
  simp only [z6.C8,if_true,E6] at he;split at he
  .rename_i hst
   cases he;obtain ⟨w',g1,g2⟩:=LO h hD hk aF E.entry (by simpa [aq] using hc) hE hst;exact cC.skip g1 (fin (jh.other (by simp) (by simp)) (wg.iV eV g2))
  .cases he
 case call f ys =>
  simp only [z6.C8,if_true,E6] at he;split at he
  .rename_i hst
   cases he;simp only [aq,yd] at hc;split at hc
   .rename_i f' args _ g ys' hop heq
    cases heq;simp only [c7,beq_iff_eq] at hc;obtain ⟨⟨rfl,hcs⟩,hcan⟩:=hc;refine GV (by simp) (by simp) f' (ys.map (I5 st.T st.L)) (args.map a.eval) (by simpa using gZ hρ _ _ hcs) hst ?_;simp [execOp,hop,resolve,Act.eval,Deferred.ofValue,invoke]
   .rename_i heq;cases heq
   .cases hc
  .cases he
 case an y ys =>
  simp only [z6.C8,if_true,E6] at he;split at he
  .rename_i hst
   cases he;simp only [aq,yd] at hc;split at hc
   .rename_i heq;cases heq
   .rename_i x args _ y' ys' hop heq
    cases heq;simp only [c7] at hc;have hv:=hρ _ _ hc.1;split at hst
    .rename_i f first caps hy
     rw [hy] at hv;simp only [VR] at hv;obtain ⟨vf,vc,e1,e2,e3⟩:=hv;refine GV (by simp) (by simp) f (first++ys.map (I5 st.T st.L)++caps) (vf++args.map a.eval++vc) ?_ hst ?_
     .simp only [Array.toList_append,Array.toList_map]
      exact qU (qU e2 (gZ hρ _ _ hc.2)) e3
     .simp [execOp,hop,resolve,e1,Deferred.ofValue,invoke]
    .cases hst
   .cases hc
  .cases he
 case defer y =>
  simp only [z6.C8,if_true,E6] at he;split at he
  .rename_i hst
   cases he;simp only [aq,He] at hc;split at hc
   .rename_i x args _ y' hop heq
    cases heq;simp only [c7] at hc;have hv:=hρ _ _ hc.1;split at hst
    .rename_i f first caps hy
     split at hst
     .rename_i CZ
      cases hst;rw [hy] at hv;simp only [VR] at hv;obtain ⟨vf,vc,e1,e2,e3⟩:=hv;have hrun:(execOp a.eval o).run P w= .ok (.defer { target:= .fn (.func f) vc,args:=vf++args.map a.eval }) w:=by
       simp [execOp,hop,resolve,e1,Deferred.ofValue]
      refine cC.defer hrun ⟨undef,_,G,I,N,jh.other (by simp) (by simp),rfl,Or.inr ⟨_,rfl,f,vc,rfl,CZ⟩,wg.iV eV (cB.same h hk aF E.entry (by simp [VR]))⟩
     .cases hst
    .cases hst
   .cases hc
  .cases he
 case clear sz zero y =>
  simp only [z6.C8,if_true,E6] at he;split at he
  .rename_i hst
   cases he;obtain ⟨w',g1,g2⟩:=Qu h hD hk aF E.entry (by simpa [aq] using hc) hE hst;exact cC.value g1 (fin (jh.other (by simp) (by simp)) (wg.iV eV g2))
  .cases he
 case bad=>simp [z6.C8,n9] at he
 all_goals
  simp only [z6.C8,j3,if_false] at he;split at he
  .rename_i hp
   cases he;exact UX (by simp) (by simpa only [aq] using hc) hp rfl
  .cases he
end
end Go.x9
namespace Go.x9
variable [D9]
def nF (names:List Tmp):Option Tmp->Option Nat->Bool
 |none,none=>true
 |some d,none=> !names.contains d
 |some d,some s=>names[s]? ==some d
 |none,some _=>false
def nG (X:Cx)(D:Nat->Bool):Option (Nat×Bool)->Option (Nat×Bool)->Bool
 |none,none=>true
 |some (g,b),some (g',b')=>g==g' &&b==b' &&D g&&(match (X.ops[g]?).bind (·.dst) with
  |some d=> !X.names.contains d
  |none=>false)
 |_,_=>false
def qX (X:Cx)(D:Nat->Bool)(o:Oper)(i:p6):Bool :=
 aq X.P (X.ck D) o i.op&&nF X.names o.dst i.dst&&nG X D o.guard i.guard
structure Stat (X:Cx)(nt:Nat):Prop where
 dup:∀ (i j:Nat) d,(X.ops[i]?).bind (·.dst)=some d->(X.ops[j]?).bind (·.dst)=some d->X.names.contains d=false->i=j
 lt:∀ (i:Nat) d,(X.ops[i]?).bind (·.dst)=some d->d<nt
 nod:∀ (s s' :Nat) t,X.names[s]? =some t->X.names[s']? =some t->s=s'
def we (X:Cx)(S:Nat->Prop):y6->Prop
 | .loc m=>S m/\∃ t,(X.ops[m]?).bind (·.dst)=some t/\X.names.contains t=false
 | .slot s=>∃ t,X.names[s]? =some t
 | .const _=>True
structure Rg (X:Cx)(j9:List p6)(E:Env)(nt:Nat)(S:Nat->Prop)(st:G4)(a:Act)(w:World)(G:Gh)(I:R3)(N:Nat->Prop):Prop where
 ri:RI X E.lim S st a w G I N
 pv:PV X j9 S st a w I
 cl:∀ (j:Nat) ai y,S j->j9[j]? =some ai->ai.op=z6.load none y->we X S y
 V5:st.T.length=X.names.length
 iP:st.L.length=j9.length
 bt:∀ id,N id->id<st.H.length
 Lk:E.entry<=st.H.length
 size:a.tmps.size=nt
 idle:∀ d,d ∈ a.defers->GK X.P E.idle d
structure aj (E:Env)(H0:o9)(w0:World)(G0:Gh)(I0:R3)(N0:Nat->Prop)(H:o9)(w:World)(G:Gh)(I:R3)(N:Nat->Prop):Prop where
 ext:Ext G0 w0 G w
 ez:kj E.lim G0 w0 G w
 inj:∀ id,id<E.entry->N0 id->I id=I0 id
 mono:∀ id,id<E.entry->N0 id->N id
 old:∀ id,id<E.entry->N id->N0 id
 hle:∀ (id:Nat) (o' :u0),id<E.lim.base->H[id]? =some o' ->o'.K5<=id+1\/∃ o:u0,H0[id]? =some o/\o'.K5<=o.K5
theorem aj.refl (E:Env)(H:o9)(w:World)(G:Gh)(I:R3)(N:Nat->Prop):aj E H w G I N H w G I N :=
 ⟨Ext.refl _ _,kj.refl _ _ _,fun _ _ _=>rfl,fun _ _ h=>h,fun _ _ h=>h,fun _ o _ h=>Or.inr ⟨o,h,o5 _⟩⟩
theorem aj.trans {E:Env}{H0 H1 H2:o9}{w0 w1 w2:World}{G0 G1 G2:Gh}{I0 I1 I2:R3}{N0 N1 N2:Nat->Prop}
  (h:aj E H0 w0 G0 I0 N0 H1 w1 G1 I1 N1) (k:aj E H1 w1 G1 I1 N1 H2 w2 G2 I2 N2):aj E H0 w0 G0 I0 N0 H2 w2 G2 I2 N2 where
 ext:=h.ext.trans k.ext
 ez:=h.ez.trans k.ez
 inj id hid hN:=(k.inj id hid (h.mono id hid hN)).trans (h.inj id hid hN)
 mono id hid hN:=k.mono id hid (h.mono id hid hN)
 old id hid hN:=h.old id hid (k.old id hid hN)
 hle id o' hb ho:=by
  rcases k.hle id o' hb ho with h1|⟨o1,h1,h2⟩
  .omega
  .rcases h.hle id o1 hb h1 with h3|⟨o,h3,h4⟩
   all_goals grind
section
variable {X:Cx} {j9:List p6} {E:Env} {nt:Nat} {S:Nat->Prop} {st st1 st2:G4} {a:Act} {w w' :World} {G G' :Gh} {I I' :R3} {N N' :Nat->Prop} {D:Nat->Bool}
def Rg.bn8 (h:Rg X j9 E nt S st a w G I N){y:y6}(hy:we X S y){id off:Nat}(hp:aV st y=some (id,off)):N id:=by
 unfold aV at hp;split at hp
 .rename_i m
  split at hp
  .obtain ⟨h1,t,h2,h3⟩:=hy
   have:=h.ri.L m h1 t h2 h3;simp_all [aM,VR]
  .cases hp
 .rename_i s
  split at hp
  .cases hp
  .split at hp
   .obtain ⟨t,ht⟩:=hy
    have:=h.ri.T s t ht;simp_all [aM,VR]
   .cases hp
 .cases hp
theorem R9 {y9:Option Nat}{k:Nat}{dst:Option Nat}(h:r9 y9 st1 k dst=some st2) :
  (dst=none/\st2=st1)\/∃ s o7,dst=some s/\s<st1.T.length/\st2={ (E1 st1 (.loc k)).2 with T:=st1.T.set s (E1 st1 (.loc k)).1,o7 }/\(o7= .slot s::st1.o7\/(o7=st1.o7/\st1.o7.any (Touch.S4 s)=true)):=by
 unfold r9 at h;split at h
 .simp_all [E5]<;>grind
 .cases dst with
  |none=>cases h;simp_all
  |some s =>
   grind [V8,E1]
theorem Bp {y9:Option Nat}{k:Nat}{dst:Option Nat}(h:r9 y9 st1 k dst=some st2)(p:Touch->Bool)(hp:st1.o7.any p=true):st2.o7.any p=true:=by
 rcases R9 h with ⟨_,rfl⟩|⟨s,o7,_,_,rfl,rfl|⟨rfl,_⟩⟩
 all_goals simp_all
theorem Bn {y9:Option Nat}{k s:Nat}{dst:Option Nat}(h:r9 y9 st1 k dst=some st2)(hd:dst=some s):st2.o7.any (Touch.S4 s)=true:=by
 grind [R9,Touch.S4]
def oL {y9:Option Nat}{k:Nat}{dst:Option Nat}(h:r9 y9 st1 k dst=some st2):st2.H=st1.H:=by
 grind [R9,vW]
def JJ {y9:Option Nat}{k:Nat}{dst:Option Nat}(h:r9 y9 st1 k dst=some st2):st2.L.length=st1.L.length:=by
 grind [R9,BF]
def JK {y9:Option Nat}{k:Nat}{dst:Option Nat}(h:r9 y9 st1 k dst=some st2):st2.T.length=st1.T.length:=by
 grind [R9]
theorem mJ (st:G4)(k m:Nat)(h:m≠k):(E1 st (.loc k)).2.L[m]? =st.L[m]? :=by
 simp only [E1];split
 .simp only
  rw [D3 (fun e=>h e.symm)]
 .rfl
 .rfl
theorem JI {y9:Option Nat}{k:Nat}{dst:Option Nat}(h:r9 y9 st1 k dst=some st2){m:Nat}(hm:m≠k):st2.L[m]? =st1.L[m]? :=by
 grind [R9,mJ]
def Na {y9:Option Nat}{k:Nat}{dst:Option Nat}(h:r9 y9 st1 k dst=some st2){y:y6}(hy:∀ m,y= .loc m->m≠k){id off:Nat}(hp:aV st2 y=some (id,off)):aV st1 y=some (id,off):=by
 cases y with
 |const v=>exact hp
 |loc m =>
  grind [aV,JI]
 |slot s' =>
  simp only [aV] at hp ⊢;split at hp
  .cases hp
  .have hn' :st2.o7.any (Touch.S4 s')=false:=by simp_all
   rw [if_neg (by grind [iS,Bp])]
   grind [Bn,R9,D3]
def Tr.ptr {k:Nat}(h:Tr N k st st1){y:y6}(hy:∀ m,y= .loc m->m≠k){id off:Nat}(hp:aV st1 y=some (id,off)):aV st y=some (id,off):=by
 cases y with
 |const v=>exact hp
 |loc m =>
  simp [aV] at hp ⊢;split at hp
  .rename_i hl
   cases hp;rw [h.L m _ _ (hy m rfl) hl]
  .cases hp
 |slot s =>
  simp only [aV] at hp ⊢;split at hp
  .cases hp
  .rw [if_neg (by rw [iS h.o7 (by simp_all)];simp)]
   split at hp
   .rename_i hl
    cases hp;rw [h.T s _ _ hl]
   .cases hp
def bf {d:Tmp}{x:Value}(h:d<a.tmps.size):(a.put (some d) x).tmps.getD d undef=x:=by
 simp [Act.put,h]
def Y0 {dst:Option Tmp}{t:Tmp}{x:Value}(h:dst≠some t):(a.put dst x).tmps.getD t undef=a.tmps.getD t undef:=by
 simp_all [Act.put]<;>grind
def size_put {dst:Option Tmp}{x:Value}:(a.put dst x).tmps.size=a.tmps.size:=by
 cases dst<;>simp [Act.put]
def lQ {dst:Option Tmp}{x:Value}:(a.put dst x).defers=a.defers:=by
 cases dst<;>simp [Act.put]
theorem RI.defers {l:F2}{ds:List Deferred}(h:RI X l S st a w G I N):RI X l S st { a with defers:=ds } w G I N :=
 ⟨h.T,h.L,h.H,h.wf,h.V4⟩
def RI.after {l:F2}(hst:Stat X nt)(hsz:a.tmps.size=nt)(hT:st1.T.length=X.names.length){k:Nat}(hk:¬ S k)(aF:k<st1.L.length){o:Oper}(ho:X.ops[k]? =some o){dst:Option Nat}(hd:nF X.names o.dst dst=true)
  (h:RI X l S st1 a w G I N) {x:Value} (hv:VR G I N w (.loc k) (st1.L.getD k .any) x) {y9:Option Nat} (hts:r9 y9 st1 k dst=some st2) :
  ∃ G',Ext G w G' w/\(∀ id off,bz (.cell id off) G w G' w)/\(∀ b id,G b= .obj id->G' b= .obj id)/\RI X l (fun j=>S j\/j=k) st2 (a.put o.dst x) w G' I N:=by
 have wK:(X.ops[k]?).bind (·.dst)=o.dst:=by rw [ho];rfl
 rcases R9 hts with ⟨rfl,rfl⟩|⟨s,bK,rfl,hs,rfl,_⟩
 .have HU:∀ d,o.dst=some d->X.names.contains d=false:=by
   intro d hd';rw [hd'] at hd;simpa [nF] using hd
  refine ⟨G,Ext.refl _ _,fun _ _ _ _ h=>⟨h,rfl⟩,fun _ _ h=>h,?_,?_,h.H,h.wf,h.V4⟩
  .intro s t ht
   rw [Y0 ?_]
   .exact h.T s t ht
   .intro e
    have h1:=HU t e;have h2:t ∈ X.names:=List.mem_of_getElem? ht;simp [h2] at h1
  .intro j hj d Cb hjn
   rcases hj with hj|rfl
   .rw [Y0 ?_]
    .exact h.L j hj d Cb hjn
    .intro e
     have:=hst.dup j k d Cb (by rw [wK];exact e) hjn;subst this;exact hk hj
   .rw [wK] at Cb
    rw [Cb,bf (by rw [hsz];exact hst.lt j d (by rw [wK];exact Cb))];exact hv
 .·cases hod:o.dst with
   |none=>rw [hod] at hd;simp [nF] at hd
   |some d =>
    rw [hod] at hd;have eV:X.names[s]? =some d:=by simpa [nF] using hd
    have hdn:X.names.contains d=true:=by
     have:d ∈ X.names:=List.mem_of_getElem? eV;simp [this]
    have be9:d<a.tmps.size:=by rw [hsz];exact hst.lt k d (by rw [wK];exact hod)
    have main:∀ (v:c8) (st3:G4) (G' :Gh),jq (.loc k) G w G' ->VR G' I N w (.slot s) v x->st3.H=st1.H->(∀ m,m≠k->st3.L[m]? =st1.L[m]?)->st3.T=st1.T.set s v ->
      RI X l (fun j=>S j\/j=k) st3 (a.put (some d) x) w G' I N:=by
     intro v st3 G' hm TL hH hL hT3;refine ⟨?_,?_,?_,hm.wf h.wf,?_⟩
     .intro s' t ht
      rw [hT3]
      by_cases he:s' =s
      .subst he
       rw [eV] at ht;cases ht;rw [O1 _ _ _ _ hs,bf be9];exact TL
      .rw [P8 _ _ _ _ _ (fun e=>he e.symm),Y0 (fun e=>he (hst.nod s' s t ht (by rw [eV,<- Option.some_inj.1 e])))]
       exact VR.mono hm.ext (fun _ _=>rfl) (fun _ h=>h) _ _ _ (Or.inr (hm.keeps _ (by simp))) (h.T s' t ht)
     .intro j hj d' Cb hjn
      have hjk:S j:=by
       rcases hj with hj|rfl
       .exact hj
       .rw [wK,hod] at Cb;cases Cb;rw [hdn] at hjn;cases hjn
      have hne:j≠k:=by rintro rfl;exact hk hjk
      have e1:st3.L.getD j .any=st1.L.getD j .any:=by simp only [List.getD,hL j hne]
      rw [e1,Y0 (fun e=>by cases e;rw [hdn] at hjn;cases hjn)];exact VR.mono hm.ext (fun _ _=>rfl) (fun _ h=>h) _ _ _ (Or.inr (hm.keeps _ (by simp;exact hne))) (h.L j hjk d' Cb hjn)
     .rw [hH];exact h.H.Iy hm (by simp)
     .rw [hH];exact h.V4
    by_cases hown:∃ z n c,st1.L[k]? =some (.own z n c)
    .obtain ⟨z,n,c,ab1⟩:=hown
     rw [aM ab1] at hv;obtain ⟨G',hm,TL⟩:=iT (wW := .slot s) (by simp) hv;refine ⟨G',hm.ext,fun id off=>hm.keeps _ (by simp),hm.obj,?_⟩;have e1:(x9.E1 st1 (.loc k)).1= .own z n c:=by simp only [x9.E1,ab1]
     exact main (.own z n c) _ G' hm TL (vW _ _) (fun m hm=>mJ st1 k m hm) (by simp only [e1])
    .by_cases hnil:st1.L[k]? =some .N7
     .have e1:x9.E1 st1 (.loc k)=(.N7,st1):=by simp only [x9.E1,hnil]
      refine ⟨G,Ext.refl _ _,fun _ _ _ _ h=>⟨h,rfl⟩,fun _ _ h=>h,?_⟩;refine main .N7 _ G (jq.refl _ _ _) ?_ (vW _ _) (fun m hm=>mJ st1 k m hm) (by simp only [e1]);rw [aM hnil] at hv;simpa only [VR] using hv
     .have e1:x9.E1 st1 (.loc k)=(I5 st1.T st1.L (.loc k),st1):=by
       simp only [x9.E1];split
       .rename_i z n c hj;exact absurd ⟨z,n,c,hj⟩ hown
       .rename_i hj;exact absurd hj hnil
       .rfl
      refine ⟨G,Ext.refl _ _,fun _ _ _ _ h=>⟨h,rfl⟩,fun _ _ h=>h,?_⟩;refine main (I5 st1.T st1.L (.loc k)) _ G (jq.refl _ _ _) ?_ (vW _ _) (fun m hm=>mJ st1 k m hm) (by simp only [e1]);simp only [I5];exact hv.J2
def PV.after (hst:Stat X nt)(hR:Rg X j9 E nt S st a w G I N){k:Nat}(hk:¬ S k){o:Oper}(ho:X.ops[k]? =some o){i:p6}(hi:j9[k]? =some i)(hd:nF X.names o.dst i.dst=true)
  (hcl:∀ y,i.op= .load none y->we X S y) (htr:Tr N k st st1) {y9:Option Nat} (hts:r9 y9 st1 k i.dst=some st2) {x:Value} {ds:List Deferred}
  (hko:∀ id,N id->st1.o7.any (Touch.K0 id)=false->I' id=I id/\∀ b,G b= .obj id->w'.heap[b]? =w.heap[b]?)
  (hf:st2.L[k]? =some (.tuple [])\/jh X st a w I i.op x):PV X j9 (fun j=>S j\/j=k) st2 ({ a with defers:=ds }.put o.dst x) w' I' :=by
 have wK:(X.ops[k]?).bind (·.dst)=o.dst:=by rw [ho];rfl
 have Xv:∀ j,j≠k->st2.L[j]? ≠some (.tuple [])->st.L[j]? ≠some (.tuple []):=by
  intro j hj h1 h2;rw [JI hts hj] at h1;exact h1 (htr.Xv j hj h2)
 have an3:∀ p,st2.o7.any p=false->st.o7.any p=false/\st1.o7.any p=false:=by
  intro p hp;have h1:=iS (Bp hts) hp;exact ⟨iS htr.o7 h1,h1⟩
 have Vy:∀ (s:Nat) t,X.names[s]? =some t->st2.o7.any (Touch.S4 s)=false->o.dst≠some t:=by
  intro s t ht hh e;rw [e] at hd;cases hdi:i.dst with
  |none =>
   grind [List.mem_of_getElem?,nF]
  |some s' =>
   rw [hdi] at hd hts;have h1:X.names[s']? =some t:=by simp_all [nF]
   have:=hst.nod s s' t ht h1
   grind [Bn]
 have Nz:∀ (j:Nat) d,S j->(X.ops[j]?).bind (·.dst)=some d->X.names.contains d=false->o.dst≠some d:=by
  intro j d hj Cb hjn e;have:=hst.dup j k d Cb (by grind) hjn
  grind
 have GY:∀ y id off l0,we X S y->aV st2 y=some (id,off)->st2.H[id]? =some (.cells l0)->off<l0.length->st2.o7.any (Touch.bP id off)=false ->
   aV st y=some (id,off)/\st.o7.any (Touch.bP id off)=false/\(∃ l,st.H[id]? =some (.cells l)/\off<l.length)/\w'.cell? (ad (I' id).1 ((I' id).2+off))=w.cell? (ad (I id).1 ((I id).2+off)):=by
  intro y id off l0 hy hp hH hoff hh;have hym:∀ m,y= .loc m->m≠k:=by
   rintro m rfl rfl;exact hk hy.1
  have hp1:=Na hts hym hp;have hp0:=htr.ptr hym hp1;have hN:=hR.bn8 hy hp0;have Ll:st1.o7.any (Touch.K0 id)=false:=by
   cases he:st1.o7.any (Touch.K0 id) with
   |false=>rfl
   |true =>
    rw [List.any_eq_true] at he;obtain ⟨t,ht,hth⟩:=he;have:st1.o7.any (Touch.bP id off)=true:=by
     rw [List.any_eq_true];refine ⟨t,ht,?_⟩;cases t<;>simp only [Touch.K0,Touch.bP] at hth ⊢<;>first|exact hth|cases hth
    grind
  rw [oL hts] at hH;obtain ⟨l,hl,hle⟩:=htr.H id l0 hN Ll hH;have hO:=hR.ri.H id _ hl
  grind [OR,World.cell?]
 refine ⟨?_,?_⟩
 .intro j ai s t d hj hsk hai hop ht Cb hjn hh
  rw [Y0 (Vy s t ht hh)]
  rcases hj with hj|rfl
  .rw [Y0 (Nz j d hj Cb hjn)]
   exact hR.pv.slot j ai s t d hj (Xv j (by grind) hsk) hai hop ht Cb hjn (an3 _ hh).1
  .rw [hi] at hai;cases hai
   rw [wK] at Cb;rw [Cb,bf (by simp only;rw [hR.size];exact hst.lt j d (by grind))]
   rcases hf with hf|hf
   .grind
   .exact hf.Q3 s t hop ht
 .intro j ai y id off d l0 hj hsk hai hop hp hH hoff hh Cb hjn
  rcases hj with hj|rfl
  .have hy:=hR.cl j ai y hj hai hop
   obtain ⟨h1,h2,⟨l,h3,h4⟩,h5⟩:=GY y id off l0 hy hp hH hoff hh;rw [Y0 (Nz j d hj Cb hjn),h5];exact hR.pv.cell j ai y id off d l hj (Xv j (by grind) hsk) hai hop h1 h3 h4 h2 Cb hjn
  .rw [hi] at hai;cases hai
   have hy:=hcl y hop;obtain ⟨h1,h2,⟨l,h3,h4⟩,h5⟩:=GY y id off l0 hy hp hH hoff hh;rw [wK] at Cb;rw [Cb,bf (by simp only;rw [hR.size];exact hst.lt j d (by grind)),h5]
   rcases hf with hf|hf
   .grind
   .exact hf.load y id off hop h1
end
end Go.x9
namespace Go.x9
variable [D9]
section
variable {X:Cx} {j9:List p6} {E:Env} {nt:Nat} {S:Nat->Prop} {st st1 st2:G4} {a:Act} {w w' :World} {G G' :Gh} {I I' :R3} {N N' :Nat->Prop} {D:Nat->Bool}
theorem tU (hR:Rg X j9 E nt S st a w G I N)(hD:∀ j,D j=true->S j){o:Oper}{g:Option (Nat×Bool)}(hc:nG X D o.guard g=true){b:Bool}(hw:u5 st.L g=some b):Region.wanted o (yielded X.ops a.tmps)=b:=by
 unfold Region.wanted;cases hg:o.guard with
 |none =>
  grind [u5,nG]
 |some p =>
  obtain ⟨g0,want⟩:=p;rw [hg] at hc;cases g with
  |none=>simp [nG] at hc
  |some q =>
   obtain ⟨g1,by6⟩:=q;simp only [nG,c7,beq_iff_eq] at hc;obtain ⟨⟨⟨rfl,rfl⟩,hDg⟩,zX⟩:=hc;cases hd:(X.ops[g0]?).bind (·.dst) with
   |none=>simp_all
   |some d =>
    rw [hd] at zX;simp only [n5] at zX;have hv:=hR.ri.L g0 (hD g0 hDg) d hd zX;have hy:yielded X.ops a.tmps g0=(match a.tmps[d]? with|some (.bool b)=>some b|_=>none):=by
     grind [yielded]
    simp [u5] at hw;split at hw
    .cases hw
     simp_all [VR,DR,bool,undef]<;>grind
    all_goals (simp_all [VR,bool]<;>grind)
structure ay3 (X:Cx)(j9:List p6)(E:Env)(nt:Nat)(S:Nat->Prop)(st:G4)(w:World)(G:Gh)(I:R3)(N:Nat->Prop)(k:Nat)(y9:Option Nat)(st2:G4)(a' :Act)(w' :World)(G' :Gh)(I' :R3)(N' :Nat->Prop):Prop where
 rg:Rg X j9 E nt (fun j=>S j\/j=k) st2 a' w' G' I' N'
 since:aj E st.H w G I N st2.H w' G' I' N'
 len:st.H.length<=st2.H.length
 old:∀ id,id<st.H.length->N' id->N id\/y9=some id
theorem IL (hD:∀ j,D j=true->S j){x:Operand}{y:y6}(hc:X.ck D x y=true):we X S y:=by
 unfold Cx.ck at hc;split at hc
 .exact ⟨_,by simpa using hc⟩
 .simp only [c7,beq_iff_eq,n5] at hc
  exact ⟨hD _ hc.1.1,_,hc.1.2,hc.2⟩
 .trivial
 .trivial
 .trivial
 .cases hc
theorem Il (hD:∀ j,D j=true->S j){o:Oper}{n:Option Nat}{y:y6}(hc:aq X.P (X.ck D) o (.load n y)=true):we X S y:=by
 simp [aq] at hc;obtain ⟨dst,dW,ty,pos,after,guard⟩:=o;cases dW<;>simp [E4] at hc
 grind [IL]
theorem Rg.after (hst:Stat X nt)(hR:Rg X j9 E nt S st a w G I N)(hD:∀ j,D j=true->S j){k:Nat}(hk:¬ S k)(aF:k<st.L.length){o:Oper}(ho:X.ops[k]? =some o){i:p6}(hi:j9[k]? =some i)(hc:qX X D o i=true)
  {y9:Option Nat} (hne:∀ i,y9=some i->E.entry<=i) (htr:Tr N k st st1) (hts:r9 y9 st1 k i.dst=some st2) {x:Value} {ds:List Deferred} (hds:ds=a.defers\/∃ d,ds=d::a.defers/\GK X.P E.idle d)
  (hf:st2.L[k]? =some (.tuple [])\/jh X st a w I i.op x) (hS:wg y9 X E.lim S E.entry st a w G I N st1 k x w' G' I' N') :
  ∃ G'',ay3 X j9 E nt S st w G I N k y9 st2 ({ a with defers:=ds }.put o.dst x) w' G'' I' N' :=by
 simp [qX,c7] at hc;obtain ⟨⟨hc1,mQ⟩,Xm⟩:=hc;have hm:=hS.mid;obtain ⟨G2,e1,e2,e3,e4⟩:=RI.after (l:=E.lim) (a:={ a with defers:=ds }) hst hR.size (by rw [htr.V5];exact hR.V5) hk (by rw [htr.iP];exact aF) ho mQ hm.ri.defers hm.val hts;have hpv:=PV.after (w' :=w') (I' :=I') (x:=x) (ds:=ds) hst hR hk ho hi mQ (fun y hy=>Il hD (by simp_all<;>omega)) htr hts (fun id hN ht=>by
  obtain ⟨h1,h2⟩:=hm.ko id hN ht;simp_all) hf
 refine ⟨G2,⟨e4,hpv,?_,?_,?_,?_,?_,?_,?_⟩,⟨?_,?_,?_,?_,?_,?_⟩,?_,hS.old⟩
 .intro j ai y hj hai hop
  have lift:we X S y->we X (fun j=>S j\/j=k) y:=by
   intro h;cases y with
   |loc m=>exact ⟨Or.inl h.1,h.2⟩
   |slot s=>exact h
   |const v=>trivial
  rcases hj with hj|rfl
  .exact lift (hR.cl j ai y hj hai hop)
  grind [Il]
 .rw [JK hts,htr.V5];exact hR.V5
 .rw [JJ hts,htr.iP];exact hR.iP
 .intro id hid;rw [oL hts];exact hS.bt id hid
 .rw [oL hts];exact B6 hR.Lk hm.len
 .rw [size_put];exact hR.size
 .rw [lQ]
  intro d hd
  rcases hds with rfl|⟨d',rfl,hid⟩
  .exact hR.idle d hd
  .simp [B4] at hd
   rcases hd with rfl|hd
   .exact hid
   .exact hR.idle d hd
 .exact hm.ext.trans e1
 .exact hm.ez.trans fun id _=>⟨fun b hb=>⟨e3 b id hb,rfl⟩,e2 id⟩
 .intro id hid hN;exact hm.inj id hid hN
 .intro id _ hN;exact hm.mono id hN
 .intro id hid hN
  rcases hS.old id (Nat.lt_of_lt_of_le hid hR.Lk) hN with h1|h1
  all_goals grind
 .intro id o' hb ho';rw [oL hts] at ho';exact hm.hle id o' hb ho'
 .rw [oL hts];exact hm.len
def xm (hst:Stat X nt)(NG:nx X.P E.cf E.prom)(eW:∀ f args H lm r,E.cf f args H lm=some r->S0 X.P f=true)(hs:E.lim.strict<=E.lim.base)(hbe:E.lim.base<=E.entry)(hR:Rg X j9 E nt S st a w G I N)
  (hD:∀ j,D j=true->S j) {k:Nat} (hk:¬ S k) {o:Oper} (ho:X.ops[k]? =some o) {i:p6} (hi:j9[k]? =some i) (hc:qX X D o i=true) {y9:Option Nat} (hid:i.op.z7=true->GJ E.lim st N y9) (hne:∀ i,y9=some i->E.entry<=i/\i<st.H.length)
  {rs:List Nat} (he:u9 E j9 y9 k i st=some (st2,rs)) (K:Act->World->Prop) (Q:Exit->Act->World->Prop)
  (hK:∀ a' w' G' I' N',ay3 X j9 E nt S st w G I N k y9 st2 a' w' G' I' N' ->K a' w'):wpOp X.P X.ops Q k K a w:=by
 have aF:k<st.L.length:=by rw [hR.iP];grind
 have sU :=hc;simp [qX,c7] at sU;obtain ⟨⟨hc1,mQ⟩,Xm⟩:=sU;unfold wpOp;simp [ho];unfold u9 at he;split at he
 .rename_i hw
  rw [if_pos (tU hR hD Xm hw)];split at he
  .rename_i st1 rs1 hW
   split at he
   .rename_i bp2 hts
    refine Or.inl ?_;have hrun:=JC (P:=X.P) NG eW rfl hR.ri hR.pv hR.V5 hR.bt (B6 hbe hR.Lk) hs hD hk aF hc1 (y9:=y9) hid hW;refine hrun K Q ?_;rintro a' w' ⟨x,ds,G',I',N',hF,rfl,hds,hS⟩;have htr:Tr N k st st1:=Tr.D6 hR.bt (fun i h=>(hne i h).2) (fun ha=>(hid ha).new) hW;obtain ⟨G'',hdone⟩:=Rg.after hst hR hD hk aF ho hi hc (fun i h=>(hne i h).1) htr hts hds (Or.inr hF) hS
    grind
   .cases he
  .cases he
 .rw [if_neg (by grind [tU])]
  split at he
  .rename_i bp2 hts
   cases he;have htr:Tr N k st (put st k (.tuple [])):=Tr.put _;have hS:wg y9 X E.lim S E.entry st a w G I N (put st k (.tuple [])) k undef w G I N :=
    wg.iV hR.bt (cB.same hR.ri hk aF E.entry (by exact ⟨#[],rfl,by simp [J5]⟩))
   have hL:st2.L[k]? =some (.tuple []):=by
    grind [R9,put,E1]
   obtain ⟨G'',hdone⟩:=Rg.after hst hR hD hk aF ho hi hc (fun i h=>(hne i h).1) htr hts (Or.inl rfl) (Or.inl hL) hS;exact hK _ _ _ _ _ hdone
  .cases he
 .cases he
def lP (X:Cx):List p6->Nat->Bool
 |[],k=>X.ops.size==k
 |i::is,k=>(match X.ops[k]? with
  |some o=>qX X (fun j=>decide (j<k)) o i
  |none=>false)&&lP X is (k+1)
structure Fin (X:Cx)(j9:List p6)(E:Env)(nt:Nat)(st0:G4)(w:World)(G:Gh)(I:R3)(N:Nat->Prop)(st2:G4)(a' :Act)(w' :World)(G' :Gh)(I' :R3)(N' :Nat->Prop):Prop where
 rg:Rg X j9 E nt (fun j=>j<j9.length) st2 a' w' G' I' N'
 since:aj E st0.H w G I N st2.H w' G' I' N'
def Rg.congr {S' :Nat->Prop}(h:Rg X j9 E nt S st a w G I N)(hS:∀ j,S j↔S' j):Rg X j9 E nt S' st a w G I N:=by
 have:S=S' :=funext fun j=>propext (hS j)
 simp_all
def FT (hst:Stat X nt)(NG:nx X.P E.cf E.prom)(eW:∀ f args H lm r,E.cf f args H lm=some r->S0 X.P f=true)(hs:E.lim.strict<=E.lim.base)(hbe:E.lim.base<=E.entry)(Q:Exit->Act->World->Prop) :
  ∀ (is:List p6) (k:Nat),j9.drop k=is->k<=j9.length->lP X is k=true->∀ (st:G4) (a:Act) (w:World) (G:Gh) (I:R3) (N:Nat->Prop) (st2:G4),Rg X j9 E nt (fun j=>j<k) st a w G I N->eA E j9 is k st=some st2 ->
   (∀ a' w' G' I' N',Fin X j9 E nt st w G I N st2 a' w' G' I' N' ->Q .normal a' w')->wpOps X.P X.ops Q (List.range' k is.length) a w:=by
 intro is
 induction is with
 |nil =>
  intro k hd hk _ st a w G I N st2 hR hrun hQ;cases hrun;have aF:j9.length=k:=by
   simp_all [List.length]<;>omega
  exact hQ _ _ _ _ _ ⟨by simp_all,aj.refl _ _ _ _ _ _⟩
 |cons i is ih =>
  intro k hd hk hc st a w G I N st2 hR hrun hQ;have hi:j9[k]? =some i:=by
   have:(j9.drop k)[0]? =some i:=by rw [hd];rfl
   grind
  have hd' :j9.drop (k+1)=is:=by
   have:=congrArg (List.drop 1) hd
   grind [List.drop_drop]
  simp [lP,c7] at hc;obtain ⟨hc1,mQ⟩:=hc;simp [eA] at hrun;split at hrun
  .rename_i st1 rs hstep
   cases ho:X.ops[k]? with
   |none=>simp_all
   |some o =>
    rw [ho] at hc1;simp [p7];refine xm hst NG eW hs hbe hR (D:=fun j=>decide (j<k)) (fun j hj=>by simp_all) (Nat.lt_irrefl k) ho hi hc1 (y9:=none) (fun _=> ?_) (fun i h=>by cases h) hstep _ _ ?_
    .exact ⟨(fun hN=>by have:=hR.bt _ hN;grind [newId]),(fun i h=>by cases h),by exact B6 hbe hR.Lk,by exact B6 hs (B6 hbe hR.Lk)⟩
    .intro a' w' G' I' N' hdone
     refine ih (k+1) hd' (u7 hi) mQ st1 a' w' G' I' N' st2 (hdone.rg.congr fun j=>by omega) hrun ?_;intro a'' w'' G'' I'' N'' rG;exact hQ _ _ _ _ _ ⟨rG.rg,hdone.since.trans rG.since⟩
  .cases hrun
end
end Go.x9
namespace Go.x9
variable [D9]
def y6.dV:y6->List Nat
 | .loc j=>[j]
 |_=>[]
def y6.slots:y6->List Nat
 | .slot s=>[s]
 |_=>[]
def z6.R7:z6->List y6
 | .Q3 x=>[x]
 | .pick c a b=>[c,a,b]
 | .alloc _=>[]
 | .box x=>[x]
 | .build _ parts=>parts.map (·.2.2)
 | .A2 _ _ _ parts _=>parts.map (·.2.2)
 | .load _ x=>[x]
 | .store _ a x=>[a,x]
 | .aU x=>[x]
 | .bin _ x y=>[x,y]
 | .un _ x=>[x]
 | .Au _ x=>[x]
 | .s8 _ x y=>[x,y]
 | .Hv _ _ x y=>[x,y]
 | .mP _ x=>[x]
 | .jP x=>[x]
 | .Y8 _ x lo hi=>x::(lo.toList++hi.toList)
 | .off _ x=>[x]
 | .D5 _ x i=>[x,i]
 | .gJ _ _ x i=>[x,i]
 | .J6 x i=>[x,i]
 | .extract x _=>[x]
 | .len x=>[x]
 | .V5 x=>[x]
 | .append _ _ _ x y=>[x,y]
 | .gL _ xs=>xs
 | .clear _ _ x=>[x]
 | .ay _ first caps=>first++caps
 | .call _ xs=>xs
 | .an x xs=>x::xs
 | .makeMap=>[]
 | .mX _=>[]
 | .own _ x=>[x]
 | .lookup _ _ _ m k=>[m,k]
 | .dg _ m k v=>[m,k,v]
 | .defer x=>[x]
 | .bad=>[]
def eC (j9:List p6)(i:p6):List Nat :=
 (i.op.R7.flatMap y6.dV)++(match i.guard with|some (g,_)=>[g]|none=>[]) ++
 (match i.op with
  | .append _ _ _ (.loc j) _=>(match j9[j]? with|some a=>a.op.R7.flatMap y6.dV|none=>[])
  | .own _ (.loc j)=>(match j9[j]? with|some a=>a.op.R7.flatMap y6.dV|none=>[])
  |_=>[])
def fc (i:p6):List Nat:=i.op.R7.flatMap y6.slots
theorem Z5 {α β:Type}{f g:α->β}{l:List α}(h:∀ x,x ∈ l->f x=g x):l.map f=l.map g:=List.map_congr_left h
def jE {ρ ρ' :y6->c8}{ps:List (Nat×Nat×y6)}(h:∀ x,x ∈ ps.map (·.2.2)->ρ' x=ρ x):(ps.map fun (o,s,x)=>(o,s,ρ' x))=ps.map fun (o,s,x)=>(o,s,ρ x):=by
 grind [List.map_congr_left]
def wo {ρ ρ' :y6->c8}{d:Nat}{o:Option y6}(h:∀ x,x ∈ o.toList->ρ' x=ρ x):W7 ρ' d o=W7 ρ d o:=by
 simp_all [W7]<;>grind
def mz {ρ ρ' :y6->c8}{H:o9}{op:z6}(h:∀ x,x ∈ op.R7->ρ' x=ρ x):n9 ρ' H op=n9 ρ H op:=by
 cases op<;>simp only [z6.R7] at h
 case build=>simp [n9,jE h]
 case A2 sz len zero parts ob=>cases ob<;>simp [n9,jE h]
 case gL isMax xs=>grind [n9,Z5]
 case ay f first caps =>
  simp_all [n9,Z5]
 case Y8 sz x lo hi =>
  have h2:∀ d,W7 ρ' d lo=W7 ρ d lo:=fun d=>wo fun y hy=>h y (by simp_all)
  have h3:∀ d,W7 ρ' d hi=W7 ρ d hi:=fun d=>wo fun y hy=>h y (by simp_all)
  simp_all [n9]
 case load n x=>cases n<;>simp [n9,h x (by simp)]
 case pick c a b=>simp_all [n9]
 case bin b x y=>simp_all [n9]
 case s8 b x y=>simp_all [n9]
 case Hv b ks x y=>simp_all [n9]
 case D5 s x y=>simp_all [n9]
 case gJ n s x y=>simp_all [n9]
 case J6 x y=>simp_all [n9]
 case lookup kk z ok x y=>simp_all [n9]
 case aU x=>simp_all [n9]
 case un b x=>simp_all [n9]
 case Au b x=>simp_all [n9]
 case mP k x=>simp_all [n9]
 case jP x=>simp_all [n9]
 case off k x=>simp_all [n9]
 case extract x i=>simp_all [n9]
 case len x=>simp_all [n9]
 case V5 x=>simp_all [n9]
 all_goals rfl
def T0:Option u0->Option u0->Prop
 |some (.cells l),some (.cells l')=>l.map c8.J2=l'.map c8.J2
 |a,b=>a=b
theorem T0.refl (o:Option u0):T0 o o:=by
 simp_all [T0]<;>grind
def T0.symm {a b:Option u0}(h:T0 a b):T0 b a:=by
 simp_all [T0,absurd]<;>grind
theorem T0.trans {a b c:Option u0}(h:T0 a b)(k:T0 b c):T0 a c:=by
 simp_all [T0]<;>grind
theorem Nq (v:c8):v.J2.J2=v.J2:=by cases v<;>rfl
def af2 {H H' :o9}{id off n:Nat}(h:T0 H'[id]? H[id]?){vs:List c8}(hr:rd H id off n=some vs):∃ vs',rd H' id off n=some vs' /\vs'.map c8.J2=vs.map c8.J2:=by
 unfold rd at hr ⊢;split at hr
 .rename_i l hl
  split at hr
  .cases hr
   rw [hl] at h;cases h' :H'[id]? with
   |none=>simp_all [T0]
   |some o =>
    rw [h'] at h;cases o with
    |cells l' =>
     have h:l'.map c8.J2=l.map c8.J2:=by grind [T0]
     have hll:l'.length=l.length:=by simpa using congrArg List.length h
     simp_all
    |dead=>simp [T0] at h
    |map es=>simp [T0] at h
  .cases hr
 .cases hr
def Jc {ρ:y6->c8}{H H' :o9}{op:z6}{v:c8}{rs:List Nat}(h:n9 ρ H op=some (v,rs))(hr:∀ id,id ∈ rs->T0 H'[id]? H[id]?):n9 ρ H' op=some (v,rs):=by
 cases op
 case load n x =>
  cases n with
  |none =>
   simp only [n9] at h ⊢;split at h
   .rename_i id off hp
    split at h
    .rename_i u hu
     cases h;obtain ⟨vs',h1,h2⟩:=af2 (hr id (by simp)) hu;obtain ⟨u',rfl⟩:∃ u',vs' =[u']:=by
      have:=congrArg List.length h2;simp at this;exact List.length_eq_one_iff.1 this
     simp at h2;simp only [h1,h2]
    .cases h
   .exact h
   .cases h
  |some n =>
   simp only [n9] at h ⊢;split at h
   .rename_i id off hp
    split at h
    .rename_i us hu
     cases h;obtain ⟨vs',h1,h2⟩:=af2 (hr id (by simp)) hu;simp only [h1,h2]
    .cases h
   .exact h
   .cases h
 case lookup kk zero ok m k =>
  simp only [n9] at h ⊢;split at h
  .rename_i id key hp hq
   split at h
   .rename_i es Tz
    split at h
    .rename_i hf hft
     cases h;have:=hr id (by simp);rw [Tz] at this;have h' :H'[id]? =some (.map es):=by
      cases h' :H'[id]? with
      |none=>rw [h'] at this;simp [T0] at this
      |some o=>rw [h'] at this;cases o<;>simp_all [T0]
     simp only [h',hf,hft]
    .cases h
   .cases h
  .exact h
  .cases h
 case A2 sz len zero parts ob=>cases ob<;>exact h
 all_goals exact h
structure Still (k:Nat)(dst y9:Option Nat)(d:List Touch)(st st' :G4):Prop where
 L:∀ m,m≠k->(st'.L.getD m .any).J2=(st.L.getD m .any).J2
 Gb:∀ m,m≠k->∀ b,st'.L[m]? =some (c8.d (.bool b))↔st.L[m]? =some (c8.d (.bool b))
 Gt:∀ m,m≠k->(st'.L[m]? =some (c8.tuple [])↔st.L[m]? =some (c8.tuple []))
 T:∀ s,dst≠some s->(st'.T.getD s .any).J2=(st.T.getD s .any).J2
 o7:st'.o7=d++st.o7
 H:∀ id:Nat,d.any (Touch.K0 id)=false->y9≠some id->T0 st'.H[id]? st.H[id]?
 Mj:st.H.length<=st'.H.length
 iP:st'.L.length=st.L.length
 V5:st'.T.length=st.T.length
section
variable {k:Nat} {dst y9:Option Nat} {d d1 d2:List Touch} {st st1 st' :G4}
theorem Still.refl (k:Nat)(dst y9:Option Nat)(st:G4):Still k dst y9 [] st st :=
 ⟨fun _ _=>rfl,fun _ _ _=>Iff.rfl,fun _ _=>Iff.rfl,fun _ _=>rfl,rfl,fun _ _ _=>T0.refl _,o5 _,rfl,rfl⟩
theorem Still.trans (h:Still k dst y9 d1 st st1)(g:Still k dst y9 d2 st1 st'):Still k dst y9 (d2++d1) st st' where
 L m hm:=(g.L m hm).trans (h.L m hm)
 Gb m hm b:=(g.Gb m hm b).trans (h.Gb m hm b)
 Gt m hm:=(g.Gt m hm).trans (h.Gt m hm)
 T s hs:=(g.T s hs).trans (h.T s hs)
 o7:=by rw [g.o7,h.o7,E8]
 H id hd hn:=by
  simp only [List.any_append,F3] at hd;exact (g.H id hd.1 hn).trans (h.H id hd.2 hn)
 Mj:=B6 h.Mj g.Mj
 iP:=g.iP.trans h.iP
 V5:=g.V5.trans h.V5
theorem Still.put (v:c8):Still k dst y9 [] st (put st k v) where
 L m hm:=by grind [x9.put,P8]
 Gb m hm b:=by grind [x9.put,D3]
 Gt m hm:=by grind [x9.put,D3]
 T _ _:=rfl
 o7:=rfl
 H _ _ _:=T0.refl _
 Mj:=o5 _
 iP:=by simp [x9.put]
 V5:=rfl
def Still.C4 {j z n:Nat}{c:List Data}(hj:st.L[j]? =some (.own z n c)):Still k dst y9 [] st { st with L:=st.L.set j (.d (.slice n c)) } where
 L m _:=by
  by_cases e:j=m
  .subst e
   rw [O1 _ _ _ _ (u7 hj),aM hj];rfl
  simp_all
 Gb m _ b:=by
  grind
 Gt m _:=by
  grind
 T _ _:=rfl
 o7:=rfl
 H _ _ _:=T0.refl _
 Mj:=o5 _
 iP:=by simp
 V5:=rfl
theorem Still.E1 (y:y6):Still k dst y9 [] st (E1 st y).2:=by
 cases y with
 |loc j =>
  simp only [x9.E1];split
  .rename_i hj
   exact Still.C4 hj
  .exact Still.refl _ _ _ _
  .exact Still.refl _ _ _ _
 |slot s=>exact Still.refl _ _ _ _
 |const v=>exact Still.refl _ _ _ _
def Still.heap {H' :o9}(h2:∀ id:Nat,d.any (Touch.K0 id)=false->y9≠some id->T0 H'[id]? st.H[id]?)(hl:st.H.length<=H'.length):Still k dst y9 d st { st with H:=H',o7:=d++st.o7 } :=
 ⟨fun _ _=>rfl,fun _ _ _=>Iff.rfl,fun _ _=>Iff.rfl,fun _ _=>rfl,rfl,h2,hl,rfl,rfl⟩
def Still.newObj {i:Nat}(o:u0):Still k dst (some i) [] st (L7 st (some i) o) :=
 ⟨fun _ _=>rfl,fun _ _ _=>Iff.rfl,fun _ _=>Iff.rfl,fun _ _=>rfl,rfl,fun id _ hn=>by
  simp_all [L7,D3,T0.refl],(by simp [L7]),rfl,rfl⟩
theorem Still.W8 {l:F2}{sz len:Nat}{cells:List Data}{op:z6}(h:W8 l st sz op=some (len,cells,st')):∃ d,Still k dst y9 d st st' :=by
 unfold x9.W8 at h;split at h
 .rename_i s
  split at h
  .cases h
  .split at h
   .rename_i hs
    split at h
    .cases h
     refine ⟨[.slot s],fun _ _=>rfl,fun _ _ _=>Iff.rfl,fun _ _=>Iff.rfl,fun s' _=> ?_,rfl,fun _ _ _=>T0.refl _,o5 _,rfl,by simp⟩
     by_cases e:s=s'
     .subst e
      rw [O1 _ _ _ _ (u7 hs),aM hs];rfl
     simp_all
    .cases h
   .cases h
 .split at h
  .rename_i id off Yo
   split at h
   .cases h
   .split at h
    .rename_i cs hcs
     split at h
     .rename_i hco
      split at h
      .cases h
       refine ⟨[.cell id off],Still.heap (fun id' _ _=> ?_) (by simp)⟩
       by_cases he:id=id'
       .subst he
        rw [O0 (u7 hcs),hcs];apply List.ext_getElem?;intro n;simp only [List.getElem?_map]
        by_cases e:off=n
        .subst e
         rw [O0 (u7 hco),hco];rfl
        simp_all
       simp_all [D3,T0.refl]
      .cases h
     .cases h
    .cases h
  .cases h
 .cases h
theorem Still.O8 {l:F2}{j9:List p6}{sz len:Nat}{cells:List Data}{y:y6}(h:O8 l j9 st sz y=some (len,cells,st')):∃ d,Still k dst y9 d st st' :=by
 unfold x9.O8 at h;split at h
 .split at h
  .cases h;exact ⟨[],Still.refl _ _ _ _⟩
  .cases h
 .cases h
 .cases h
 .split at h
  .rename_i hj
   split at h
   .cases h
    exact ⟨[],Still.C4 hj⟩
   .cases h
  .split at h
   .exact Still.W8 h
   .cases h
  .cases h
theorem Still.C6 {E:Env}{f:FuncId}{args:List c8}(h:C6 E k f args st=some st'):∃ d,Still k dst none d st st' :=by
 unfold x9.C6 at h;split at h
 .split at h
  .rename_i v H1 _
   split at h
   .rename_i hlen
    cases h;refine ⟨[]++[.below H1.length],Still.trans (Still.heap (fun id hd _=> ?_) hlen) (Still.put _)⟩
    grind [Touch.K0,List.getElem?_eq_none,T0.refl]
   .cases h
  .cases h
 .simp only at h
  generalize E9 st.H E.lim.strict 8 (A4 args)=n at h;generalize (args.headD .any).K5=m at h;split at h
  .split at h
   .split at h
    .split at h
     .cases h
      refine ⟨[]++[.below n],Still.trans (Still.heap (fun id hd _=> ?_) (by simp;omega)) (Still.put _)⟩;simp_all [Touch.K0,s5,List.getElem?_drop,T0.refl]
     .cases h
    .cases h
   .split at h
    .split at h
     .cases h
      exact ⟨_,Still.put _⟩
     .cases h
    .cases h
   .split at h
    .split at h
     .cases h
      refine ⟨[]++[.below m],Still.trans (Still.heap (fun id hd _=> ?_) (by simp;omega)) (Still.put _)⟩;simp_all [Touch.K0,s5,List.getElem?_drop,List.take,T0.refl]
     .cases h
    .cases h
  .cases h
def Wh {H H' :o9}{id off:Nat}{vs:List c8}(h:wr H id off vs=some H'):H'.length=H.length:=by
 grind [wr]
theorem Still.Q8 {E:Env}{n:Nat}{a:c8}{x:y6}(h:Q8 E k n st a x=some st'):∃ d,Still k dst none d st st' :=by
 unfold x9.Q8 at h;split at h
 .rename_i id off
  split at h
  .split at h
   .split at h
    .rename_i H' hw
     cases h;refine ⟨[]++([.obj id]++[]),Still.trans (Still.trans (Still.E1 x) (Still.heap (fun id' hd _=> ?_) (by rw [Wh hw];omega))) (Still.put _)⟩
     grind [tW,T0.refl,Touch.K0]
    .cases h
   .cases h
  .cases h
 .cases h
theorem Still.X9 {E:Env}{sz:Nat}{zero:List c8}{a:c8}(h:X9 E k sz zero st a=some st'):∃ d,Still k dst none d st st' :=by
 unfold x9.X9 at h;split at h
 .rename_i id z lo len
  split at h
  .split at h
   .rename_i H' hw
    cases h;refine ⟨[]++[.obj id],Still.trans (Still.heap (fun id' hd _=> ?_) (by rw [Wh hw];omega)) (Still.put _)⟩
    grind [tW,T0.refl,Touch.K0]
   .cases h
  .cases h
 .cases h
  exact ⟨_,Still.put _⟩
 .cases h
theorem Still.U3 {E:Env}{kk:KK}{m key v:c8}(h:U3 E k kk st m key v=some st'):∃ d,Still k dst none d st st' :=by
 unfold x9.U3 at h;split at h
 .rename_i id kd _
  split at h
  .split at h
   .split at h
    .split at h
     .cases h
      refine ⟨[]++[.obj id],Still.trans (Still.heap (fun id' hd _=> ?_) (by simp)) (Still.put _)⟩;rw [D3]
      .exact T0.refl _
      .rintro rfl
       simp [Touch.K0] at hd
     .cases h
    .cases h
   .cases h
  .cases h
 .cases h
theorem Still.E6 {E:Env}{j9:List p6}{op:z6}(hk:F1 st op=false)(hn:y9.isSome=op.z7)(h:E6 E j9 y9 k st op=some st'):∃ d,Still k dst y9 d st st' :=by
 cases op<;>simp only [x9.E6] at h<;>try (cases h;done)
 all_goals (simp only [z6.z7] at hn)
 case alloc zero =>
  obtain ⟨i,rfl⟩:=Option.isSome_iff_exists.1 hn;cases h;exact ⟨_,(Still.newObj _).trans (Still.put _)⟩
 case box x =>
  obtain ⟨i,rfl⟩:=Option.isSome_iff_exists.1 hn;split at h
  .cases h;exact ⟨_,(Still.newObj _).trans (Still.put _)⟩
  .cases h
 case mX x =>
  cases h;exact ⟨_,Still.put _⟩
 case own sz x =>
  split at h
  .rename_i ht
   obtain ⟨d,hd⟩:=Still.O8 (k:=k) (dst:=dst) (y9:=y9) ht;cases h;exact ⟨_,hd.trans (Still.put _)⟩
  .cases h
 case makeMap =>
  obtain ⟨i,rfl⟩:=Option.isSome_iff_exists.1 hn;cases h;exact ⟨_,(Still.newObj _).trans (Still.put _)⟩
 case A2 sz len zero parts ob =>
  cases ob
  .cases h
  .obtain ⟨i,rfl⟩:=Option.isSome_iff_exists.1 hn
   simp only at h;split at h
   .split at h
    .cases h;exact ⟨_,(Still.newObj _).trans (Still.put _)⟩
    .cases h
   .cases h
 case store n a x =>
  have:y9=none:=by simpa using hn
  subst this;exact Still.Q8 h
 case append sz bytes ob x y =>
  split at h
  .rename_i hx
   simp [F1,hx] at hk
  .cases ob with
   |true =>
    obtain ⟨i,rfl⟩:=Option.isSome_iff_exists.1 hn;unfold x9.M8 at h;simp only [if_true] at h;split at h
    .split at h
     .split at h
      .cases h;exact ⟨_,Still.put _⟩
      .cases h;exact ⟨_,(Still.newObj _).trans (Still.put _)⟩
     .cases h
    .cases h
   |false =>
    have:y9=none:=by simpa using hn
    subst this;unfold x9.M8 at h;simp only [j3,if_false] at h;split at h
    .split at h
     .split at h
      .rename_i ht
       split at h
       .cases h
        obtain ⟨d,hd⟩:=Still.O8 (k:=k) (dst:=dst) (y9:=none) ht;exact ⟨_,hd.trans (Still.put _)⟩
       .cases h
      .cases h
     .cases h
    .cases h
 case clear sz zero x =>
  have:y9=none:=by simpa using hn
  subst this;exact Still.X9 h
 case call f xs =>
  have:y9=none:=by simpa using hn
  subst this;exact Still.C6 h
 case an x xs =>
  have:y9=none:=by simpa using hn
  subst this;split at h
  .exact Still.C6 h
  .cases h
 case dg =>
  have:y9=none:=by simpa using hn
  subst this;exact Still.U3 h
 case defer x =>
  split at h
  .split at h
   .cases h;exact ⟨_,Still.put _⟩
   .cases h
  .cases h
theorem Still.E5 {bk2 :Option Nat}(h:r9 bk2 st k dst=some st'):∃ d,Still k dst y9 d st st' :=by
 rcases R9 h with ⟨_,rfl⟩|⟨s,o7,rfl,_,rfl,QU⟩
 .exact ⟨_,Still.refl _ _ _ _⟩
 .have hx:=Still.E1 (k:=k) (dst:=some s) (y9:=y9) (st:=st) (.loc k)
  have key:∀ d,o7=d++st.o7->Still k (some s) y9 d st { (x9.E1 st (.loc k)).2 with T:=st.T.set s (x9.E1 st (.loc k)).1,o7 }:=by
   intro d hd;refine ⟨hx.L,hx.Gb,hx.Gt,fun s' hs=> ?_,hd,fun id _ hn=>hx.H id rfl hn,hx.Mj,hx.iP,by simp⟩;simp_all
  rcases QU with rfl|⟨rfl,_⟩
  .exact ⟨[.slot s],key _ rfl⟩
  .exact ⟨[],key _ rfl⟩
theorem Still.u9 {E:Env}{j9:List p6}{i:p6}{rs:List Nat}(hk:F1 st i.op=false)(hn:y9.isSome=i.op.z7)(h:u9 E j9 y9 k i st=some (st',rs)):∃ d,Still k i.dst y9 d st st' :=by
 unfold x9.u9 at h;split at h
 .split at h
  .rename_i st1 rs1 hW
   split at h
   .rename_i st2 hts
    cases h;have h1:∃ d,Still k i.dst y9 d st st1:=by
     unfold x9.D6 at hW;split at hW
     .split at hW
      .rename_i he
       cases hW;exact Still.E6 hk hn he
      .cases hW
     .split at hW
      .cases hW
       exact ⟨_,(Still.E1 _).trans (Still.put _)⟩
      .split at hW
       .cases hW
        exact ⟨_,Still.put _⟩
       .cases hW
    obtain ⟨d1,h1⟩:=h1;obtain ⟨d2,h2⟩:=Still.E5 (y9:=y9) hts;exact ⟨_,h1.trans h2⟩
   .cases h
  .cases h
 .split at h
  .rename_i hts
   cases h;obtain ⟨d2,h2⟩:=Still.E5 (y9:=y9) hts;exact ⟨_,(Still.put _).trans h2⟩
  .cases h
 .cases h
theorem Still.I5 (h:Still k dst y9 d st st'){x:y6}(hl:k ∉ x.dV)(ht:∀ s,s ∈ x.slots->dst≠some s):I5 st'.T st'.L x=I5 st.T st.L x:=by
 cases x with
 |loc j =>
  exact h.L j (fun e=>hl (by simp [y6.dV,e]))
 |slot s =>
  exact h.T s (ht s (by simp [y6.slots]))
 |const v=>rfl
def Still.wanted (h:Still k dst y9 d st st'){g:Option (Nat×Bool)}(hg:∀ j b,g=some (j,b)->j≠k):u5 st'.L g=u5 st.L g:=by
 cases g with
 |none=>rfl
 |some p =>
  obtain ⟨j,want⟩:=p;have hj:=hg j want rfl;have h1:=h.Gb j hj;have h2:=h.Gt j hj
  grind [u5,absurd]
theorem Still.Fs {E:Env}{i:p6}{rs:List Nat}(h:Still k dst y9 d st st'):(cK E i y9 st st' rs).Fs=fD y9++d:=by
 simp only [cK,h.o7];simp
def Still.reads {E:Env}{i:p6}{rs:List Nat}(h:Still k dst y9 d st st'){ids:List Nat}(hh:G9 (cK E i y9 st st' rs).Fs ids=false){id:Nat}(hid:id ∈ ids):T0 st'.H[id]? st.H[id]? :=by
 rw [h.Fs] at hh;unfold G9 at hh;have hno:∀ t,t ∈ (fD y9++d:List Touch)->t.K0 id=false:=by
  grind
 refine h.H id ?_ ?_
 all_goals grind [List.any_eq_false,fD,Touch.K0]
end
end Go.x9
namespace Go.x9
variable [D9]
section
variable {E:Env} {j9:List p6} {y9:Option Nat} {k q:Nat} {v:c8} {st st1 st2 st' :G4}
theorem pY {x:y6}(h:q ∉ x.dV):I5 (put st q v).T (put st q v).L x=I5 st.T st.L x:=by
 simp_all [I5,put,y6.dV]<;>grind
theorem put_comm (h:q≠k)(u:c8):put (put st q v) k u=put (put st k u) q v:=by
 simp_all [put,List.set_comm]
theorem mB {l:List c8}{q j:Nat}(h:q≠j)(v:c8):(l.set q v)[j]? =l[j]? :=D3 h
def BG {x:y6}(h:q ∉ x.dV):E1 (put st q v) x=((E1 st x).1,put (E1 st x).2 q v):=by
 cases x with
 |loc j =>
  grind [y6.dV,E1,put,mB,I5,List.getD,List.set_comm]
 |slot s=>rfl
 |const c=>rfl
theorem gn (o:u0):L7 (put st q v) y9 o=put (L7 st y9 o) q v:=by cases y9<;>rfl
theorem kN:newId (put st q v) y9=newId st y9:=rfl
def Dz {x:y6}(h:q ∉ x.dV):aV (put st q v) x=aV st x:=by
 simp_all [y6.dV,aV,put]<;>grind
def JG {l:F2}{sz:Nat}{op:z6}(h:q ∉ op.R7.flatMap y6.dV):W8 l (put st q v) sz op=(W8 l st sz op).map fun p=>(p.1,p.2.1,put p.2.2 q v):=by
 unfold W8;split
 .have e1:(put st q v).o7=st.o7:=rfl
  have e2:(put st q v).T=st.T:=rfl;simp [e1,e2];split
  .rfl
  .split
   .split
    all_goals rfl
   .rfl
 .rename_i x
  have hx:q ∉ x.dV:=fun e=>h (by simp [z6.R7,e])
  rw [Dz hx];have e1:(put st q v).o7=st.o7:=rfl;have e2:(put st q v).H=st.H:=rfl;split
  .simp [e1,e2]
   split
   .rfl
   .split
    .split
     .split
      all_goals rfl
     .rfl
    .rfl
  .rfl
 .rfl
def xq {l:F2}{sz:Nat}{x:y6}(h:q ∉ x.dV)(h2:∀ j a,x= .loc j->j9[j]? =some a->q ∉ a.op.R7.flatMap y6.dV) :
  O8 l j9 (put st q v) sz x=(O8 l j9 st sz x).map fun p=>(p.1,p.2.1,put p.2.2 q v):=by
 cases x with
 |const c =>
  unfold O8;cases c<;>first|rfl|skip
  simp_all
 |slot s=>rfl
 |loc j =>
  have hj:q≠j:=fun e=>h (by simp [y6.dV,e])
  have e:(put st q v).L[j]? =st.L[j]? :=by simp_all [put,mB]
  simp [O8];rw [e];cases hl:st.L[j]? with
  |none=>rfl
  |some b =>
   cases b with
   |own z len cells =>
    grind [put,List.set_comm]
   |d x =>
    cases x with
    |slice n c =>
     cases ha:j9[j]? with
     |none=>rfl
     |some a=>simp_all [JG]
    |_=>rfl
   |_=>rfl
def wu (h:q≠k){f:FuncId}{args:List c8}:C6 E k f args (put st q v)=(C6 E k f args st).map fun s=>put s q v:=by
 have e1:(put st q v).H=st.H:=rfl;have e2:(put st q v).o7=st.o7:=rfl;have key:∀ (H:o9) (t:List Touch) (u:c8),put { put st q v with H:=H,o7:=t } k u=put (put { st with H:=H,o7:=t } k u) q v:=by
  simp_all [put,List.set_comm]
 unfold C6;simp [e1];split
 .split
  all_goals simp_all
 .split
  .split
   .split
    all_goals simp_all
   .split
    all_goals simp_all
   .split
    all_goals simp_all
  .rfl
def Gn (h:q≠k){n:Nat}{a:c8}{x:y6}(hx:q ∉ x.dV):Q8 E k n (put st q v) a x=(Q8 E k n st a x).map fun s=>put s q v:=by
 unfold Q8;simp [BG hx];cases a with
 |ptr id off =>
  simp only;split
  .split
   .have e:(put (E1 st x).2 q v).H=(E1 st x).2.H:=rfl
    split
    all_goals simp_all [put,L4,List.set_comm]
   .rfl
  .rfl
 |_=>rfl
def EW (h:q≠k){sz:Nat}{zero:List c8}{a:c8}:X9 E k sz zero (put st q v) a=(X9 E k sz zero st a).map fun s=>put s q v:=by
 have e:(put st q v).H=st.H:=rfl;unfold X9;split
 .split
  .split
   all_goals grind [put,List.set_comm]
  .rfl
 all_goals grind [put_comm]
def Cs (h:q≠k){kk:KK}{m key x:c8}:U3 E k kk (put st q v) m key x=(U3 E k kk st m key x).map fun s=>put s q v:=by
 have e:(put st q v).H=st.H:=rfl;unfold U3;split
 .rw [e]
  split
  .split
   .split
    .split
     .simp only [put,L4]
      congr 2
      exact List.set_comm _ _ h
     .rfl
    .rfl
   .rfl
  .rfl
 .rfl
theorem Mr {l:F2}{op:z6}(h:q ∉ op.R7.flatMap y6.dV):oo l (put st q v) op=oo l st op:=by
 unfold oo;split
 .rfl
 .rename_i x
  have hx:q ∉ x.dV:=fun e=>h (by simp [z6.R7,e])
  rw [Dz hx];rfl
 .rfl
def QV {l:F2}{x:y6}(h:q ∉ x.dV)(h2:∀ j a,x= .loc j->j9[j]? =some a->q ∉ a.op.R7.flatMap y6.dV):isNil l j9 (put st q v) x=isNil l j9 st x:=by
 cases x with
 |const c=>cases c<;>rfl
 |slot s=>rfl
 |loc j =>
  grind [y6.dV,put,mB,isNil,Mr]
def Ci (h:q≠k){sz bytes:Nat}{ob:Bool}{x:y6}{y:c8}(hx:q ∉ x.dV)(h2:∀ j a,x= .loc j->j9[j]? =some a->q ∉ a.op.R7.flatMap y6.dV) :
  M8 E j9 y9 k sz bytes ob (put st q v) x y=(M8 E j9 y9 k sz bytes ob st x y).map fun s=>put s q v:=by
 have e:(put st q v).H=st.H:=rfl;unfold M8;rw [e,QV hx h2,xq hx h2];split
 .split
  .grind [put_comm,gn,kN]
  .split
   all_goals grind [O8,put_comm]
 .rfl
theorem Q1 {i:p6}{x:y6}(hx:x ∈ i.op.R7)(h:q ∉ eC j9 i):q ∉ x.dV:=by
 simp_all [eC,E8,E0,List.mem_flatMap]
def cT {i:p6}{g:Nat}{b:Bool}(hg:i.guard=some (g,b))(h:q ∉ eC j9 i):g≠q:=by
 grind [eC]
def Ct {i:p6}{sz bytes:Nat}{ob:Bool}{x y:y6}(hop:i.op= .append sz bytes ob x y)(h:q ∉ eC j9 i):∀ j a,x= .loc j->j9[j]? =some a->q ∉ a.op.R7.flatMap y6.dV:=by
 grind [eC,E7]
def Am {i:p6}{sz:Nat}{x:y6}(hop:i.op= .own sz x)(h:q ∉ eC j9 i):∀ j a,x= .loc j->j9[j]? =some a->q ∉ a.op.R7.flatMap y6.dV:=by
 rintro j a rfl ha hq;apply h;unfold eC;rw [hop];simp only [ha];exact E7 _ hq
def GI (st:G4)(op:z6)(v:c8):Prop:=∀ sz Sw ob x y id z lo n,op= .append sz Sw ob x y->I5 st.T st.L x= .A8 id z lo n->v.kill id=v
def GI.of {op:z6}(h:F1 st op=false):GI st op v:=fun _ _ _ _ _ _ _ _ _ e hx=>by subst e;simp [F1,hx] at h
theorem Dk (id:Nat):∀ (l:List c8) (j:Nat) (x:c8),H9 id (l.set j x)=(H9 id l).set j (x.kill id)
 |[],_,_=>rfl
 |a::l,0,x=>rfl
 |a::l,j+1,x=>by simp only [q7,H9,Dk id l j x]
def Ch (h:q≠k){sz bytes id lo len:Nat}{y:c8}(hv:v.kill id=v):S6 E k sz bytes (put st q v) id lo len y=(S6 E k sz bytes st id lo len y).map fun s=>put s q v:=by
 unfold S6;split
 .have e1:(put st q v).H=st.H:=rfl
  rw [e1];split
  .split
   .simp only [L4,Option.some.injEq]
    rw [<- put_comm h];simp only [put,Dk,hv]
   .rfl
  .rfl
 .rfl
def Qs {i:p6}(h:q≠k)(hu:q ∉ eC j9 i)(hk:GI st i.op v):E6 E j9 y9 k (put st q v) i.op=(E6 E j9 y9 k st i.op).map fun s=>put s q v:=by
 have hρ:∀ x,x ∈ i.op.R7->I5 (put st q v).T (put st q v).L x=I5 st.T st.L x:=fun x hx=>pY (Q1 hx hu)
 cases hop:i.op<;>simp only [hop,z6.R7] at hρ<;>simp only [E6]<;>try rfl
 case alloc zero=>simp only [gn,kN,put_comm h,L4]
 case box x =>
  rw [hρ x (by simp)];split
  .simp only [gn,kN,put_comm h,L4]
  .rfl
 case makeMap=>simp only [gn,kN,put_comm h,L4]
 case mX x=>simp only [put_comm h,L4]
 case A2 sz len zero parts ob =>
  cases ob
  .rfl
  .have e:(parts.map fun x=>(x.1,x.2.1,I5 (put st q v).T (put st q v).L x.2.2))=(parts.map fun x=>(x.1,x.2.1,I5 st.T st.L x.2.2)):=jE hρ
   simp only [e];cases bA zero (parts.map fun x=>(x.1,x.2.1,I5 st.T st.L x.2.2)) with
   |none=>rfl
   |some cs =>
    simp only;split
    .simp only [gn,kN,put_comm h,L4]
    .rfl
 case store n a x =>
  rw [hρ a (by simp)];exact Gn h (Q1 (by simp [hop,z6.R7]) hu)
 case append sz bytes ob x y =>
  rw [hρ x (by simp),hρ y (by simp)];split
  .rename_i hx
   split
   .exact Ch h (hk _ _ _ _ _ _ _ _ _ hop hx)
   .rfl
  .exact Ci h (Q1 (by simp [hop,z6.R7]) hu) (Ct hop hu)
 case own sz x =>
  rw [xq (Q1 (by simp [hop,z6.R7]) hu) (Am hop hu)];cases O8 E.lim j9 st sz x with
  |none=>rfl
  |some p =>
   obtain ⟨len,cells,s1⟩:=p;simp only [L4,put_comm h]
 case clear sz zero x =>
  rw [hρ x (by simp)];exact EW h
 case call f xs =>
  rw [Z5 hρ];exact wu h
 case an x xs =>
  rw [hρ x (by simp),Z5 (l:=xs) fun y hy=>hρ y (by simp [hy])];split
  .exact wu h
  .rfl
 case dg kk m key x =>
  rw [hρ m (by simp),hρ key (by simp),hρ x (by simp)];exact Cs h
 case defer x =>
  rw [hρ x (by simp)];split
  .split
   .simp only [put_comm h,L4]
   .rfl
  .rfl
def Bo (h:q≠k){dst:Option Nat}:r9 y9 (put st q v) k dst=(r9 y9 st k dst).map fun s=>put s q v:=by
 have hx:q ∉ (y6.loc k).dV:=by grind [y6.dV]
 have e1:(put st q v).T=st.T:=rfl;have e2:(put st q v).o7=st.o7:=rfl;cases y9<;>cases dst<;>simp [r9,E5,V8,BG hx,e1]<;>first|rfl|(split<;>rfl)
def wanted_put {g:Option (Nat×Bool)}(h:∀ j b,g=some (j,b)->j≠q):u5 (put st q v).L g=u5 st.L g:=by
 cases g with
 |none=>rfl
 |some p =>
  grind [u5,put,mB]
def iq {i:p6}(h:q≠k)(hu:q ∉ eC j9 i)(hk:GI st i.op v):u9 E j9 y9 k i (put st q v)=(u9 E j9 y9 k i st).map fun p=>(put p.1 q v,p.2):=by
 have hρ:∀ x,x ∈ i.op.R7->I5 (put st q v).T (put st q v).L x=I5 st.T st.L x:=fun x hx=>pY (Q1 hx hu)
 have hW:D6 E j9 y9 k i.op (put st q v)=(D6 E j9 y9 k i.op st).map fun p=>(put p.1 q v,p.2):=by
  unfold D6;split
  .rw [Qs h hu hk]
   cases E6 E j9 y9 k st i.op<;>rfl
  .cases hop:i.op with
   |Q3 x =>
    simp only [BG (Q1 (x:=x) (by simp [hop,z6.R7]) hu),put_comm h,L4]
   |_ =>
    simp only;rw [<- hop,mz hρ];have e:(put st q v).H=st.H:=rfl;rw [e];cases hp:n9 (I5 st.T st.L) st.H i.op with
    |none=>rfl
    |some p=>simp only [put_comm h,L4]
 unfold u9;rw [wanted_put (fun j b hg=>cT hg hu),hW];split
 .cases hp:D6 E j9 y9 k i.op st with
  |none=>rfl
  |some p =>
   obtain ⟨s1,rs⟩:=p;simp only [L4];rw [Bo h];cases r9 y9 s1 k i.dst<;>rfl
 .rw [put_comm h,Bo h]
  cases r9 y9 (put st k (.tuple [])) k i.dst<;>rfl
 .rfl
def aa (st:G4)(i:Nat)(o:u0):G4:={ st with H:=st.H.set i o }
theorem oK {H:o9}{n i:Nat}{o:u0}(h:n<=i):(H.set i o).take n=H.take n:=List.take_set_of_le h
theorem Dl (H:o9)(s:Nat):∀ (j m:Nat),m<=E9 H s j m
 |0,m=>by simp [E9]
 |j+1,m=>by
  unfold E9;split
  .omega
  .simp only
   split
   .omega
   .exact B6 (Nat.le_max_left _ _) (Dl H s j _)
theorem iF (H:o9)(s i:Nat)(o:u0):∀ (j n:Nat),E9 H s j n<=i->E9 (H.set i o) s j n=E9 H s j n
 |0,n,_=>rfl
 |j+1,n,h=>by
  have hn:n<=i:=B6 (Dl H s (j+1) n) h;unfold E9 at h ⊢;split
  .rfl
  .rename_i eV
   rw [if_neg eV] at h;simp [oK hn] at h ⊢;split
   .rfl
   .rename_i hm
    rw [if_neg hm] at h;exact iF H s i o j _ h
def wB (H:o9)(s i:Nat)(o:u0)(j n:Nat)(h:E9 (H.set i o) s j n<=i):E9 H s j n=E9 (H.set i o) s j n:=by
 rcases y4 i H.length with hi|hi
 .have:=iF (H.set i o) s i H[i] j n h
  simp_all
 .rw [List.set_eq_of_length_le hi]
def Gp {H:o9}{s n i:Nat}{o:u0}(h:n<=i):C9 (H.set i o) s n=C9 H s n:=by
 grind [C9,oK]
def Ht {H:o9}{n i:Nat}{o:u0}(h:n<=i):(H.set i o).drop n=(H.drop n).set (i - n) o:=by
 apply List.ext_getElem?
 grind
theorem yT {A H:o9}{n i:Nat}{o:u0}(ha:A.length=n)(h:n<=i):A++(H.set i o).drop n=(A++H.drop n).set i o:=by
 simp_all [Ht,List.set_append,if_neg]
theorem sB {f:FuncId}{args:List c8}{i:Nat}{o:u0}(hi:i<st.H.length)(hs:(if E.prom f then st.H.length else E9 st.H E.lim.strict 8 (A4 args))<=i) :
  C6 E k f args (aa st i o)=(C6 E k f args st).map fun s=>aa s i o:=by
 have e1:(aa st i o).H=st.H.set i o:=rfl;have e2:(aa st i o).o7=st.o7:=rfl;unfold C6;simp [e1]
 by_cases hp:E.prom f=true
 .grind
 .rw [if_neg hp] at hs
  rw [if_neg hp,if_neg hp,iF _ _ _ _ _ _ hs];simp [oK hs,Gp hs,List.length_set];split
  .split
   .split
    all_goals simp_all [L4,put,aa,yT]
   .split
    .split
     all_goals rfl
    .rfl
   .split
    all_goals grind [put,aa,yT,B6]
  .rfl
theorem xu {dst:Option Nat}{i:Nat}{o:u0}:r9 y9 (aa st i o) k dst=(r9 y9 st k dst).map fun s=>aa s i o:=by
 have hx:E1 (aa st i o) (.loc k)=((E1 st (.loc k)).1,aa (E1 st (.loc k)).2 i o):=by
  grind [E1,aa]
 have e1:(aa st i o).T=st.T:=rfl;have e2:(aa st i o).o7=st.o7:=rfl;cases y9<;>cases dst<;>simp [r9,E5,V8,hx,e1]<;>first|rfl|(split<;>rfl)
def qY (i:p6):Bool:=match i.op with
 | .call .. =>true
 | .an .. =>true
 |_=>false
def MT {i:p6}{m:Nat}{o:u0}(hc:qY i=true)(hi:m<st.H.length)(hs:L0 E st i.op<=m):u9 E j9 y9 k i (aa st m o)=(u9 E j9 y9 k i st).map fun p=>(aa p.1 m o,p.2):=by
 have hW:D6 E j9 y9 k i.op (aa st m o)=(D6 E j9 y9 k i.op st).map fun p=>(aa p.1 m o,p.2):=by
  unfold qY at hc;unfold D6;have e:∀ x,I5 (aa st m o).T (aa st m o).L x=I5 st.T st.L x:=fun _=>rfl
  split at hc
  .rename_i f xs hop
   rw [hop] at hs ⊢;simp [z6.C8,E6];have:C6 E k f (xs.map (I5 (aa st m o).T (aa st m o).L)) (aa st m o)=(C6 E k f (xs.map (I5 st.T st.L)) st).map fun s=>aa s m o:=sB hi hs
   grind
  .rename_i x xs hop
   rw [hop] at hs ⊢;simp [z6.C8,E6];rw [e x];simp [L0] at hs;cases hx:I5 st.T st.L x with
   |func f first caps =>
    grind [C6,I5,aa,sB]
   |_=>rfl
  .cases hc
 unfold u9;have e3:u5 (aa st m o).L i.guard=u5 st.L i.guard:=rfl;rw [e3,hW];split
 .grind [D6,xu,r9]
 .have e4:put (aa st m o) k (.tuple [])=aa (put st k (.tuple [])) m o:=rfl
  grind [xu,r9,put]
 .rfl
def RB {i:p6}{m:Nat}{o:u0}(hs:L0 E (aa st m o) i.op<=m):L0 E st i.op=L0 E (aa st m o) i.op:=by
 have e:∀ x,I5 (aa st m o).T (aa st m o).L x=I5 st.T st.L x:=fun _=>rfl
 have e1:(aa st m o).H=st.H.set m o:=rfl;cases hop:i.op<;>rw [hop] at hs<;>simp [L0] at hs ⊢
 case call f xs =>
  by_cases hp:E.prom f=true
  .simp_all
  .rw [if_neg hp] at hs ⊢
   rw [if_neg hp];exact wB _ _ _ _ _ _ hs
 case an x xs =>
  simp [e x,e1] at hs ⊢;split at hs
  .rename_i f first caps hx
   by_cases hp:E.prom f=true
   .simp_all
   .rw [if_neg hp] at hs ⊢
    rw [if_neg hp];exact wB _ _ _ _ _ _ hs
  .rfl
def bw (s:G4)(dst:Option Nat)(u:c8):G4:=match dst with
 |none=>s
 |some t=>{ s with T:=s.T.set t u }
def MJ (s:G4)(dst:Option Nat)(u:c8):(bw s dst u).L=s.L:=by cases dst<;>rfl
def MI (s:G4)(dst:Option Nat)(u:c8):(bw s dst u).H=s.H:=by cases dst<;>rfl
def Vt (s:G4)(dst:Option Nat)(u:c8):(bw s dst u).o7=s.o7:=by cases dst<;>rfl
def DG (s:G4)(dst:Option Nat)(u:c8):(bw s dst u).T.length=s.T.length:=by cases dst<;>simp [bw]
theorem tE {s:G4}{dst:Option Nat}{u:c8}{x:y6}(h:∀ t,dst=some t->t ∉ x.slots):I5 (bw s dst u).T (bw s dst u).L x=I5 s.T s.L x:=by
 simp_all [I5,bw,y6.slots]<;>grind
def sC {f:FuncId}{args:List c8}{dst:Option Nat}{u:c8}:C6 E k f args (bw st dst u)=(C6 E k f args st).map fun s=>bw s dst u:=by
 cases dst with
 |none=>grind [bw,C6]
 |some t =>
  unfold C6;have e1:(bw st (some t) u).H=st.H:=rfl;have e2:(bw st (some t) u).o7=st.o7:=rfl;simp [e1];split
  .split
   .split<;>rfl
   .rfl
  .split
   .split
    .split
     .split<;>rfl
     .rfl
    .split
     .split<;>rfl
     .rfl
    .split
     .split<;>rfl
     .rfl
   .rfl
def xw {dst dst' :Option Nat}{u:c8}(h:∀ s,dst=some s->dst' ≠some s):r9 y9 (bw st dst' u) k dst=(r9 y9 st k dst).map fun s=>bw s dst' u:=by
 cases dst' with
 |none=>simp_all [bw,r9]
 |some t =>
  have hx:E1 (bw st (some t) u) (.loc k)=((E1 st (.loc k)).1,bw (E1 st (.loc k)).2 (some t) u):=by
   simp [E1,bw];cases st.L[k]? with
   |none=>rfl
   |some a=>cases a<;>rfl
  have e2:(bw st (some t) u).o7=st.o7:=rfl;have e3:(bw st (some t) u).T.length=st.T.length:=DG _ _ _;cases dst with
  |none=>cases y9<;>rfl
  |some s =>
   have hne:t≠s:=fun e=>h s rfl (by rw [e])
   have e4:∀ x,(bw st (some t) u).T.set s x=(st.T.set s x).set t u:=fun x=>List.set_comm _ _ hne
   cases y9<;>simp [r9,E5,V8,hx,e2,e3,e4]<;>split<;>rfl
def Ck (i:p6):Bool:= !i.op.C8&&(match i.op with
 | .Q3 _=>false
 |_=>true)
def Bf {op:z6}(h:op.C8=false)(hm:∀ y,op≠ .Q3 y):D6 E j9 y9 k op st=(n9 (I5 st.T st.L) st.H op).map fun p=>(put st k p.1,p.2):=by
 unfold D6;rw [h];cases op<;>first
  |exact (hm _ rfl).elim
  |(simp only [j3,if_false]
    generalize n9 _ _ _=r;cases r<;>rfl)
def Nt {i:p6}(h:Ck i=true):i.op.C8=false/\∀ y,i.op≠ .Q3 y:=by
 simp only [Ck,c7,n5] at h;refine ⟨h.1,fun y e=> ?_⟩;rw [e] at h;cases h.2
def kB {i:p6}(h:Ck i=true)(st:G4):F1 st i.op=false:=by
 have h1:=(Nt h).1;cases hop:i.op<;>rw [hop] at h1<;>first|rfl|(cases h1)
def Be {i:p6}{dst:Option Nat}{u:c8}(hc:qY i=true\/Ck i=true)(hu:∀ t,dst=some t->t ∉ fc i)(hd:∀ s,i.dst=some s->dst≠some s) :
  u9 E j9 y9 k i (bw st dst u)=(u9 E j9 y9 k i st).map fun p=>(bw p.1 dst u,p.2):=by
 have hρ:∀ x,x ∈ i.op.R7->I5 (bw st dst u).T (bw st dst u).L x=I5 st.T st.L x:=by
  intro x hx;refine tE fun t ht hs=>hu t ht ?_
  unfold fc;exact List.mem_flatMap.2 ⟨x,hx,hs⟩
 have hW:D6 E j9 y9 k i.op (bw st dst u)=(D6 E j9 y9 k i.op st).map fun p=>(bw p.1 dst u,p.2):=by
  rcases B3 (Ck i) with hd1|hd1
  .obtain ⟨h1,h2⟩:=Nt hd1
   rw [Bf h1 h2,Bf h1 h2,mz hρ,MI];have e4:∀ v,put (bw st dst u) k v=bw (put st k v) dst u:=fun v=>by cases dst<;>rfl
   cases n9 (I5 st.T st.L) st.H i.op with
   |none=>rfl
   |some p=>simp only [L4,e4]
  replace hc:qY i=true:=hc.resolve_right (by rw [hd1];simp)
  unfold qY at hc;unfold D6;split at hc
  .rename_i f xs hop
   rw [hop] at hρ ⊢;simp only [z6.C8,if_true,E6];rw [Z5 (l:=xs) fun y hy=>hρ y (by simp [z6.R7,hy]),sC];cases C6 E k f (xs.map (I5 st.T st.L)) st<;>rfl
  .rename_i x xs hop
   rw [hop] at hρ ⊢;simp only [z6.C8,if_true,E6];rw [hρ x (by simp [z6.R7]),Z5 (l:=xs) fun y hy=>hρ y (by simp [z6.R7,hy])];cases hx:I5 st.T st.L x with
   |func f first caps =>
    simp only;rw [sC];cases C6 E k f (first++xs.map (I5 st.T st.L)++caps) st<;>rfl
   |_=>rfl
  .cases hc
 unfold u9;rw [MJ,hW];split
 .cases hp:D6 E j9 y9 k i.op st with
  |none=>rfl
  |some p =>
   obtain ⟨s1,rs⟩:=p;simp only [L4];rw [xw hd];cases r9 y9 s1 k i.dst<;>rfl
 .have e4:put (bw st dst u) k (.tuple [])=bw (put st k (.tuple [])) dst u:=by cases dst<;>rfl
  rw [e4,xw hd];cases r9 y9 (put st k (.tuple [])) k i.dst<;>rfl
 .rfl
end
end Go.x9
namespace Go.x9
variable [D9]
def zq (i:p6):Bool:= !i.op.C8&&i.dst.isNone&&(match i.op with
 | .Q3 (.loc _)=>false
 |_=>true)
def qj (i:p6):Bool:=match i.op with
 | .mX _=>true
 | .alloc _=>true
 | .box _=>true
 | .makeMap=>true
 | .A2 _ _ _ _ b=>b
 |_=>false
section
variable {E:Env} {j9:List p6} {y9:Option Nat} {k q:Nat} {st st1 st2 st' :G4}
def fq {i:p6}(h:zq i=true)(st:G4):F1 st i.op=false:=by
 simp_all [zq,z6.C8,F1]<;>grind
def dy {i:p6}(h:zq i=true)(st:G4):L0 E st i.op=0:=by
 simp_all [zq,z6.C8,L0]<;>grind
def aY {i:p6}(h:qj i=true)(st:G4):F1 st i.op=false:=by
 grind [qj,F1]
def dx {i:p6}(h:qj i=true)(st:G4):L0 E st i.op=0:=by
 grind [qj,L0]
def fo {i:p6}(h:qj i=true):i.op.z7=true:=by
 grind [qj,z6.z7]
def hU {i:p6}(h:qY i=true)(st:G4):F1 st i.op=false:=by
 grind [qY,F1]
theorem jH {s:G4}{dst:Option Nat}(h:dst.isNone=true):r9 y9 s k dst=some s:=by
 cases dst with
 |none=>cases y9<;>rfl
 |some _=>simp at h
def EK {i:p6}(hP:zq i=true){rs:List Nat}(h:u9 E j9 y9 k i st=some (st',rs)) :
  ∃ v,st' =put st k v/\∀ s2:G4,(∀ x,x ∈ i.op.R7->I5 s2.T s2.L x=I5 st.T st.L x)->u5 s2.L i.guard=u5 st.L i.guard->(∀ id,id ∈ rs->T0 s2.H[id]? st.H[id]?) ->
   u9 E j9 y9 k i s2=some (put s2 k v,rs):=by
 simp only [zq,c7,n5] at hP;obtain ⟨⟨h1,h2⟩,h3⟩:=hP;unfold u9 at h;split at h
 .rename_i hw
  split at h
  .rename_i s1 rs1 hW
   rw [jH h2] at h;cases h;unfold D6 at hW;rw [h1] at hW;simp [j3,if_false] at hW;have other:∀ {v:c8},(∀ x,i.op≠ .Q3 x)->n9 (I5 st.T st.L) st.H i.op=some (v,rs)->st' =put st k v->∃ v,st' =put st k v/\∀ s2:G4,(∀ x,x ∈ i.op.R7->I5 s2.T s2.L x=I5 st.T st.L x)->u5 s2.L i.guard=u5 st.L i.guard->(∀ id,id ∈ rs->T0 s2.H[id]? st.H[id]?) ->
     u9 E j9 y9 k i s2=some (put s2 k v,rs):=by
    intro v hm hp e;refine ⟨v,e,fun s2 hρ hwd hr=> ?_⟩;unfold u9;rw [hwd,hw];have:D6 E j9 y9 k i.op s2=some (put s2 k v,rs):=by
     unfold D6;have hp2:n9 (I5 s2.T s2.L) s2.H i.op=some (v,rs):=Jc (by simp_all [mz]) hr;simp_all
    simp_all [jH]
   split at hW
   .rename_i x hop
    cases hW;refine ⟨(E1 st x).1,?_,fun s2 hρ hwd hr=> ?_⟩
    .cases x with
     |loc j=>simp_all
     |slot s=>rfl
     |const c=>rfl
    .unfold u9
     have e1:E1 s2 x=((E1 st x).1,s2):=by
      simp_all [z6.R7,E1]<;>grind
     simp_all [D6,z6.C8,j3,if_false,jH]
   grind
  .cases h
 all_goals grind [jH,u9]
def nc (s:G4)(n:Nat):Option u0->G4
 |some o=>aa s n o
 |none=>s
inductive NF (k n:Nat) (dst:Option Nat):(G4->G4)->Prop where
 |mk (o:Option u0) (v u:c8):NF k n dst (fun s=>bw (put (nc s n o) k v) dst u)
inductive NF0 (k:Nat) (dst:Option Nat):(G4->G4)->Prop where
 |mk (v u:c8):NF0 k dst (fun s=>bw (put s k v) dst u)
structure Alike (i:p6)(st s2:G4):Prop where
 T:s2.T.length=st.T.length
 L:s2.L.length=st.L.length
 o7:∀ s,i.dst=some s->s2.o7.any (Touch.S4 s)=true
def JH {s:G4}{v:c8}{dst:Option Nat}(hv:∀ z n c,v≠ .own z n c){s' :G4}(h:V8 (put s k v) k dst=some s') :
  ∃ u,s' =bw (put s k v) dst u/\∀ s2:G4,s2.T.length=s.T.length->s2.L.length=s.L.length->(∀ t,dst=some t->s2.o7.any (Touch.S4 t)=true)->V8 (put s2 k v) k dst=some (bw (put s2 k v) dst u):=by
 cases dst with
 |none=>cases h;exact ⟨.any,rfl,fun s2 _ _ _=>rfl⟩
 |some t =>
  have hx:∀ s:G4,E1 (put s k v) (.loc k)=((if k<s.L.length then v.Qq else .any),put s k v):=by
   simp_all [E1,put,I5,List.getD,c8.J2,c8.Qq,absurd]<;>grind
  simp only [V8,hx] at h;split at h
  .rename_i hc
   simp [c7,decide_eq_true_eq] at hc;cases h;refine ⟨_,rfl,fun s2 h1 h2 h3=> ?_⟩;simp only [V8,hx];have:(decide (t<(put s2 k v).T.length)&&(put s2 k v).o7.any (Touch.S4 t))=true:=by
    simp_all [c7,decide_eq_true_eq,put]
   rw [if_pos this,h2];rfl
  .cases h
def FW (s:G4)(n:Nat)(o:Option u0):(nc s n o).T=s.T:=by cases o<;>rfl
def AP (s:G4)(n:Nat)(o:Option u0):(nc s n o).L=s.L:=by cases o<;>rfl
def Jr (s:G4)(n:Nat)(o:Option u0):(nc s n o).o7=s.o7:=by cases o<;>rfl
def EJ {i:p6}{n:Nat}(hN:qj i=true){rs:List Nat}(h:u9 E j9 (some n) k i st=some (st',rs)) :
  rs=[]/\∃ f,NF k n i.dst f/\(i.op.makes=false->NF0 k i.dst f)/\st' =f st/\∀ s2:G4,(∀ x,x ∈ i.op.R7->I5 s2.T s2.L x=I5 st.T st.L x)->u5 s2.L i.guard=u5 st.L i.guard->Alike i st s2->u9 E j9 (some n) k i s2=some (f s2,[]):=by
 unfold qj at hN;have h3:=hN;have bF6:i.op.C8=true:=by
  grind [z6.C8]
 have slot:∀ (o:Option u0) (v:c8),(i.op.makes=false->o=none)->(∀ z n c,v≠ .own z n c)->(∀ s2:G4,(∀ x,x ∈ i.op.R7->I5 s2.T s2.L x=I5 st.T st.L x)->u5 s2.L i.guard=u5 st.L i.guard->u9 E j9 (some n) k i s2=(V8 (put (nc s2 n o) k v) k i.dst).map fun s=>(s,[])) ->
   rs=[]/\∃ f,NF k n i.dst f/\(i.op.makes=false->NF0 k i.dst f)/\st' =f st/\∀ s2:G4,(∀ x,x ∈ i.op.R7->I5 s2.T s2.L x=I5 st.T st.L x)->u5 s2.L i.guard=u5 st.L i.guard->Alike i st s2->u9 E j9 (some n) k i s2=some (f s2,[]):=by
  intro o v ho hv hs;rw [hs st (fun _ _=>rfl) rfl] at h;cases ht:V8 (put (nc st n o) k v) k i.dst with
  |none=>simp_all
  |some s' =>
   rw [ht] at h;obtain ⟨rfl,rfl⟩:=h;obtain ⟨u,h4,h5⟩:=JH hv ht;refine ⟨rfl,_,NF.mk o v u,fun hm=>by rw [ho hm];exact NF0.mk v u,h4,fun s2 hρ hw ha=> ?_⟩;rw [hs s2 hρ hw,h5 (nc s2 n o) (by rw [FW,FW];exact ha.T) (by rw [AP,AP];exact ha.L) (fun t ht=>by rw [Jr];exact ha.o7 t ht)];rfl
 obtain ⟨wd,hw⟩:∃ wd,u5 st.L i.guard=wd:=⟨_,rfl⟩;cases wd with
 |none=>simp_all [u9]
 |some b =>
  cases b with
  |false =>
   refine slot none (.tuple []) (fun _=>rfl) (by simp) fun s2 hρ hwd=> ?_
   unfold u9
   grind [r9,nc,V8,put]
  |true =>
   by_cases Xn:∃ x,i.op= .mX x
   .obtain ⟨x,hx⟩:=Xn
    refine slot none (.d x) (fun _=>rfl) (by simp) fun s2 hρ hwd=> ?_
    grind [u9,D6,z6.C8,E6,r9,nc,V8,put]
   have hmk:i.op.makes=true:=by
    cases hop:i.op<;>rw [hop] at h3<;>first|exact h3|simp_all|simp_all|rfl
   have key:∀ (o:u0) (v:c8),(∀ z n c,v≠ .own z n c)->(∀ s2:G4,(∀ x,x ∈ i.op.R7->I5 s2.T s2.L x=I5 st.T st.L x)->E6 E j9 (some n) k s2 i.op=some (put (aa s2 n o) k v)) ->
     rs=[]/\∃ f,NF k n i.dst f/\(i.op.makes=false->NF0 k i.dst f)/\st' =f st/\∀ s2:G4,(∀ x,x ∈ i.op.R7->I5 s2.T s2.L x=I5 st.T st.L x)->u5 s2.L i.guard=u5 st.L i.guard->Alike i st s2->u9 E j9 (some n) k i s2=some (f s2,[]):=by
    intro o v hv h5;refine slot (some o) v (fun h=>by simp_all) hv fun s2 hρ hwd=> ?_
    unfold u9
    grind [D6,put,aa,r9,nc,V8]
   obtain ⟨op,hop⟩:∃ op,i.op=op:=⟨_,rfl⟩;have he:∃ s1,E6 E j9 (some n) k st i.op=some s1:=by
    grind [u9,D6]
   obtain ⟨s1,he⟩:=he;have be3 :∀ x,op≠ .mX x:=fun x e=>Xn ⟨x,hop.trans e⟩
   cases op<;>(try (exact absurd rfl (be3 _)))<;>rw [hop] at h3<;>simp at h3<;>(try (cases h3;done))<;>rw [hop] at he<;>simp only [E6] at he
   .rename_i zero
    refine key (.cells zero) (.ptr n 0) (by simp) (fun s2 _=> ?_);rw [hop];rfl
   .rename_i x
    split at he
    .rename_i l hl
     refine key (.cells l) (.ptr n 0) (by simp) (fun s2 hρ=> ?_);rw [hop];simp only [E6];rw [hρ x (by simp [hop,z6.R7]),hl];rfl
    .cases he
   .rename_i sz len zero parts ob
    subst h3;simp only at he;split at he
    .rename_i cs hcs
     split at he
     .rename_i hl
      refine key (.cells cs) (.A8 n sz 0 len) (by simp) (fun s2 hρ=> ?_);rw [hop];simp only [E6];have e:(parts.map fun x=>(x.1,x.2.1,I5 s2.T s2.L x.2.2))=(parts.map fun x=>(x.1,x.2.1,I5 st.T st.L x.2.2)):=jE (fun x hx=>hρ x (by grind [z6.R7]));have uT :bA zero (parts.map fun x=>(x.1,x.2.1,I5 st.T st.L x.2.2))=some cs:=hcs;simp only [e,uT,if_pos hl];rfl
     .cases he
    .cases he
   .refine key (.map []) (.map n) (by simp) (fun s2 _=> ?_)
    rw [hop];rfl
end
end Go.x9
namespace Go.x9
variable [D9]
def XI (i:p6):Bool:=match i.op with
 | .mX _=>true
 |_=>false
def uK {i:p6}(h:XI i=true):qj i=true/\i.op.makes=false:=by
 unfold XI at h;unfold qj;cases hop:i.op<;>rw [hop] at h<;>first|exact ⟨rfl,rfl⟩|(cases h)
def FI (j9:List p6)(j:Nat)(a:p6)(i:Nat)(b:p6):Bool :=
 !(eC j9 b).contains j&& !(eC j9 a).contains i &&
 (match b.dst with|some s=> !(fc a).contains s&&a.dst != some s|none=>true)&&(match a.dst with|some s=> !(fc b).contains s|none=>true) &&
 ((zq a&&(zq b||a.aX.contains i))||(zq b&&b.aX.contains j)||(qj a&&qj b)||(qj a&&qY b&&a.aX.contains i)||(qY a&&qj b&&b.aX.contains j)||(XI a&&Ck b)||(Ck a&&XI b))
def Nn (E:Env)(j9:List p6)(V6:Nat->Option Nat)(lg:Nat->jj)(k:Nat)(st st' :G4):Prop :=
 ∃ i,j9[k]? =some i/\iY E j9 (V6 k) k i st=some (st',lg k)
structure Qg (j9:List p6)(V6:Nat->Option Nat):Prop where
 alloc:∀ (k:Nat) i,j9[k]? =some i->(V6 k).isSome=i.op.z7
 inj:∀ j k n,V6 j=some n->V6 k=some n->j=k
def Nl (j9:List p6)(lg:Nat->jj):Prop :=
 ∀ (k:Nat) i e,j9[k]? =some i->e ∈ i.aX->G9 (lg e).Fs (lg k).reads=false/\(i.op.makes=true->(lg e).FV<=(lg k).id)
section
variable {E:Env} {j9:List p6} {y9:Option Nat} {k q:Nat} {v:c8} {st st1 st2 st' :G4}
def bk {i:p6}{l:jj}:iY E j9 y9 k i st=some (st',l)↔(F1 st i.op&&j9.any fun a=>a.aX.contains k&& !calm st i.op a)=false/\∃ rs,u9 E j9 y9 k i st=some (st',rs)/\l=cK E i y9 st st' rs:=by
 grind [iY]
def cM {i:p6}{l:jj}(h:F1 st i.op=false/\∃ rs,u9 E j9 y9 k i st=some (st',rs)/\l=cK E i y9 st st' rs):iY E j9 y9 k i st=some (st',l) :=
 bk.2 ⟨by rw [h.1];rfl,h.2⟩
def NO {j:Nat}{i b:p6}{q:Nat}(h:(F1 st i.op&&j9.any fun a=>a.aX.contains j&& !calm st i.op a)=false)(hk:F1 st i.op=true)(hb:j9[q]? =some b)(hu:j ∈ b.aX):calm st i.op b=true:=by
 grind
def GW {op:z6}{a:p6}(h:calm st op a=true):∃ sz Sw ob x y s id z lo n j o,op= .append sz Sw ob x y/\a.op= .Q3 (.slot s)/\a.dst=none/\a.guard=none/\I5 st.T st.L x= .A8 id z lo n/\st.T[s]? =some (.ptr j o)/\j≠id:=by
 unfold calm at h;split at h
 .rename_i sz Sw ob x y s ho
  simp [c7,Option.isNone_iff_eq_none] at h;obtain ⟨⟨h1,h2⟩,h3⟩:=h;split at h3
  .rename_i id z lo n j o h4 h5
   exact ⟨_,_,_,_,_,_,_,_,_,_,_,_,rfl,ho,h1,h2,h4,h5,fun e=>by simp_all⟩
  .cases h3
 .cases h
def zg {s2:G4}{op:z6}{a:p6}(h:∀ x,x ∈ op.R7->I5 s2.T s2.L x=I5 st.T st.L x)(hT:s2.T=st.T):calm s2 op a=calm st op a:=by
 unfold calm
 grind [z6.R7]
def GX {sz Sw :Nat}{ob:Bool}{x y:y6}{id z lo n j o:Nat}(h:I5 st.T st.L x= .A8 id z lo n)(hj:j≠id):GI st (.append sz Sw ob x y) (.ptr j o):=fun _ _ _ x' _ id' _ _ _ e hx=>by
 simp_all [c8.kill]
def th {a:p6}{s j o:Nat}(h1:a.op= .Q3 (.slot s))(h2:a.dst=none)(h3:a.guard=none)(h:st.T[s]? =some (.ptr j o)):u9 E j9 y9 k a st=some (put st k (.ptr j o),[]):=by
 have e:(E1 st (.slot s))=(.ptr j o,st):=by simp [E1,I5,h,c8.J2]
 simp [u9,h3,D6,h1,e,h2];cases y9<;>rfl
def GO {i:p6}{sz Sw :Nat}{ob:Bool}{x y:y6}{id z lo n s j o:Nat}{rs:List Nat}(hop:i.op= .append sz Sw ob x y)(hx:I5 st.T st.L x= .A8 id z lo n)(h:u9 E j9 y9 k i st=some (st',rs))(hs:i.dst≠some s)(hT:st.T[s]? =some (.ptr j o))(hj:j≠id):st'.T[s]? =some (.ptr j o):=by
 have slot:∀ s1 s2:G4,r9 y9 s1 k i.dst=some s2->s1.T[s]? =some (.ptr j o)->s2.T[s]? =some (.ptr j o):=by
  intro s1 s2 h h1;cases hd:i.dst with
  |none=>rw [hd] at h;cases y9<;>cases h<;>exact h1
  |some t =>
   cases y9<;>simp only [r9,E5,V8] at h<;>split at h<;>first|grind|grind
 unfold u9 at h;split at h
 .split at h
  .rename_i s1 rs1 h1
   split at h
   .rename_i s2 h2
    cases h;refine slot _ _ h2 ?_;simp [D6,hop,z6.C8,if_true,E6,hx] at h1;split at h1
    .rename_i s3 h3
     cases h1;split at h3
     .unfold S6 at h3
      split at h3
      .split at h3
       .split at h3
        .cases h3
         have e:∀ (l:List c8) (s:Nat),l[s]? =some (.ptr j o)->(H9 id l)[s]? =some (.ptr j o):=by
          intro l
          induction l with
          |nil=>simp_all
          |cons a l ih =>
           grind [H9,c8.kill]
         exact e _ _ hT
        .cases h3
       .cases h3
      .cases h3
     .cases h3
    .cases h1
   .cases h
  .cases h
 .split at h
  .rename_i s2 h2
   cases h;exact slot _ _ h2 hT
  .cases h
 .cases h
def fQ {s2:G4}{op:z6}(h:∀ x,x ∈ op.R7->I5 s2.T s2.L x=I5 st.T st.L x):F1 s2 op=F1 st op:=by
 cases op<;>simp [F1];simp_all [z6.R7]
def fF {s2:G4}{op:z6}(h:∀ x,x ∈ op.R7->I5 s2.T s2.L x=I5 st.T st.L x)(hH:s2.H=st.H):L0 E s2 op=L0 E st op:=by
 cases op<;>simp [L0,z6.R7] at h ⊢
 all_goals simp_all [call,Z5]
def V1 {i:p6}(hu:q ∉ eC j9 i):∀ x,x ∈ i.op.R7->I5 (put st q v).T (put st q v).L x=I5 st.T st.L x :=
 fun _ hx=>pY (Q1 hx hu)
theorem NF.I5 {n:Nat}{dst:Option Nat}{f:G4->G4}(hf:NF k n dst f){x:y6}(h:k ∉ x.dV)(ht:∀ t,dst=some t->t ∉ x.slots)(s:G4):I5 (f s).T (f s).L x=I5 s.T s.L x:=by
 cases hf with
 |mk o v u =>
  simp_all [tE,pY,FW,AP]
def NF.wanted {n:Nat}{dst:Option Nat}{f:G4->G4}(hf:NF k n dst f){g:Option (Nat×Bool)}(h:∀ j b,g=some (j,b)->j≠k)(s:G4):u5 (f s).L g=u5 s.L g:=by
 cases hf with
 |mk o v u =>
  simp_all [MJ,wanted_put,AP]
theorem NF.o7 {n:Nat}{dst:Option Nat}{f:G4->G4}(hf:NF k n dst f)(s:G4):(f s).o7=s.o7:=by
 cases hf with
 |mk o v u =>
  rw [Vt];exact Jr _ _ _
def NF.V5 {n:Nat}{dst:Option Nat}{f:G4->G4}(hf:NF k n dst f)(s:G4):(f s).T.length=s.T.length:=by
 cases hf with
 |mk o v u =>
  rw [DG];show (nc s n o).T.length=_
  rw [FW]
def NF.iP {n:Nat}{dst:Option Nat}{f:G4->G4}(hf:NF k n dst f)(s:G4):(f s).L.length=s.L.length:=by
 cases hf with
 |mk o v u =>
  simp_all [MJ,put,AP]
def NF.comm {n m j i:Nat}{d e:Option Nat}{f g:G4->G4}(hf:NF j n d f)(hg:NF i m e g)(hji:j≠i)(hnm:n≠m)(hde:∀ s,e=some s->d≠some s)(s:G4):f (g s)=g (f s):=by
 cases hf with
 |mk o v u =>
  cases hg with
  |mk o' v' u' =>
   have rH:∀ (l:List u0) (a b:u0),(l.set m b).set n a=(l.set n a).set m b:=fun l a b=>List.set_comm _ _ (fun e=>hnm e.symm)
   have hL:∀ (l:List c8) (a b:c8),(l.set i b).set j a=(l.set j a).set i b:=fun l a b=>List.set_comm _ _ (fun e=>hji e.symm)
   cases o<;>cases o' <;>cases d<;>cases e<;>simp [bw,nc,aa,put,hL]
   all_goals grind [set,List.set_comm]
def MH {i:p6}{m:Nat}{o:u0}(hs:L0 E st i.op<=m):L0 E (aa st m o) i.op=L0 E st i.op:=by
 have e:∀ x,I5 (aa st m o).T (aa st m o).L x=I5 st.T st.L x:=fun _=>rfl
 have e1:(aa st m o).H=st.H.set m o:=rfl;have e2:∀ xs,List.map (I5 (aa st m o).T (aa st m o).L) xs=List.map (I5 st.T st.L) xs:=fun _=>rfl
 cases hop:i.op<;>rw [hop] at hs<;>simp [L0] at hs ⊢
 case call f xs =>
  simp [e2]
  by_cases hp:E.prom f=true
  all_goals simp_all [if_pos,if_neg,iF]
 case an x xs =>
  simp [e x,e2];split at hs
  .rename_i f first caps hx
   by_cases hp:E.prom f=true
   all_goals simp_all [if_true,if_neg,iF]
  .rfl
def NF.FV {n j:Nat}{dst:Option Nat}{f:G4->G4}(hf:NF j n dst f){i:p6}(hu:j ∉ eC j9 i)(ht:∀ t,dst=some t->t ∉ fc i) :
  ∃ o:Option u0,L0 E (f st) i.op=L0 E (nc st n o) i.op:=by
 cases hf with
 |mk o v u =>
  refine ⟨o,?_⟩;refine fF (fun x hx=> ?_) ?_
  .grind [tE,pY,Q1,fc]
  .simp [MI]
   rfl
def ay2 {i:p6}{n j:Nat}{dst:Option Nat}{f:G4->G4}(hf:NF j n dst f)(hC:qY i=true)(hjk:j≠k)(hu:j ∉ eC j9 i)(ht:∀ t,dst=some t->t ∉ fc i)(hd:∀ s,i.dst=some s->dst≠some s)(hn:n<st.H.length)(hs:L0 E st i.op<=n) :
  u9 E j9 y9 k i (f st)=(u9 E j9 y9 k i st).map (fun p=>(f p.1,p.2))/\L0 E (f st) i.op=L0 E st i.op:=by
 refine ⟨?_,?_⟩
 .cases hf with
  |mk o v u =>
   have h1:=Be (E:=E) (j9:=j9) (y9:=y9) (k:=k) (st:=put (nc st n o) j v) (u:=u) (.inl hC) ht hd;have h2:=iq (E:=E) (y9:=y9) (v:=v) (st:=nc st n o) hjk hu (.of (hU hC _));have h3:u9 E j9 y9 k i (nc st n o)=(u9 E j9 y9 k i st).map (fun p=>(nc p.1 n o,p.2)):=by
    cases o with
    |none=>simp only [nc];cases u9 E j9 y9 k i st<;>rfl
    |some o=>exact MT hC hn hs
   simp only;rw [h1,h2,h3];cases u9 E j9 y9 k i st<;>rfl
 .obtain ⟨o,ho⟩:=hf.FV (E:=E) (st:=st) hu ht
  rw [ho];cases o with
  |none=>rfl
  |some o=>exact MH hs
def ZU {i:p6}{j:Nat}{dst:Option Nat}{f:G4->G4}(hf:NF0 j dst f)(hC:qY i=true\/Ck i=true)(hjk:j≠k)(hu:j ∉ eC j9 i)(ht:∀ t,dst=some t->t ∉ fc i)(hd:∀ s,i.dst=some s->dst≠some s) :
  u9 E j9 y9 k i (f st)=(u9 E j9 y9 k i st).map (fun p=>(f p.1,p.2))/\L0 E (f st) i.op=L0 E st i.op:=by
 cases hf with
 |mk v u =>
  have h1:=Be (E:=E) (j9:=j9) (y9:=y9) (k:=k) (st:=put st j v) (u:=u) hC ht hd;have h2:=iq (E:=E) (y9:=y9) (v:=v) (st:=st) hjk hu (.of (hC.elim (fun h=>hU h _) (fun h=>kB h _)));refine ⟨?_,?_⟩
  .simp only
   rw [h1,h2];cases u9 E j9 y9 k i st<;>rfl
  .refine fF (fun x hx=> ?_) (by rw [MI];rfl)
   rw [tE (fun t ht' =>fun hs=>ht t ht' (by unfold fc;exact List.mem_flatMap.2 ⟨x,hx,hs⟩)),pY (Q1 hx hu)]
def Qa {i:p6}{n j:Nat}{dst:Option Nat}{f:G4->G4}(hf:NF j n dst f)(hu:j ∉ eC j9 i)(ht:∀ t,dst=some t->t ∉ fc i)(hs:L0 E (f st) i.op<=n):L0 E st i.op=L0 E (f st) i.op:=by
 obtain ⟨o,ho⟩:=hf.FV (E:=E) (st:=st) hu ht;rw [ho] at hs ⊢;cases o with
 |none=>rfl
 |some o=>exact RB hs
def kJ {i:p6}{s s2 s' s2' :G4}{rs:List Nat}(h1:s2.o7=s.o7)(h2:s2'.o7=s'.o7)(h3:L0 E s2 i.op=L0 E s i.op):cK E i y9 s2 s2' rs=cK E i y9 s s' rs:=by
 simp_all [cK]
def dD {i:p6}{s s2 s' s2' :G4}{rs:List Nat}(h1:s2'.o7.take (s2'.o7.length - s2.o7.length)=s'.o7.take (s'.o7.length - s.o7.length))(h3:L0 E s2 i.op=L0 E s i.op):cK E i y9 s2 s2' rs=cK E i y9 s s' rs:=by
 simp_all [cK]
def Still.FP {i b:p6}{d:List Touch}{xW:Option Nat}{kb:Nat}(h:Still kb b.dst xW d st st')(hl:kb ∉ eC j9 i)(ht:∀ s,b.dst=some s->s ∉ fc i):∀ x,x ∈ i.op.R7->x9.I5 st'.T st'.L x=x9.I5 st.T st.L x:=by
 intro x hx;refine h.I5 (Q1 hx hl) fun s hs e=>ht s e ?_
 simp_all [fc,List.mem_flatMap]
def Still.qf {i b:p6}{d:List Touch}{xW:Option Nat}{kb:Nat}(h:Still kb b.dst xW d st st')(hl:kb ∉ eC j9 i):u5 st'.L i.guard=u5 st.L i.guard :=
 h.wanted fun _ _ hg=>cT hg hl
def iw (j9:List p6)(st:G4):Prop:=∀ (k:Nat) i s,j9[k]? =some i->i.op.z7=true->i.dst=some s->st.o7.any (Touch.S4 s)=true
def Still.marked {kb:Nat}{dst xW:Option Nat}{d:List Touch}(h:Still kb dst xW d st st')(hm:iw j9 st):iw j9 st' :=by
 intro k i s hi ha hd;rw [h.o7,List.any_append,hm k i s hi ha hd];simp
def vM {i:p6}{rs:List Nat}(hn:y9.isSome=i.op.z7)(h:u9 E j9 y9 k i st=some (st',rs)):st.H.length<=st'.H.length/\∃ d,st'.o7=d++st.o7:=by
 cases hk:F1 st i.op with
 |false =>
  obtain ⟨d,hd⟩:=Still.u9 hk hn h;exact ⟨hd.Mj,d,hd.o7⟩
 |true =>
  have slot:∀ {s s2:G4} {dst:Option Nat},r9 y9 s k dst=some s2->s.H.length=s2.H.length/\∃ d,s2.o7=d++s.o7:=by
   intro s s2 dst h;have hx:(E1 s (.loc k)).2.H=s.H/\(E1 s (.loc k)).2.o7=s.o7:=by
    simp only [E1];split<;>exact ⟨rfl,rfl⟩
   cases dst with
   |none=>cases y9<;>simp only [r9,E5,V8,Option.some.injEq] at h<;>subst h<;>exact ⟨rfl,[],rfl⟩
   |some t =>
    cases y9<;>simp only [r9,E5,V8] at h
    .split at h
     .cases h;exact ⟨by simp only [hx.1],[_],rfl⟩
     .cases h
    .split at h
     .cases h;exact ⟨by simp only [hx.1],[],by simp only [hx.2];rfl⟩
     .cases h
  have bn9:∀ {v:c8} {s2:G4},r9 y9 (put st k v) k i.dst=some s2->st.H.length<=s2.H.length/\∃ d,s2.o7=d++st.o7:=by
   intro v s2 h;obtain ⟨h1,d,h2⟩:=slot h;exact ⟨Nat.le_of_eq h1,d,h2⟩
  simp only [u9] at h;split at h
  .split at h
   .rename_i s1 rs1 h1
    split at h
    .rename_i s2 h2
     cases h;obtain ⟨e1,d,e2⟩:=slot h2;have hw:st.H.length<=s1.H.length/\∃ d,s1.o7=d++st.o7:=by
      cases hop:i.op<;>rw [hop] at hk h1<;>simp only [F1,j3] at hk
      .rename_i sz bytes ob x y
       simp only [D6,z6.C8,if_true] at h1;split at h1
       .rename_i s3 h3
        cases h1;simp only [E6] at h3;split at hk
        .rename_i id z lo len hr
         rw [hr] at h3;simp only at h3;split at h3
         .simp only [S6] at h3
          split at h3
          .split at h3
           .split at h3
            .cases h3
             refine ⟨by simp [put];omega,[_],rfl⟩
            .cases h3
           .cases h3
          .cases h3
         .cases h3
        .cases hk
       .cases h1
     obtain ⟨e3,d2,e4⟩:=hw;exact ⟨by omega,d++d2,by rw [e2,e4,E8]⟩
    .cases h
   .cases h
  .split at h
   .rename_i s2 h2
    cases h;exact bn9 h2
   .cases h
  .cases h
def iw.ext (hm:iw j9 st)(h:∃ d,st'.o7=d++st.o7):iw j9 st' :=by
 obtain ⟨d,h⟩:=h;intro k i s hi ha hd;rw [h,List.any_append,hm k i s hi ha hd];simp
def swap {V6:Nat->Option Nat}{lg:Nat->jj}(hn:Qg j9 V6)(Ym:Nl j9 lg){j i:Nat}{a b:p6}(hp:FI j9 j a i b=true)(ha:j9[j]? =some a)(hb:j9[i]? =some b)(hji:j≠i)
  (hin:∀ k n,V6 k=some n->n<st.H.length) (wM:iw j9 st) (h1:Nn E j9 V6 lg j st st1) (h2:Nn E j9 V6 lg i st1 st2):∃ Jy,Nn E j9 V6 lg i st Jy /\Nn E j9 V6 lg j Jy st2:=by
 obtain ⟨a',ha',h1⟩:=h1;rw [ha] at ha';cases ha';obtain ⟨b',hb',h2⟩:=h2;rw [hb] at hb';cases hb';obtain ⟨ka0,rsa,sa,la⟩:=bk.1 h1;obtain ⟨kb0,rsb,sb,lb⟩:=bk.1 h2;simp only [FI,c7,n5,List.contains_eq_mem,decide_eq_false_iff_not] at hp;obtain ⟨⟨⟨⟨u1,u2⟩,t1⟩,t2⟩,dU⟩:=hp;have t1' :∀ s,b.dst=some s->s ∉ fc a:=by
  intro s hs;rw [hs] at t1;simp at t1;exact t1.1
 have t3:∀ s,b.dst=some s->a.dst≠some s:=by
  intro s hs;rw [hs] at t1;simp at t1;exact t1.2
 have t4:∀ s,a.dst=some s->b.dst≠some s:=fun s hs h=>t3 s h hs
 have t2' :∀ s,a.dst=some s->s ∉ fc b:=by
  intro s hs;rw [hs] at t2;simpa using t2
 have Ut:=hn.alloc j a ha;have xW:=hn.alloc i b hb;simp only [Bool.or_eq_true,c7,decide_eq_true_eq] at dU;cases kb:F1 st1 b.op with
 |true =>
  have hu:zq a=true/\i ∈ a.aX:=by
   rcases dU with (((((h|h)|h)|h)|h)|h)|h
   .rcases h.2 with h2|h2
    .rw [fq h2] at kb;cases kb
    .exact ⟨h.1,h2⟩
   .rw [fq h.1] at kb;cases kb
   .rw [aY h.2] at kb;cases kb
   .rw [hU h.1.2] at kb;cases kb
   .rw [aY h.1.2] at kb;cases kb
   .rw [kB h.2] at kb;cases kb
   .rw [aY (uK h.2).1] at kb;cases kb
  obtain ⟨sz,Sw,ob,x,y,s,id,z,lo,n,jd,o,hop,TC,hd,hg,hx,hT,hne⟩:=GW (NO kb0 kb ha hu.2);obtain ⟨v,e0,_⟩:=EK hu.1 sa;have hT0:st.T[s]? =some (.ptr jd o):=by rw [e0] at hT;exact hT
  rw [th TC hd hg hT0] at sa;obtain ⟨rfl,rfl⟩:put st j (.ptr jd o)=st1/\[]=rsa:=by simpa using sa
  have hx0:I5 st.T st.L x= .A8 id z lo n:=by rw [<- V1 u1 x (by simp [hop,z6.R7])];exact hx
  rw [iq hji u1 (by rw [hop];exact GX hx0 hne)] at sb;cases GG:u9 E j9 (V6 i) i b st with
  |none=>rw [GG] at sb;cases sb
  |some p =>
   obtain ⟨s',rs'⟩:=p;rw [GG] at sb;simp only [L4,Option.some.injEq,Prod.mk.injEq] at sb;obtain ⟨rfl,rfl⟩:=sb;have hTs:=GO hop hx0 GG (fun e=>t1' s e (by simp [fc,TC,z6.R7,y6.slots])) hT0 hne;refine ⟨s',⟨b,hb,bk.2 ⟨?_,rs',GG,?_⟩⟩,a,ha,bk.2 ⟨by rw [fq hu.1];rfl,[],th TC hd hg hTs,?_⟩⟩
   .rw [<- kb0,fQ (V1 u1)]
    simp only [zg (V1 u1) (show (put st j (.ptr jd o)).T=st.T from rfl)]
   .rw [lb];exact kJ rfl rfl (fF (V1 u1) rfl)
   .rw [la];exact (dD (by simp [put]) (by rw [dy hu.1,dy hu.1])).symm
 |false =>
 cases ka:F1 st a.op with
 |true =>
  have hu:zq b=true/\j ∈ b.aX:=by
   rcases dU with (((((h|h)|h)|h)|h)|h)|h
   .rw [fq h.1] at ka;cases ka
   .exact ⟨h.1,h.2⟩
   .rw [aY h.1] at ka;cases ka
   .rw [aY h.1.1] at ka;cases ka
   .rw [hU h.1.1] at ka;cases ka
   .rw [aY (uK h.1).1] at ka;cases ka
   .rw [kB h.1] at ka;cases ka
  obtain ⟨sz,Sw,ob,x,y,s,id,z,lo,n,jd,o,hop,TC,hd,hg,hx,hT,hne⟩:=GW (NO ka0 ka hb hu.2);have hT1:=GO hop hx sa (fun e=>t2' s e (by simp [fc,TC,z6.R7,y6.slots])) hT hne;rw [th TC hd hg hT1] at sb;obtain ⟨rfl,rfl⟩:put st1 i (.ptr jd o)=st2/\[]=rsb:=by simpa using sb
  refine ⟨put st i (.ptr jd o),⟨b,hb,bk.2 ⟨by rw [fq hu.1];rfl,[],th TC hd hg hT,?_⟩⟩,a,ha,bk.2 ⟨?_,rsa,?_,?_⟩⟩
  .rw [lb];exact dD (by simp [put]) (by rw [dy hu.1,dy hu.1])
  .rw [<- ka0,fQ (V1 u2)]
   simp only [zg (V1 u2) (show (put st i (.ptr jd o)).T=st.T from rfl)]
  .rw [iq (fun e=>hji e.symm) u2 (by rw [hop];exact GX hx hne),sa]
   rfl
  .rw [la];exact (kJ (s:=st) (s2:=put st i (.ptr jd o)) (s' :=st1) (s2' :=put st1 i (.ptr jd o)) rfl rfl (fF (V1 u2) rfl)).symm
 |false =>
 obtain ⟨da,stA⟩:=Still.u9 ka Ut sa;have Yw:qj a=true->(qY b=true\/Ck b=true)->(a.op.makes=true->qY b=true/\i ∈ a.aX)->∃ Jy,Nn E j9 V6 lg i st Jy /\Nn E j9 V6 lg j Jy st2:=by
  intro RY hCD TB;have hkb:∀ s,F1 s b.op=false:=fun s=>hCD.elim (fun h=>hU h s) (fun h=>kB h s)
  have zW:=fo RY;rw [zW] at Ut;obtain ⟨n,hn1⟩:=Option.isSome_iff_exists.1 Ut;rw [hn1] at sa;obtain ⟨rfl,f,hf,hf0,rfl,Ta⟩:=EJ RY sa;obtain ⟨hs1,hs2⟩:u9 E j9 (V6 i) i b (f st)=(u9 E j9 (V6 i) i b st).map (fun p=>(f p.1,p.2))/\L0 E (f st) b.op=L0 E st b.op:=by
   cases hmk:a.op.makes with
   |true =>
    have Yp:L0 E (f st) b.op<=n:=by
     have:=(Ym j a i ha (TB hmk).2).2 hmk;rw [lb,la] at this;simpa [cK,hn1] using this
    have aD2:=Qa hf u1 t2' Yp;exact ay2 (E:=E) (j9:=j9) (y9:=V6 i) hf (TB hmk).1 hji u1 t2' t3 (hin j n hn1) (by rw [aD2];exact Yp)
   |false=>exact ZU (hf0 hmk) hCD hji u1 t2' t3
  rw [hs1] at sb;cases GG:u9 E j9 (V6 i) i b st with
  |none=>rw [GG] at sb;cases sb
  |some p =>
   obtain ⟨s',rs'⟩:=p;rw [GG] at sb;simp only [L4,Option.some.injEq,Prod.mk.injEq] at sb;obtain ⟨rfl,rfl⟩:=sb;obtain ⟨db,ZC⟩:=Still.u9 (hkb st) xW GG;refine ⟨s',⟨b,hb,cM ⟨hkb _,rs',GG,?_⟩⟩,a,ha,cM ⟨aY RY _,[],?_,?_⟩⟩
   .rw [lb]
    exact kJ (hf.o7 _) (hf.o7 _) hs2
   .rw [hn1]
    exact Ta s' (ZC.FP u2 t1') (ZC.qf u2) ⟨ZC.V5,ZC.iP,fun s hs=>ZC.marked wM j a s ha zW hs⟩
   .rw [la]
    refine dD ?_ ?_
    .simp [hf.o7]
    .rw [dx RY,dx RY]
 have Yx:qj b=true->(qY a=true\/Ck a=true)->(b.op.makes=true->qY a=true/\j ∈ b.aX)->∃ Jy,Nn E j9 V6 lg i st Jy /\Nn E j9 V6 lg j Jy st2:=by
  intro RZ hCD TB;have hka:∀ s,F1 s a.op=false:=fun s=>hCD.elim (fun h=>hU h s) (fun h=>kB h s)
  have zW:=fo RZ;rw [zW] at xW;obtain ⟨m,hm1⟩:=Option.isSome_iff_exists.1 xW;rw [hm1] at sb;obtain ⟨rfl,g,hg,hg0,rfl,Tb⟩:=EJ RZ sb;obtain ⟨hs1,hs2⟩:u9 E j9 (V6 j) j a (g st)=(u9 E j9 (V6 j) j a st).map (fun p=>(g p.1,p.2))/\L0 E (g st) a.op=L0 E st a.op:=by
   cases hmk:b.op.makes with
   |true =>
    have Yp:L0 E st a.op<=m:=by
     have:=(Ym i b j hb (TB hmk).2).2 hmk;rw [lb,la] at this;simpa [cK,hm1] using this
    exact ay2 (E:=E) (j9:=j9) (y9:=V6 j) hg (TB hmk).1 (fun e=>hji e.symm) u2 t1' t4 (hin i m hm1) Yp
   |false=>exact ZU (hg0 hmk) hCD (fun e=>hji e.symm) u2 t1' t4
  have sb0:u9 E j9 (some m) i b st=some (g st,[]) :=
   Tb st (fun x hx=>(stA.FP u1 t2' x hx).symm) (stA.qf u1).symm ⟨stA.V5.symm,stA.iP.symm,fun s hs=>wM i b s hb zW hs⟩
  refine ⟨g st,⟨b,hb,cM ⟨aY RZ _,[],by rw [hm1];exact sb0,?_⟩⟩,a,ha,cM ⟨hka _,rsa,?_,?_⟩⟩
  .rw [lb]
   refine dD ?_ ?_
   .simp [hg.o7]
   .rw [dx RZ,dx RZ]
  .rw [hs1,sa];rfl
  .rw [la]
   exact (kJ (hg.o7 _) (hg.o7 _) hs2).symm
 rcases dU with (((((dU|dU)|dU)|dU)|dU)|dU)|dU
 ·
  obtain ⟨hPa,dU⟩:=dU;obtain ⟨v,rfl,Ta⟩:=EK hPa sa;have kb' :F1 st b.op=false:=by rw [<- fQ (V1 u1)];exact kb
  have hs:=iq (E:=E) (y9:=V6 i) (v:=v) hji u1 (.of kb');rw [hs] at sb;cases GG:u9 E j9 (V6 i) i b st with
  |none=>rw [GG] at sb;cases sb
  |some p =>
   obtain ⟨s',rs'⟩:=p;rw [GG] at sb;simp only [L4,Option.some.injEq,Prod.mk.injEq] at sb;obtain ⟨rfl,rfl⟩:=sb;have lb' :lg i=cK E b (V6 i) st s' rs' :=by rw [lb];exact kJ rfl rfl (fF (V1 u1) rfl)
   obtain ⟨db,ZC⟩:=Still.u9 kb' xW GG;refine ⟨s',⟨b,hb,cM ⟨kb',rs',GG,lb'⟩⟩,a,ha,cM ⟨fq hPa _,rsa,?_,?_⟩⟩
   .refine Ta s' (ZC.FP u2 t1') (ZC.qf u2) fun id hid=> ?_
    rcases dU with hPb|hun
    .obtain ⟨u,rfl,_⟩:=EK hPb GG
     exact T0.refl _
    .have:=(Ym j a i ha hun).1
     rw [lb',la] at this;exact ZC.reads (E:=E) (i:=b) (rs:=rs') this hid
   .rw [la]
    refine (dD ?_ ?_).symm
    .simp [put]
    .rw [dy hPa,dy hPa]
 ·
  obtain ⟨hPb,hun⟩:=dU;obtain ⟨v,rfl,Tb⟩:=EK hPb sb;have sb0:u9 E j9 (V6 i) i b st=some (put st i v,rsb):=by
   refine Tb st (fun x hx=>(stA.FP u1 t2' x hx).symm) (stA.qf u1).symm fun id hid=> ?_
   have:=(Ym i b j hb hun).1;rw [la,lb] at this;exact (stA.reads (E:=E) (i:=a) (rs:=rsa) this hid).symm
  refine ⟨put st i v,⟨b,hb,cM ⟨fq hPb _,rsb,sb0,?_⟩⟩,a,ha,cM ⟨by rw [fQ (V1 u2)];exact ka,rsa,?_,?_⟩⟩
  .rw [lb]
   refine (dD ?_ ?_)
   .simp [put]
   .rw [dy hPb,dy hPb]
  .rw [iq (fun e=>hji e.symm) u2 (.of ka),sa]
   rfl
  .rw [la]
   exact (kJ (s:=st) (s2:=put st i v) (s' :=st1) (s2' :=put st1 i v) rfl rfl (fF (V1 u2) rfl)).symm
 ·
  obtain ⟨RY,RZ⟩:=dU;rw [fo RY] at Ut;rw [fo RZ] at xW;obtain ⟨n,hn1⟩:=Option.isSome_iff_exists.1 Ut;obtain ⟨m,hm1⟩:=Option.isSome_iff_exists.1 xW;rw [hn1] at sa;rw [hm1] at sb;obtain ⟨rfl,f,hf,hf0,rfl,Ta⟩:=EJ RY sa;obtain ⟨rfl,g,hg,hg0,rfl,Tb⟩:=EJ RZ sb;have hnm:n≠m:=by
   rintro rfl;exact hji (hn.inj j i n hn1 hm1)
  have ut:∀ {c:p6} {x:y6} {t:Nat},x ∈ c.op.R7->t ∉ fc c->t ∉ x.slots:=by
   intro c x t hx ht h;apply ht;unfold fc;exact List.mem_flatMap.2 ⟨x,hx,h⟩
  have sb0:u9 E j9 (some m) i b st=some (g st,[]) :=
   Tb st (fun x hx=>(hf.I5 (Q1 hx u1) (fun t ht=>ut hx (t2' t ht)) st).symm) (hf.wanted (fun _ _ h=>cT h u1) st).symm ⟨(hf.V5 st).symm,(hf.iP st).symm,fun s hs=>wM i b s hb (fo RZ) hs⟩
  have sa0:u9 E j9 (some n) j a (g st)=some (f (g st),[]) :=
   Ta (g st) (fun x hx=>hg.I5 (Q1 hx u2) (fun t ht=>ut hx (t1' t ht)) st) (hg.wanted (fun _ _ h=>cT h u2) st) ⟨hg.V5 st,hg.iP st,fun s hs=>by rw [hg.o7];exact wM j a s ha (fo RY) hs⟩
  refine ⟨g st,⟨b,hb,cM ⟨aY RZ _,[],by rw [hm1];exact sb0,?_⟩⟩,a,ha,cM ⟨aY RY _,[],by rw [hn1,sa0,hf.comm hg hji hnm t3],?_⟩⟩
  .rw [lb]
   refine dD ?_ ?_
   .simp [hf.o7,hg.o7]
   .rw [dx RZ,dx RZ]
  .rw [la]
   refine (dD ?_ ?_)
   .simp [hf.o7,hg.o7]
   .rw [dx RY,dx RY]
 .exact Yw dU.1.1 (.inl dU.1.2) fun _=>⟨dU.1.2,dU.2⟩
 .exact Yx dU.1.2 (.inl dU.1.1) fun _=>⟨dU.1.1,dU.2⟩
 .exact Yw (uK dU.1).1 (.inr dU.2) fun h=>by rw [(uK dU.1).2] at h;cases h
 .exact Yx (uK dU.2).1 (.inr dU.1) fun h=>by rw [(uK dU.2).2] at h;cases h
end
end Go.x9
namespace Go.x9
variable [D9]
inductive sj (E:Env) (j9:List p6) (V6:Nat->Option Nat) (lg:Nat->jj):List Nat->G4->G4->Prop where
 |nil (st:G4):sj E j9 V6 lg [] st st
 |cons {k:Nat} {ks:List Nat} {st st1 st2:G4}:Nn E j9 V6 lg k st st1->sj E j9 V6 lg ks st1 st2->sj E j9 V6 lg (k::ks) st st2
section
variable {E:Env} {j9:List p6} {V6:Nat->Option Nat} {lg:Nat->jj} {st st1 st2 fin:G4}
theorem Nn.len (hn:Qg j9 V6){k:Nat}(h:Nn E j9 V6 lg k st st1):st.H.length<=st1.H.length:=by
 obtain ⟨i,hi,h⟩:=h;obtain ⟨hk,rs,hs,_⟩:=bk.1 h;exact (vM (hn.alloc k i hi) hs).1
def Nn.marked (hn:Qg j9 V6){k:Nat}(h:Nn E j9 V6 lg k st st1)(hm:iw j9 st):iw j9 st1:=by
 obtain ⟨i,hi,h⟩:=h;obtain ⟨hk,rs,hs,_⟩:=bk.1 h;exact hm.ext (vM (hn.alloc k i hi) hs).2
theorem sj.front (hn:Qg j9 V6)(Ym:Nl j9 lg){i:Nat}{b:p6}(hb:j9[i]? =some b){rest:List Nat} :
  ∀ (js:List Nat) (st:G4),(∀ j,j ∈ js->j≠i/\∃ a,j9[j]? =some a/\FI j9 j a i b=true)->(∀ k n,V6 k=some n->n<st.H.length)->iw j9 st->sj E j9 V6 lg (js++i::rest) st fin ->
   ∃ st',Nn E j9 V6 lg i st st' /\sj E j9 V6 lg (js++rest) st' fin
 |[],st,_,_,_,h=>by
  cases h with
  |cons h1 h2=>grind
 |j::js,st,hj,hin,wM,h=>by
  cases h with
  |cons h1 h2 =>
   obtain ⟨s2,g1,g2⟩:=sj.front hn Ym hb js _ (fun j' hj' =>hj j' (by simp [hj'])) (fun k n hk=>Nat.lt_of_lt_of_le (hin k n hk) (h1.len hn)) (h1.marked hn wM) h2;obtain ⟨hne,a,ha,hp⟩:=hj j (by simp);obtain ⟨s1,e1,e2⟩:=swap hn Ym hp ha hb hne hin wM h1 g1;exact ⟨s1,e1,sj.cons e2 g2⟩
end
def direct (o:Oper):List Nat:=(o.after.toList.filter (Region.binds .any)).map (·.on)
def Lt:List Oper->List (List Nat)->List (List Nat)
 |[],acc=>acc
 |o::os,acc=>Lt os (acc++[((direct o).flatMap fun e=>e::acc.getD e []).eraseDups])
def II (jG:List (List Nat))(k:Nat)(o:Oper):Bool :=
 (jG.getD k []).all fun j=>(direct o).contains j||(direct o).any fun e=>(jG.getD e []).contains j
def zk (j9:List p6)(jG:List (List Nat))(i:Nat)(b:p6):Bool :=
 (List.range i).all fun j=>(jG.getD i []).contains j||(match j9[j]? with
  |some a=>FI j9 j a i b
  |none=>false)
def nD (X:Cx)(j9:List p6)(jG:List (List Nat)):List p6->Nat->Bool
 |[],k=>X.ops.size==k
 |i::is,k=>(match X.ops[k]? with
  |some o=>II jG k o&&(direct o).all (fun e=>decide (e<k))&&qX X (fun j=>(jG.getD k []).contains j) o i&&zk j9 jG k i
  |none=>false)&&nD X j9 jG is (k+1)
theorem zi {X:Cx}{j9:List p6}{jG:List (List Nat)}:∀ (is:List p6) (k:Nat),j9.drop k=is->nD X j9 jG is k=true->∀ (m:Nat) b,k<=m->j9[m]? =some b ->
  ∃ o,X.ops[m]? =some o/\II jG m o=true/\(∀ e,e ∈ direct o->e<m)/\qX X (fun j=>(jG.getD m []).contains j) o b=true/\zk j9 jG m b=true
 |[],k,hd,_,m,b,hkm,hb=>by
  simp_all [List.length]<;>grind
 |i::is,k,hd,h,m,b,hkm,hb=>by
  simp only [nD,c7] at h
  by_cases e:m=k
  .subst e
   have hi:j9[m]? =some i:=by
    have:(j9.drop m)[0]? =some i:=by rw [hd];rfl
    grind
   grind
  .have hd' :j9.drop (k+1)=is:=by
    have:=congrArg (List.drop 1) hd
    grind [List.drop_drop]
   exact zi is (k+1) hd' h.2 m b (by omega) hb
theorem nE {X:Cx}{j9:List p6}{jG:List (List Nat)}:∀ (is:List p6) (k:Nat),nD X j9 jG is k=true->X.ops.size=k+is.length
 |[],k,h=>by grind [nD]
 |i::is,k,h=>by
  simp [nD,c7] at h;have:=nE is (k+1) h.2
  grind
def Sk (X:Cx)(S:Nat->Prop):Prop:=∀ (k:Nat) o,S k->X.ops[k]? =some o->∀ e,e ∈ direct o->S e
def Lu {X:Cx}{jG:List (List Nat)}{S:Nat->Prop}(hc:Sk X S)(hok:∀ (k:Nat) o,X.ops[k]? =some o->II jG k o=true/\∀ e,e ∈ direct o->e<k)(hout:∀ k,X.ops.size<=k->jG.getD k []=[]) :
  ∀ (n k:Nat),k<=n->∀ o,X.ops[k]? =some o->(∀ e,e ∈ direct o->S e)->∀ j,j ∈ jG.getD k []->S j:=by
 intro n
 induction n with
 |zero =>
  grind [II]
 |succ n ih =>
  intro k hk o ho hd j hj;obtain ⟨h1,h2⟩:=hok k o ho;have:=L9.1 h1 j hj;simp [Bool.or_eq_true,List.contains_eq_mem,decide_eq_true_eq,List.any_eq_true] at this
  rcases this with h|⟨e,he,hej⟩
  .exact hd j h
  .have hlt:=h2 e he
   cases hoe:X.ops[e]? with
   |none =>
    simp_all
   |some oe=>exact ih e (by omega) oe hoe (hc e oe (hd e he) hoe) j hej
def cL (n:Nat)(listed:Array Bool):List Nat:=(List.range n).filter fun j=> !listed.getD j false
def Jk {n i:Nat}{listed:Array Bool}(hi:i<n)(hu:listed.getD i false=false)(hs:listed.size=n) :
  ∃ js rest,cL n listed=js++i::rest/\cL n (listed.setIfInBounds i true)=js++rest/\∀ j,j ∈ js->j<i/\listed.getD j false=false:=by
 refine ⟨(List.range i).filter fun j=> !listed.getD j false,(List.range' (i+1) (n - i - 1)).filter fun j=> !listed.getD j false,?_,?_,?_⟩
 .unfold cL
  have:List.range n=List.range i++i::List.range' (i+1) (n - i - 1):=by
   have h:=List.range'_append_1 (s:=0) (m:=i) (n:=n - i - 1+1)
   grind [List.range_eq_range',List.range'_succ]
  simp_all
 .unfold cL
  have:List.range n=List.range i++i::List.range' (i+1) (n - i - 1):=by
   have h:=List.range'_append_1 (s:=0) (m:=i) (n:=n - i - 1+1)
   grind [List.range_eq_range',List.range'_succ]
  rw [this,List.filter_append,List.filter_cons];have e1:(!(listed.setIfInBounds i true).getD i false)=false:=by simp [hs,hi]
  rw [e1]
  congr 1
  .refine List.filter_congr fun j hj=> ?_
   simp_all<;>grind
  .refine List.filter_congr fun j hj=> ?_
   simp_all<;>grind
 simp_all
section
variable {X:Cx} {j9:List p6} {E:Env} {nt:Nat} {V6:Nat->Option Nat} {lg:Nat->jj} {fin:G4} {jG:List (List Nat)}
def Qm (hst:Stat X nt)(NG:nx X.P E.cf E.prom)(eW:∀ f args H lm r,E.cf f args H lm=some r->S0 X.P f=true)(hs:E.lim.strict<=E.lim.base)(hbe:E.lim.base<=E.entry)(Q:Exit->Act->World->Prop)
  (HO:nD X j9 jG j9 0=true) (hout:∀ k,X.ops.size<=k->jG.getD k []=[]) (hn:Qg j9 V6) (hne:∀ k n,V6 k=some n->E.entry<=n) (Ym:Nl j9 lg) :
  ∀ (fuel:Nat) (listed:Array Bool) (st:G4) (a:Act) (w:World) (G:Gh) (I:R3) (N:Nat->Prop),Rg X j9 E nt (fun j=>listed.getD j false=true) st a w G I N->listed.size=j9.length->Sk X (fun j=>listed.getD j false=true) ->
   (∀ k n,V6 k=some n->n<st.H.length)->iw j9 st->(∀ k n,V6 k=some n->listed.getD k false=false->¬ N n)->sj E j9 V6 lg (cL j9.length listed) st fin->(cL j9.length listed).length<=fuel ->
   (∀ a' w' G' I' N',Fin X j9 E nt st w G I N fin a' w' G' I' N' ->Q .normal a' w')->wpAny X.P .any X.ops Q fuel listed a w:=by
 have hsize:X.ops.size=j9.length:=by grind [nE]
 have HP:=fun (m:Nat) b hb=>zi j9 0 (by simp) HO m b (I7 _) hb
 have TF:∀ (k:Nat) o,X.ops[k]? =some o->II jG k o=true/\∀ e,e ∈ direct o->e<k:=by
  intro k o ho;have hk:k<j9.length:=by
   grind
  obtain ⟨o',h1,h2,h3,_⟩:=HP k j9[k] (l6 hk);simp_all
 have hdone:∀ (listed:Array Bool),listed.size=j9.length->Region.ready .any X.ops listed=[]->cL j9.length listed=[]:=by
  intro listed hls hr;cases TH:cL j9.length listed with
  |nil=>rfl
  |cons i rest =>
   exfalso;have hi:i<j9.length/\listed.getD i false=false/\∀ j,j<i->listed.getD j false=true:=by
    have hm:i ∈ cL j9.length listed:=by simp_all
    unfold cL at hm;simp only [List.mem_filter,List.mem_range,n5] at hm;refine ⟨hm.1,hm.2,fun j hj=> ?_⟩;cases hlj:listed.getD j false with
    |true=>rfl
    |false =>
     have hjm:j ∈ cL j9.length listed:=by
      grind [cL,n5]
     have aR1:(cL j9.length listed).Pairwise (·<·):=List.Pairwise.filter _ List.pairwise_lt_range
     grind [List.pairwise_cons]
   obtain ⟨o,ho,_,hlt,_⟩:=HP i j9[i] (l6 hi.1);have:i ∈ Region.ready .any X.ops listed:=by
    grind [mem_ready,direct]
   simp_all
 have hend:∀ (listed:Array Bool) (st:G4) (a:Act) (w:World) (G:Gh) (I:R3) (N:Nat->Prop),Rg X j9 E nt (fun j=>listed.getD j false=true) st a w G I N->listed.size=j9.length->sj E j9 V6 lg (cL j9.length listed) st fin->cL j9.length listed=[] ->
   Fin X j9 E nt st w G I N fin a w G I N:=by
  intro listed st a w G I N hR hls hrun TH;rw [TH] at hrun;cases hrun;refine ⟨hR.congr fun j=> ?_,aj.refl _ _ _ _ _ _⟩;constructor
  .grind
  simp_all [cL,List.mem_filter,List.mem_range,n5]
 intro fuel
 induction fuel with
 |zero =>
  intro listed st a w G I N hR hls hcl hin wM hfr hrun hfl hQ;have TH:cL j9.length listed=[]:=List.length_eq_zero_iff.1 (by omega);refine ⟨?_,hQ _ _ _ _ _ (hend listed st a w G I N hR hls hrun TH)⟩;cases hr:Region.ready .any X.ops listed with
  |nil=>rfl
  |cons i rest =>
   exfalso;have:i ∈ Region.ready .any X.ops listed:=by rw [hr];simp
   obtain ⟨h0,o,ho,_⟩:=mem_ready.1 this;have hi:i<j9.length:=by grind
   have wJ:i<listed.size:=by omega
   have:i ∈ cL j9.length listed:=by
    grind [cL,n5]
   grind
 |succ fuel ih =>
  intro listed st a w G I N hR hls hcl hin wM hfr hrun hfl hQ;refine ⟨fun hr=>hQ _ _ _ _ _ (hend listed st a w G I N hR hls hrun (hdone listed hls hr)),fun i hi=> ?_⟩;obtain ⟨h0,o,ho,hall⟩:=mem_ready.1 hi;have hia:i<j9.length:=by grind
  have wJ:i<listed.size:=by omega
  have hun:listed.getD i false=false:=by
   grind
  obtain ⟨b,hb⟩:∃ b,j9[i]? =some b:=⟨_,l6 hia⟩;obtain ⟨o',ho',hoa,hlt,hci,gj⟩:=HP i b hb;rw [ho] at ho';cases ho';have be8:∀ e,e ∈ direct o->listed.getD e false=true:=by
   grind [direct]
  have be0:=Lu hcl TF hout i i (o5 _) o ho be8;obtain ⟨js,rest,hr1,Xo,hjs⟩:=Jk hia hun hls;rw [hr1] at hrun;obtain ⟨st1,bh1,bu1⟩:=sj.front hn Ym hb js st (fun j hj=>by
   obtain ⟨hji,hju⟩:=hjs j hj
   grind [zk]) hin wM hrun
  obtain ⟨b',hb',hD⟩:=bh1;rw [hb] at hb';cases hb';obtain ⟨hk,rs,hstep,bG9⟩:=bk.1 hD;have hstill:=(vM (hn.alloc i b hb) hstep).2;refine xm hst NG eW hs hbe hR (D:=fun j=>(jG.getD i []).contains j) (fun j hj=>be0 j (by simpa using hj)) (by grind) ho hb hci (y9:=V6 i) (fun zW=> ?_) (fun n hni=>⟨hne i n hni,hin i n hni⟩) hstep _ _ ?_
  .have:=hn.alloc i b hb
   rw [zW] at this;obtain ⟨n,hni⟩:=Option.isSome_iff_exists.1 this;rw [hni];have h1:=hne i n hni;exact ⟨hfr i n hni hun,(fun m hm=>by grind),by grind [newId],by grind [newId]⟩
  .intro a' w' G' I' N' hdn
   have rH:∀ j,(listed.setIfInBounds i true).getD j false=true↔(listed.getD j false=true\/j=i):=by
    intro j
    by_cases e:j=i
    .subst e;simp [wJ]
    .rw [Go.getD_set_ne false (fun h=>e h.symm)]
     simp [e]
   refine ih (listed.setIfInBounds i true) st1 a' w' G' I' N' (hdn.rg.congr fun j=>(rH j).symm) (by simp [hls]) ?_ (fun k n hk=>Nat.lt_of_lt_of_le (hin k n hk) hdn.len) (wM.ext hstill) ?_ (by grind) ?_ ?_
   .intro k ok hk hok e he
    rw [rH] at hk ⊢
    rcases hk with hk|rfl
    .exact Or.inl (hcl k ok hk hok e he)
    grind
   .intro k n hk hku hN
    have bf5 :listed.getD k false=false/\k≠i:=by
     grind
    rcases hdn.old n (hin k n hk) hN with h|h
    .grind
    .exact bf5.2 (hn.inj k i n hk h)
   .grind
   .intro a'' w'' G'' I'' N'' hf
    exact hQ _ _ _ _ _ ⟨hf.rg,hdn.since.trans hf.since⟩
def qG (j9:List p6)(base:Nat)(k:Nat):Option Nat :=
 match j9[k]? with
 |some i=>if i.op.z7 then some (base+((j9.take k).filter (·.op.z7)).length) else none
 |none=>none
def YH (j9:List p6)(base:Nat):Qg j9 (qG j9 base):=by
 refine ⟨fun k i hi=> ?_,fun j k n hj hk=> ?_⟩
 .grind [qG]
 .have key:∀ a b n,a<b->qG j9 base a=some n->qG j9 base b=some n->False:=by
   intro a b n hab ha hb;unfold qG at ha hb;split at ha
   .split at ha
    .split at hb
     .split at hb
      .have h1:((j9.take (a+1)).filter (·.op.z7)).length=((j9.take a).filter (·.op.z7)).length+1:=by
        simp_all [List.take_add_one,List.filter_append]
       grind [List.Sublist.length_le,List.Sublist.filter,List.take_sublist_take_left]
      .cases hb
     .cases hb
    .cases ha
   .cases ha
  grind
theorem xb {base:Nat}:∀ (is:List p6) (k:Nat) (na:Nat) (st st2:G4) (Mk:List jj) (lgf:Nat->jj),j9.drop k=is->na=base+((j9.take k).filter (·.op.z7)).length->P6 E j9 is k na st=some (st2,Mk) ->
  (∀ m,m<is.length->lgf (k+m)=Mk.getD m ⟨[],[],0,0⟩)->Mk.length=is.length/\sj E j9 (qG j9 base) lgf (List.range' k is.length) st st2
 |[],k,na,st,st2,Mk,lgf,hd,hna,h,hl=>by
  cases h;exact ⟨rfl,sj.nil _⟩
 |i::is,k,na,st,st2,Mk,lgf,hd,hna,h,hl=>by
  have hi:j9[k]? =some i:=by
   have:(j9.drop k)[0]? =some i:=by rw [hd];rfl
   grind
  have hd' :j9.drop (k+1)=is:=by
   have:=congrArg (List.drop 1) hd
   grind [List.drop_drop]
  simp [P6] at h;split at h
  .rename_i st1 l hstep
   split at h
   .rename_i st3 lg3 hrun
    cases h;have bf8 :(if i.op.z7=true then na+1 else na)=base+((j9.take (k+1)).filter (·.op.z7)).length:=by
     grind
    obtain ⟨g1,g2⟩:=xb is (k+1) _ st1 st2 lg3 lgf hd' bf8 hrun (fun m hm=>by
     simp_all<;>grind)
    refine ⟨by simp [g1],?_⟩;refine sj.cons ⟨i,hi,?_⟩ g2
    grind [qG]
   .cases h
  .cases h
def Ri {Mk:List jj}(hlen:Mk.length=j9.length)(h:qH j9 Mk=true):Nl j9 (fun k=>Mk.getD k ⟨[],[],0,0⟩):=by
 intro k i e hi he;unfold qH at h;have hk:=u7 hi;have hz:(i,Mk.getD k ⟨[],[],0,0⟩) ∈ j9.zip Mk:=by
  refine List.mem_of_getElem? (i:=k) ?_;simp_all
 grind
end
end Go.x9
namespace Go.x9
variable [D9]
structure Cd (P:Program)(names:List Tmp)(E:Env)(nt:Nat)(st:St)(a:Act)(w:World)(G:Gh)(I:R3)(N:Nat->Prop):Prop where
 T:∀ (s:Nat) t,names[s]? =some t->VR G I N w (.slot s) (st.T.getD s .any) (a.tmps.getD t undef)
 H:HR G I N w st.H
 wf:WF G w
 V4:Qc E.lim st.H
 V5:st.T.length=names.length
 bt:∀ id,N id->id<st.H.length
 Lk:E.entry<=st.H.length
 size:a.tmps.size=nt
 idle:∀ d,d ∈ a.defers->GK P E.idle d
def ru (names:List Tmp):List (Option Tmp)->Bool
 |[]=>true
 |none::r=>ru names r
 |some d::r=>(names.contains d|| !r.contains (some d))&&ru names r
def jB:List Tmp->Bool
 |[]=>true
 |x::xs=> !xs.contains x&&jB xs
theorem qF:∀ (l:List Tmp),jB l=true->∀ (s s' :Nat) t,l[s]? =some t->l[s']? =some t->s=s'
 |[],_,s,s',t,h,_=>by simp at h
 |x::xs,hok,s,s',t,h,h' =>by
  simp [jB,c7,List.contains_eq_mem] at hok;cases s with
  |zero =>
   grind
  |succ s =>
   cases s' with
   |zero =>
    grind
   |succ s' =>rw [qF xs hok.2 s s' t (by simpa using h) (by simp_all)]
theorem sN (names:List Tmp):∀ (l:List (Option Tmp)),ru names l=true->∀ (i j:Nat) d,l[i]? =some (some d)->l[j]? =some (some d)->names.contains d=false->i=j
 |[],_,i,j,d,h,_,_=>by simp at h
 |x::xs,hok,i,j,d,h,h',hn=>by
  have sX:ru names xs=true:=by
   cases x with
   |none=>exact hok
   |some d' =>simp_all [ru,c7]
  have hnot:x=some d->some d ∉ xs:=by
   grind [ru,absurd]
  cases i with
  |zero =>
   grind
  |succ i =>
   cases j with
   |zero =>
    grind
   |succ j=>rw [sN names xs sX i j d (by simpa using h) (by simp_all) hn]
def dw (P:Program)(names:List Tmp)(nt:Nat)(ops:Array Oper)(j9:List p6)(draw:Bool):Bool :=
 ru names (ops.toList.map (·.dst))&&(ops.toList.all fun o=>match o.dst with|some d=>decide (d<nt)|none=>true) &&
 (if draw then
   let jG:=Lt ops.toList []
   decide (jG.length<=ops.size)&&nD ⟨P,names,ops⟩ j9 jG j9 0&&P.follows .mixedOrders
  else lP ⟨P,names,ops⟩ j9 0)
def ZD {P:Program}{names:List Tmp}{nt:Nat}{ops:Array Oper}{j9:List p6}{draw:Bool}(hn:jB names=true)(h:dw P names nt ops j9 draw=true):Stat ⟨P,names,ops⟩ nt:=by
 simp [dw,c7] at h;obtain ⟨⟨h1,h2⟩,_⟩:=h;have get:∀ (i:Nat) d,(ops[i]?).bind (·.dst)=some d->(ops.toList.map (·.dst))[i]? =some (some d):=by
  simp_all<;>grind
 refine ⟨fun i j d hi hj hc=>sN names _ h1 i j d (get i d hi) (get j d hj) hc,fun i d hd=> ?_,fun s s' t=>qF names hn s s' t⟩
 grind
section
variable {P:Program} {names:List Tmp} {E:Env} {nt:Nat} {st:St} {a:Act} {w:World} {G:Gh} {I:R3} {N:Nat->Prop} {ops:Array Oper} {j9:List p6}
def Cd.start (h:Cd P names E nt st a w G I N)(X:Cx)(hX:X=⟨P,names,ops⟩){S:Nat->Prop}(hS:∀ j,¬ S j){H' :o9}(ext:o9)(hH:H' =st.H++ext)(aB2:∀ o,o ∈ ext->o= .dead){L:List c8}(hL:L.length=j9.length)(o7:List Touch) :
  Rg X j9 E nt S ⟨st.T,H',L,o7⟩ a w G I N:=by
 subst hX;subst hH;have get:∀ (id:Nat) o,(st.H++ext)[id]? =some o->st.H[id]? =some o\/o= .dead:=by
  intro id o ho
  rcases y4 id st.H.length with hlt|hge
  .grind
  .rw [s5 hge] at ho
   exact Or.inr (aB2 o (List.mem_of_getElem? ho))
 refine ⟨⟨h.T,fun j hj=>absurd hj (hS j),fun id o ho=> ?_,h.wf,fun id o ho=> ?_⟩,⟨fun j _ _ _ _ hj=>absurd hj (hS j),fun j _ _ _ _ _ _ hj=>absurd hj (hS j)⟩,fun j _ _ hj=>absurd hj (hS j),h.V5,hL,fun id hid=> ?_,?_,h.size,h.idle⟩
 .rcases get id o ho with h1|rfl
  .exact h.H id o h1
  .simp [OR]
 .rcases get id o ho with h1|rfl
  .exact h.V4 id o h1
  .simp [u0.K5]
 .have:=h.bt id hid;simp;omega
 .have:=h.Lk;simp;omega
theorem Cd.drew (h:Cd P names E nt st a w G I N)(n:Nat)(hn:w.drawn<=n):Cd P names E nt st a { w with drawn:=n } G I N/\aj E st.H w G I N st.H { w with drawn:=n } G I N:=by
 have hx:Ext G w G { w with drawn:=n }:=(Ext.refl G w).drew n hn;have hk:∀ pl,bz pl G w G { w with drawn:=n }:=fun _ _ _ h=>⟨h,rfl⟩
 refine ⟨⟨fun s t ht=>VR.mono hx (fun _ _=>rfl) (fun _ h=>h) _ _ _ (Or.inr (hk _)) (h.T s t ht),fun id o ho=>OR.mono (w:=w) hx.sub (fun _ _=>rfl) (fun _ h=>h) id o (fun h=>⟨h,rfl⟩) (fun _=>hk _) (h.H id o ho),h.wf,h.V4,h.V5,h.bt,h.Lk,h.size,h.idle⟩,?_⟩;exact ⟨hx,fun id _=>⟨fun _ h=>⟨h,rfl⟩,fun _=>hk _⟩,fun _ _ _=>rfl,fun _ _ h=>h,fun _ _ h=>h,fun _ o _ h=>Or.inr ⟨o,h,o5 _⟩⟩
def Cd.done {X:Cx}(hX:X=⟨P,names,ops⟩){S:Nat->Prop}{r:G4}(h:Rg X j9 E nt S r a w G I N):Cd P names E nt ⟨r.T,r.H⟩ a w G I N:=by
 subst hX;exact ⟨h.ri.T,h.ri.H,h.ri.wf,h.ri.V4,h.V5,h.bt,h.Lk,h.size,h.idle⟩
structure Nk (P:Program)(E:Env):Prop where
 cf:nx P E.cf E.prom
 can:∀ f args H lm r,E.cf f args H lm=some r->S0 P f=true
 strict:E.lim.strict<=E.lim.base
 base:E.lim.base<=E.entry
def aj.bb6 {H0 ext H:o9}{w0 w:World}{G0 G:Gh}{I0 I:R3}{N0 N:Nat->Prop}(hb:E.lim.base<=H0.length)(h:aj E (H0++ext) w0 G0 I0 N0 H w G I N):aj E H0 w0 G0 I0 N0 H w G I N:=by
 refine ⟨h.ext,h.ez,h.inj,h.mono,h.old,fun id o' hid ho=> ?_⟩
 rcases h.hle id o' hid ho with h1|⟨o,h1,h2⟩
 all_goals grind
def tD (hE:Nk P E)(hn:jB names=true){draw:Bool}(hc:dw P names nt ops j9 draw=true)(h:Cd P names E nt st a w G I N){r:G4}(hr:Q4 E j9 draw st.T st.H=some r)(id:Nat)(Q:Exit->Act->World->Prop)
  (hQ:∀ a' w' G' I' N',Rg ⟨P,names,ops⟩ j9 E nt (fun j=>j<j9.length) r a' w' G' I' N' ->aj E st.H w G I N r.H w' G' I' N' ->Q .normal a' w'):(Code.region id ops draw).wp P Q a w:=by
 have hst:=ZD hn hc;simp only [dw,c7] at hc;obtain ⟨_,hc⟩:=hc;unfold Q4 at hr;cases draw with
 |false =>
  refine wp_region ?_;have hsz:ops.size=j9.length:=by
   have:∀ (is:List p6) (k:Nat),lP ⟨P,names,ops⟩ is k=true->ops.size=k+is.length:=by
    intro is
    induction is with
    |nil=>simp_all [lP]
    |cons i is ih =>
     grind [lP]
   grind
  rw [hsz,List.range_eq_range'];have hR:Rg ⟨P,names,ops⟩ j9 E nt (fun j=>j<0) ⟨st.T,st.H,c9 j9.length .any,[]⟩ a w G I N :=
   h.start _ rfl (fun j=>by simp) [] (by simp) (by simp) (by simp) []
  refine FT (X:=⟨P,names,ops⟩) hst hE.cf hE.can hE.strict hE.base Q j9 0 (by simp) (by simp) hc _ a w G I N r hR hr ?_;intro a' w' G' I' N' hf;exact hQ a' w' G' I' N' hf.rg hf.since
 |true =>
  simp only [if_true,c7,decide_eq_true_eq] at hr hc;obtain ⟨⟨bI5,aA5⟩,bf7⟩:=hc;split at hr
  .rename_i r' Mk hrun
   split at hr
   .rename_i hok
    cases hr;refine wp_region_any bf7 ?_;obtain ⟨h2,al8⟩:=h.drew (w.drawn+1) (Nat.le_succ _);have hR:Rg ⟨P,names,ops⟩ j9 E nt (fun j=>(Array.replicate ops.size false).getD j false=true) ⟨st.T,st.H++Y9 j9,c9 j9.length .any,slotsOf j9⟩ a { w with drawn:=w.drawn+1 } G I N :=
     h2.start _ rfl (fun j=>by
      simp_all<;>grind) (Y9 j9) rfl (by
      simp_all [Y9]) (by simp) (slotsOf j9)
    have aC2:iw j9 ⟨st.T,st.H++Y9 j9,c9 j9.length .any,slotsOf j9⟩:=by
     intro k i s hi ha hd;simp_all [Touch.S4,slotsOf]<;>grind
    have hsize:ops.size=j9.length:=by
     have:=nE (X:=⟨P,names,ops⟩) j9 0 aA5;simp_all
    obtain ⟨hlen,bD7⟩:=xb (base:=st.H.length) j9 0 st.H.length _ r Mk (fun k=>Mk.getD k ⟨[],[],0,0⟩) (by simp) (by simp) hrun (fun m _=>by simp);have TH:cL j9.length (Array.replicate ops.size false)=List.range' 0 j9.length:=by
     simp_all [cL,List.filter_eq_self,List.range_eq_range']
    have hlt:∀ k n,qG j9 st.H.length k=some n->st.H.length<=n/\n<(st.H++Y9 j9).length:=by
     intro k n hk;unfold qG at hk;split at hk
     .split at hk
      .have h1:((j9.take (k+1)).filter (·.op.z7)).length=((j9.take k).filter (·.op.z7)).length+1:=by
        simp_all [List.take_add_one,List.filter_append]
       grind [List.Sublist.length_le,List.Sublist.filter,List.take_sublist,Y9]
      .cases hk
     .cases hk
    refine Qm (X:=⟨P,names,ops⟩) (jG:=Lt ops.toList []) (V6:=qG j9 st.H.length) (lg:=fun k=>Mk.getD k ⟨[],[],0,0⟩) (fin:=r) hst hE.cf hE.can hE.strict hE.base Q aA5 (fun k hk=> ?_) (YH j9 _) (fun k n hk=> ?_) (Ri hlen hok)
     ops.size (Array.replicate ops.size false) _ a _ G I N hR (by simp [hsize]) ?_ (fun k n hk=>(hlt k n hk).2) aC2 (fun k n hk _ hN=> ?_) (by simp_all) (by simp_all) ?_
    .grind
    .have:=(hlt k n hk).1;have:=h.Lk;omega
    .intro k o hk
     simp_all<;>grind
    .have h1:=h.bt n hN;grind
    .intro a' w' G' I' N' hf
     have hb:E.lim.base<=st.H.length:=B6 hE.base h.Lk;exact hQ a' w' G' I' N' hf.rg (al8.trans (hf.since.bb6 hb))
   .cases hr
  .cases hr
end
end Go.x9
namespace Go.x9
variable [D9]
section
variable {P:Program} {names:List Tmp} {E:Env} {nt:Nat} {st st' :St} {a:Act} {w:World} {G:Gh} {I:R3} {N:Nat->Prop}
theorem wZ:∀ (cs:List c8) (k i id sz lo len:Nat),dF cs k=some (i,id,sz,lo,len)->∃ j,i=k+j/\cs[j]? =some (.A8 id sz lo len)
 |[],_,_,_,_,_,_,h=>by simp [dF] at h
 |c::cs,k,i,id,sz,lo,len,h=>by
  cases c
  case A8 id' sz' lo' len' =>
   simp_all [dF,Option.some.injEq,Prod.mk.injEq]
  all_goals
   obtain ⟨j,h1,h2⟩:=wZ cs (k+1) i id sz lo len (by simp_all [dF]);simp_all<;>grind
def LL {pl:Place}{v:c8}{d:Data}{x:Value}(hd:v.data? =some d)(h:VR G I N w pl v x):DR G w d x:=by
 have h2:VR G I N w pl v.J2 x:=h.J2;cases v<;>simp [c8.data?] at hd<;>first|cases hd|skip
 all_goals simp_all [c8.J2,VR]
theorem SZ (b:Nat)(ak9:∀ o,gX G b o):∀ (vs:List c8) (xs:List Data) (o:Nat),M6 vs=some xs->(∀ j v,vs[j]? =some v->∃ u,w.cell? (ad b (o+j))=some u/\∀ d,v.data? =some d->DR G w d u)->dX G w b o xs
 |[],xs,o,h,_=>by simp_all [M6,dX]
 |v::vs,xs,o,h,hv=>by
  unfold M6 at h;cases hd:v.data? with
  |none=>simp_all
  |some d =>
   rw [hd] at h;cases hds:M6 vs with
   |none=>simp_all
   |some ds =>
    rw [hds] at h;cases h;obtain ⟨u,h1,h2⟩:=hv 0 v rfl;refine ⟨ak9 o,⟨u,by omega,h2 d hd⟩,SZ b ak9 vs ds (o+1) hds fun j v' hj=> ?_⟩;obtain ⟨u',g1,g2⟩:=hv (j+1) v' (by simp_all)
    grind
def Tv (h:Cd P names E nt st a w G I N){s:Nat}(hr:wG E.lim E.entry s st=some st'):∃ G' N',Cd P names E nt st' a w G' I N' /\aj E st.H w G I N st'.H w G' I N' :=by
 unfold wG at hr;split at hr
 .rename_i b hT
  split at hr
  .rename_i cs hb
   split at hr
   .rename_i i id sz lo len bg6
    split at hr
    .rename_i vs hvs
     split at hr
     .rename_i xs hxs
      split at hr
      .rename_i cI
       cases hr;obtain ⟨hbase,QK,hmay,hbb,hne⟩:=cI;obtain ⟨j,hj,hcj⟩:=wZ cs 0 i id sz lo len bg6;obtain rfl:i=j:=by omega
       obtain ⟨old,hold,hlen,bi4⟩:∃ old,st.H[id]? =some (.cells old)/\lo+len * sz<=old.length/\vs=(old.drop lo).take (len * sz):=by
        grind [rd]
       have hO:=h.H id _ hold;simp only [OR] at hO;obtain ⟨hN,c,e,f,g1,g2,g3,g4,g5⟩:=hO;have hlt:(I id).1<w.heap.size:=by
        grind
       have ak8:=u7 hold;have hx:Ext G w (iu G (I id).1 .kg) w:=by
        refine ⟨rfl,rfl,rfl,fun _=>o5 _,o5 _,fun b' o hi=>⟨?_,rfl⟩,fun b' hb' =>⟨?_,rfl⟩,fun _ c _ _ hc=>⟨c,hc,rfl⟩⟩
        all_goals grind [gX,oM,K7]
       have hkp:∀ q,bz q G w (iu G (I id).1 .kg) w:=fun q b' n hb' =>⟨by grind [K7],rfl⟩
       have Ll:∀ id',id' ≠id->∀ b',G b' = .obj id' ->(iu G (I id).1 .kg) b' = .obj id' /\w.heap[b']? =w.heap[b']? :=fun id' hid b' hb' =>⟨by grind [K7],rfl⟩
       have vr:∀ {pl:Place} {v:c8} {u:Value},VR G I N w pl v u->VR (iu G (I id).1 .kg) I (fun i=>N i/\i≠id) w pl (v.kill id) u :=
        fun hv=>VR.mono hx (fun _ _=>rfl) (fun _ h=>h) _ _ _ (Or.inr (hkp _)) (VR.kill id _ _ _ hv)
       have rH:∀ (id' :Nat) (o' :u0),(((st.H.take E.lim.base++(st.H.drop E.lim.base).map (u0.kill id)).set id .dead).set b (.cells ((H9 id cs).set i (.d (.slice len xs)))))[id']? =some o' ->
         (id' =b/\o' = .cells ((H9 id cs).set i (.d (.slice len xs))))\/(id' ≠b/\id' =id/\o' = .dead)\/(id' ≠b/\id' ≠id/\id' <E.lim.base/\st.H[id']? =some o')\/(id' ≠b/\id' ≠id/\E.lim.base<=id' /\∃ o1,st.H[id']? =some o1/\o' =o1.kill id):=by
        intro id' o' ho'
        by_cases e1:id' =b
        .grind
        .rw [D3 (fun e=>e1 e.symm)] at ho'
         grind
       have uS:A4 ((H9 id cs).set i (.d (.slice len xs)))<=A4 cs:=B6 (lM _ _ _) (dn id cs);refine ⟨iu G (I id).1 .kg,fun i=>N i/\i≠id,⟨?_,?_,?_,?_,?_,?_,?_,h.size,h.idle⟩,⟨hx,?_,fun _ _ _=>rfl,?_,fun _ _ hn=>hn.1,?_⟩⟩
       .intro s' t ht
        simp only [uQ];exact vr (h.T s' t ht)
       .intro id' o' ho'
        rcases rH id' o' ho' with ⟨rfl,rfl⟩|⟨_,rfl,rfl⟩|⟨e1,e2,e3,e4⟩|⟨e1,e2,e3,o1,e4,rfl⟩
        .have hk:=OR.kill id (fun e=>hne e.symm) _ (h.H id' _ hb)
         have hk:=OR.mono hx (fun _ _=>rfl) (fun _ h=>h) id' _ (fun hb' =>Ll id' (fun e=>hne e.symm) _ hb') (fun _=>hkp _) hk;simp only [u0.kill,OR] at hk ⊢;obtain ⟨k0,c2,e2,f2,k1,k2,k3,k4,k5⟩:=hk;refine ⟨k0,c2,e2,f2,k1,k2,k3,by grind,fun i' x' hx' => ?_⟩
         by_cases ei:i' =i
         .subst ei
          have wJ:i' <(H9 id cs).length:=by grind
          rw [O0 wJ] at hx';cases hx';have hOb:=h.H id' _ hb;simp only [OR] at hOb;obtain ⟨_,c3,e3,f3,m1,_,_,_,m5⟩:=hOb;rw [k1] at m1;cases m1;obtain ⟨u,u1,u2⟩:=m5 i' _ hcj;refine ⟨u,u1,?_⟩;simp only [VR] at u2 ⊢;obtain ⟨_,cap,rfl,u3,_⟩:=u2;simp only [DR];refine Or.inr ⟨(I id).1,(I id).2+lo,cap,rfl,u3,SZ _ (fun o=>by grind [gX,oM]) vs xs _ hxs fun j v hj=> ?_⟩;subst bi4;have hj2:j<len * sz/\old[lo+j]? =some v:=by
           grind
          obtain ⟨y,y1,y2⟩:=g5 _ _ hj2.2;refine ⟨y,?_,fun d hd=>DR.mono hx.kg _ _ (LL hd y2)⟩
          grind [World.cell?,Nat.add_assoc]
         grind
        .simp [OR]
        .have TA:=OR.low (n:=E.lim.base) e3 o' ((h.V4 id' o' e4).2 e3) (h.H id' o' e4)
         exact OR.mono hx (fun _ _=>rfl) (fun i hi=>⟨hi.1,by omega⟩) id' o' (fun hb' =>Ll id' e2 _ hb') (fun _=>hkp _) TA
        .exact OR.mono hx (fun _ _=>rfl) (fun _ h=>h) id' _ (fun hb' =>Ll id' e2 _ hb') (fun _=>hkp _) (OR.kill id e2 o1 (h.H id' o1 e4))
       .intro b' hb'
        rw [K7 (by omega)];exact h.wf b' hb'
       .intro id' o' ho'
        rcases rH id' o' ho' with ⟨rfl,rfl⟩|⟨_,rfl,rfl⟩|⟨e1,e2,e3,e4⟩|⟨e1,e2,e3,o1,e4,rfl⟩
        .obtain ⟨d1,d2⟩:=h.V4 id' _ hb
         grind [u0.K5,B6]
        .simp_all [u0.K5]
        .exact h.V4 id' o' e4
        .obtain ⟨d1,d2⟩:=h.V4 id' o1 e4
         grind [Dr,B6]
       .rw [Q7];exact h.V5
       .intro id' hn
        have:=h.bt id' hn.1
        grind
       .grind
       .intro id' hm
        grind
       all_goals grind
      .cases hr
     .cases hr
    .cases hr
   .cases hr
  .cases hr
 .cases hr
def CE (E:Env)(H:o9)(w:World)(G:Gh)(I:R3)(N:Nat->Prop)(H' :o9)(w' :World)(G' :Gh)(I' :R3)(N' :Nat->Prop):Prop :=
 ∀ H0 w0 G0 I0 N0,(E.entry=0->∀ b n pl,G0 b≠ .grow n pl)->aj E H0 w0 G0 I0 N0 H w G I N->aj E H0 w0 G0 I0 N0 H' w' G' I' N'
def aj.trn {E:Env}{H H' :o9}{w w' :World}{G G' :Gh}{I I' :R3}{N N' :Nat->Prop}(h:aj E H w G I N H' w' G' I' N'):CE E H w G I N H' w' G' I' N' :=
 fun _ _ _ _ _ _ h0=>h0.trans h
theorem CE.refl (E:Env)(H:o9)(w:World)(G:Gh)(I:R3)(N:Nat->Prop):CE E H w G I N H w G I N:=fun _ _ _ _ _ _ h=>h
theorem CE.trans {E:Env}{H0 H1 H2:o9}{w0 w1 w2:World}{G0 G1 G2:Gh}{I0 I1 I2:R3}{N0 N1 N2:Nat->Prop}
  (h:CE E H0 w0 G0 I0 N0 H1 w1 G1 I1 N1) (k:CE E H1 w1 G1 I1 N1 H2 w2 G2 I2 N2):CE E H0 w0 G0 I0 N0 H2 w2 G2 I2 N2 :=
 fun H w G I N hg hs=>k H w G I N hg (h H w G I N hg hs)
theorem gh:∀ l:List c8,(R4 l).length=l.length
 |[]=>rfl
 |_::l=>by simp [R4,gh l]
theorem nQ:∀ (l:List c8) (i:Nat),(R4 l)[i]? =(l[i]?).map c8.forget
 |[],_=>by rfl
 |_::_,0=>by rfl
 |_::l,i+1=>by simpa [R4] using nQ l i
def wH (l:List c8)(s:Nat):(R4 l).getD s .any=(l.getD s .any).forget:=by
 grind [nQ,c8.forget]
section
variable {G' :Gh} {I' :R3} {N' :Nat->Prop}
mutual
theorem VR.forget (hI:∀ id,N id->I' id=I id)(hN:∀ id,N id->N' id):∀ (pl:Place) (v:c8) (u:Value),VR G I N w pl v u->VR G' I' N' w pl v.forget u
 |_,.any,_,_=>by simp [c8.forget,VR]
 |_,.d x,_,h=>by
  cases x
  case slice n cells =>
   cases cells with
   |nil =>
    simp_all [c8.forget,VR,DR,dX]
   |cons c cs=>simp [c8.forget,VR]
  all_goals simp_all [c8.forget,VR,DR]
 |_,.ptr id off,_,h=>by
  simp_all [c8.forget,VR]
 |_,.S7 _,_,_=>by simp [c8.forget,VR]
 |_,.A8 id sz lo len,_,h=>by
  simp_all [c8.forget,VR]
 |_,.own _ _ _,_,_=>by simp [c8.forget,VR]
 |_,.N7,_,h=>by simp_all [c8.forget,VR]
 |_,.agg l,_,h=>by
  obtain ⟨cs,h1,h2⟩:=h;exact ⟨cs,h1,J5.forget hI hN l _ h2⟩
 |_,.tuple l,_,h=>by
  obtain ⟨cs,h1,h2⟩:=h;exact ⟨cs,h1,J5.forget hI hN l _ h2⟩
 |_,.func f a b,_,h=>by
  obtain ⟨x,y,h1,h2,h3⟩:=h;exact ⟨x,y,h1,J5.forget hI hN a _ h2,J5.forget hI hN b _ h3⟩
 |_,.map id,_,h=>by
  simp_all [c8.forget,VR]
theorem J5.forget (hI:∀ id,N id->I' id=I id)(hN:∀ id,N id->N' id):∀ (l:List c8) (vs:List Value),J5 G I N w l vs->J5 G' I' N' w (R4 l) vs
 |[],_,h=>by grind [R4,J5]
 |a::as,vs,h=>by
  obtain ⟨x,xs,h1,h2,h3⟩:=h;exact ⟨x,xs,h1,VR.forget hI hN .none a x h2,J5.forget hI hN as xs h3⟩
end
theorem ER.forget (hI:∀ id,N id->I' id=I id)(hN:∀ id,N id->N' id):∀ (l:List (Key×c8)) (es:List MapEntry),ER G I N w l es->ER G' I' N' w (l.map fun p=>(p.1,p.2.forget)) es
 |[],_,h=>by grind [ER]
 |(k,v)::r,es,h=>by
  obtain ⟨e,es',h1,h2,h3,h4⟩:=h;exact ⟨e,es',h1,h2,VR.forget hI hN _ _ _ h3,ER.forget hI hN r es' h4⟩
theorem OR.forget (hI:∀ id,N id->I' id=I id)(hN:∀ id,N id->N' id)(hG:∀ b id,G b= .obj id->G' b= .obj id)(id:Nat)(o:u0)(h:OR G I N w id o):OR G' I' N' w id o.forget:=by
 cases o with
 |dead=>simp [u0.forget,OR]
 |cells l =>
  simp [u0.forget,OR] at h ⊢
  grind [gh,nQ,VR.forget]
 |map es =>
  grind [u0.forget,OR,ER.forget]
end
theorem wV:∀ (cs:List c8) (k i sz len:Nat) (xs:List Data),wU cs k=some (i,sz,len,xs)->∃ j,i=k+j/\cs[j]? =some (.own sz len xs)
 |[],_,_,_,_,_,h=>by simp [wU] at h
 |c::cs,k,i,sz,len,xs,h=>by
  cases c
  case own sz' len' xs' =>
   simp_all [wU,Option.some.injEq,Prod.mk.injEq]
  all_goals
   obtain ⟨j,h1,h2⟩:=wV cs (k+1) i sz len xs (by simp_all [wU]);simp_all<;>grind
theorem Fb {b:Nat}:∀ (xs:List Data) (o i:Nat) (d:Data),dX G w b o xs->xs[i]? =some d->∃ x,w.cell? (ad b (o+i))=some x/\DR G w d x
 |[],_,_,_,_,h=>by simp at h
 |c::cs,o,0,d,hd,h=>by
  simp_all [dX]
 |c::cs,o,i+1,d,hd,h=>by
  obtain ⟨x,h1,h2⟩:=Fb cs (o+1) i d hd.2.2 (by simpa using h)
  grind
theorem Ny {G' :Gh}{d:Data}{x:Value}(hf:d.flat=true)(h:DR G w d x):DR G' w d x:=by
 cases d
 case slice n cs=>simp [Data.flat] at hf
 all_goals simp_all [DR]
theorem VV (_h:Cd P names E nt st a w G I N){b2 n2 m:Nat}{pl2:Place}(bz2:b2<w.heap.size)(k6:G b2= .grow n2 pl2)(hG:∀ b' id,G b' = .obj id->iu G b2 (.obj m) b' = .obj id)(QK:E.entry=0)(hbase:E.lim.base=0){H' :o9}{I' :R3}{N' :Nat->Prop} :
  CE E st.H w G I N H' w (iu G b2 (.obj m)) I' N' :=by
 intro H0 w0 G0 I0 N0 hg hs;have hne:∀ b',(gX G0 b' =gX G0 b')/\((G0 b' = .kg\/∃ n,G0 b' = .held n)->b' ≠b2):=fun b' =>⟨rfl,fun hi e=>by
  subst e;have:=(hs.ext.still b' hi).1;simp_all⟩
 have ak9:∀ b' o',gX G0 b' o' ->G0 b' = .kg\/∃ n,G0 b' = .held n:=fun b' o' hi=>by
  grind [gX,absurd]
 refine ⟨⟨hs.ext.os,hs.ext.tape,hs.ext.output,hs.ext.drawn,hs.ext.size,fun b' o' hi=> ?_,fun b' hi=> ?_,hs.ext.shape⟩,?_,?_,?_,?_,?_⟩
 .obtain ⟨q1,q2⟩:=hs.ext.kg b' o' hi
  grind [gX,K7]
 .obtain ⟨q1,q2⟩:=hs.ext.still b' hi
  simp_all [K7]
 .intro id hm
  obtain ⟨p1,p2⟩:=hs.ez id hm;refine ⟨fun b' hb' => ?_,fun off b' n hb' =>absurd hb' (hg QK _ _ _)⟩;simp_all
 all_goals omega
def VU (h:Cd P names E nt st a w G I N){s:Nat}(hr:MY E.lim E.entry s st=some st'):∃ G' I' N',Cd P names E nt st' a w G' I' N' /\CE E st.H w G I N st'.H w G' I' N' :=by
 unfold MY at hr;split at hr
 .rename_i b hT
  split at hr
  .rename_i cs hb
   split at hr
   .rename_i i sz len xs how
    split at hr
    .grind [CE.refl]
    split at hr
    .rename_i hl0 cI
     cases hr;obtain ⟨QK,hbase,TK,aa9⟩:=cI;obtain ⟨j,hj,hcj⟩:=wV cs 0 i sz len xs how;obtain rfl:i=j:=by omega
     have hO:=h.H b _ hb;simp only [OR] at hO;obtain ⟨hN,c,e,f,g1,g2,g3,g4,g5⟩:=hO;obtain ⟨v,v1,v2⟩:=g5 i _ hcj;simp only [VR] at v2;obtain ⟨hlen,v2⟩:=v2
     rcases v2 with ⟨_,v2⟩|⟨_,b2,o,cap,c2,e2,f2,rfl,k2,k3,k4,k5,k6,k7⟩
     .omega
     have Yg:b2<w.heap.size:=by
      grind
     have hbl:=u7 hb;have hI:∀ id,N id->(fun k=>if k=st.H.length then (b2,o) else I k) id=I id:=fun id hid=>by
      have:=h.bt id hid
      grind
     have hN' :∀ id,N id->(fun k=>N k\/k=st.H.length) id:=fun id hid=> .inl hid
     have hG:∀ b' id,G b' = .obj id->iu G b2 (.obj st.H.length) b' = .obj id:=fun b' id hb' =>by
      grind [K7]
     have rH:∀ (id' :Nat) (o' :u0),((st.H.map u0.forget).set b (.cells ((R4 cs).set i (.A8 st.H.length sz 0 len)))++[.cells (xs.map .d)])[id']? =some o' ->
       (id' =b/\o' = .cells ((R4 cs).set i (.A8 st.H.length sz 0 len)))\/(id' ≠b/\∃ o1,st.H[id']? =some o1/\o' =o1.forget)\/(id' =st.H.length/\o' = .cells (xs.map .d)):=by
      intro id' o' ho'
      rcases y4 id' st.H.length with hlt|hge
      .rw [A7 (by simpa using hlt)] at ho'
       by_cases e1:id' =b
       .grind
       grind
      .rw [s5 (by simpa using hge)] at ho'
       have h0:id' - ((st.H.map u0.forget).set b (.cells ((R4 cs).set i (.A8 st.H.length sz 0 len)))).length=0:=by
        grind
       grind
     have bu2:VR (iu G b2 (.obj st.H.length)) (fun k=>if k=st.H.length then (b2,o) else I k) (fun k=>N k\/k=st.H.length) w (.cell b i) (.A8 st.H.length sz 0 len) (.slice (some (ad b2 o)) len cap):=by
      simp only [VR,if_true,Nat.add_zero];exact ⟨.inr trivial,cap,rfl,k2,c2,e2,f2,k3,k4⟩
     refine ⟨iu G b2 (.obj st.H.length),fun k=>if k=st.H.length then (b2,o) else I k,fun k=>N k\/k=st.H.length,⟨?_,?_,?_,?_,?_,?_,?_,h.size,h.idle⟩,?_⟩
     .intro s' t ht
      simp only [wH];exact VR.forget hI hN' _ _ _ (h.T s' t ht)
     .intro id' o' ho'
      rcases rH id' o' ho' with ⟨rfl,rfl⟩|⟨_,o1,h1,rfl⟩|⟨rfl,rfl⟩
      .have hk:=OR.forget hI hN' hG id' _ (h.H id' _ hb)
       simp only [u0.forget,OR] at hk ⊢;obtain ⟨q0,c3,e3,f3,q1,q2,q3,q4,q5⟩:=hk;refine ⟨q0,c3,e3,f3,q1,q2,q3,by simpa using q4,fun i' x' hx' => ?_⟩
       by_cases ei:i' =i
       all_goals grind
      .exact OR.forget hI hN' hG id' _ (h.H id' o1 h1)
      .simp only [OR,if_true]
       refine ⟨.inr trivial,c2,e2,f2,k3,oM _ _ _,k5,?_,fun i' x' hx' => ?_⟩
       .have:=Nat.mul_le_mul_right sz k2
        grind
       .rw [List.getElem?_map] at hx'
        cases hd:xs[i']? with
        |none=>grind
        |some d =>
         grind [Fb,World.cell?,VR,Ny,L9,List.mem_of_getElem?]
     .intro b' hb'
      rw [K7 (by omega)];exact h.wf b' hb'
     .intro id' o' ho'
      omega
     .rw [gh];exact h.V5
     .intro id' hn
      rcases hn with hn|rfl
      .have:=h.bt id' hn
       grind
      .simp
     all_goals grind [VV]
    .cases hr
   .cases hr
  .cases hr
 .rename_i sz len xs hT
  split at hr
  .grind [CE.refl]
  split at hr
  .rename_i hl0 cI
   cases hr;obtain ⟨QK,hbase,TK,aa9⟩:=cI;have wM:=u7 hT;have hlt:=h.V5;obtain ⟨t,ht⟩:∃ t,names[s]? =some t:=⟨_,l6 (by omega)⟩;have v2:=h.T s t ht;rw [List.getD_eq_getElem?_getD,hT,Option.getD_some] at v2;simp only [VR] at v2;obtain ⟨hlen,v2⟩:=v2
   rcases v2 with ⟨_,v2⟩|⟨_,b2,o,cap,c2,e2,f2,hv,k2,k3,k4,k5,k6,k7⟩
   .omega
   have Yg:b2<w.heap.size:=by
    grind
   have hI:∀ id,N id->(fun k=>if k=st.H.length then (b2,o) else I k) id=I id:=fun id hid=>by
    have:=h.bt id hid
    grind
   have hN' :∀ id,N id->(fun k=>N k\/k=st.H.length) id:=fun id hid=> .inl hid
   have hG:∀ b' id,G b' = .obj id->iu G b2 (.obj st.H.length) b' = .obj id:=fun b' id hb' =>by
    grind [K7]
   refine ⟨iu G b2 (.obj st.H.length),fun k=>if k=st.H.length then (b2,o) else I k,fun k=>N k\/k=st.H.length,⟨?_,?_,?_,?_,?_,?_,?_,h.size,h.idle⟩,VV h Yg k6 hG QK hbase⟩
   .intro s' t' ht'
    by_cases e:s' =s
    .simp_all [List.getD_eq_getElem?_getD,O0,gh,Option.getD_some,VR,if_true,Nat.add_zero,trivial]
    .rw [List.getD_eq_getElem?_getD,D3 (fun h=>e h.symm),<- List.getD_eq_getElem?_getD,wH]
     exact VR.forget hI hN' _ _ _ (h.T s' t' ht')
   .intro id' o' ho'
    rcases y4 id' st.H.length with hlt' |hge
    .rw [A7 (by simp_all),List.getElem?_map] at ho'
     cases h1:st.H[id']? with
     |none=>simp_all
     |some o1 =>
      rw [h1] at ho';cases ho';exact OR.forget hI hN' hG id' _ (h.H id' o1 h1)
    .rw [s5 (by simpa using hge)] at ho'
     have h0:id' - (st.H.map u0.forget).length=0:=by
      grind
     rw [h0] at ho';simp only [B0] at h0;simp only [List.getElem?_cons_zero,Option.some.injEq] at ho';obtain rfl:id' =st.H.length:=by omega
     subst ho';simp only [OR,if_true];refine ⟨.inr trivial,c2,e2,f2,k3,oM _ _ _,k5,?_,fun i' x' hx' => ?_⟩
     .have:=Nat.mul_le_mul_right sz k2
      grind
     .rw [List.getElem?_map] at hx'
      cases hd:xs[i']? with
      |none=>simp_all
      |some d =>
       grind [Fb,World.cell?,VR,Ny,L9,List.mem_of_getElem?]
   .intro b' hb'
    rw [K7 (by omega)];exact h.wf b' hb'
   .intro id' o' ho'
    omega
   .simp_all [List.length_set,gh]
   .intro id' hn
    rcases hn with hn|rfl
    .have:=h.bt id' hn
     grind
    .simp
   omega
  .cases hr
 .cases hr
def aj0 (h:Cd P names E nt st a w G I N){s:Nat}(hr:nR E.lim E.entry s st=some st'):∃ G' I' N',Cd P names E nt st' a w G' I' N' /\CE E st.H w G I N st'.H w G' I' N' :=by
 unfold nR at hr;split at hr
 .rename_i r h1
  cases hr;obtain ⟨G',N',h2,h3⟩:=Tv h h1;exact ⟨G',I,N',h2,h3.trn⟩
 .exact VU h hr
end
end Go.x9


import Derived.Test.YtibjocmpkoepoaaGreatB0
import Derived.Orders
set_option linter.all false
open Bool renaming and_eq_true → c9, eq_false_or_eq_true → A7, false_eq_true → j5, not_eq_true' → o8, or_eq_false_iff → E6, or_eq_true → L5
open List renaming all_eq_true → L1, append_assoc → A9, getElem?_append_left → q7, getElem?_append_right → p7, getElem?_eq_getElem → l5, getElem?_eq_none → H6, getElem?_set_ne → y9, getElem?_set_self → J8, length_append → n9, length_cons → q6, length_map → A1, length_nil → B0, map_cons → E0, mem_append_left → M1, mem_cons → y7, replicate → j4, set_cons_succ → y6
open Nat renaming le_refl → o5, le_trans → B5, lt_or_ge → s5, mul_le_mul_right → M3, zero_le → N6
open Option renaming isSome_iff_exists → E8, map_some → E2
namespace Go.Abs
variable [D5]
mutual
theorem VR.kill {G:Gh}{I:Q9}{N:Nat->Prop}{w:World}(id:Nat):∀ (pl:Place) (a:j3) (x:Value),VR G I N w pl a x->VR G I (fun i=>N i/\i≠id) w pl (a.kill id) x
 |_,.any,_,_=>by simp [j3.kill,VR]
 |_,.d _,_,h=>by simpa [j3.kill,VR] using h
 |_,.ptr i o,x,h=>by
  unfold j3.kill;split
  .simp [VR]
  .rename_i hne
   simp only [VR] at h ⊢;exact ⟨⟨h.1,hne⟩,h.2⟩
 |_,.S9 _,_,h=>by simpa [j3.kill,VR] using h
 |_,.B6 i z lo n,x,h=>by
  unfold j3.kill;split
  .simp [VR]
  .rename_i hne
   simp only [VR] at h ⊢;exact ⟨⟨h.1,hne⟩,h.2⟩
 |_,.own _ _ _,_,h=>by simpa only [j3.kill,VR] using h
 |_,.P5,_,h=>by simpa only [j3.kill,VR] using h
 |_,.agg l,x,h=>by
  simp only [j3.kill,VR] at h ⊢;obtain ⟨cs,h1,h2⟩:=h;exact ⟨cs,h1,H8.kill id l _ h2⟩
 |_,.tuple l,x,h=>by
  simp only [j3.kill,VR] at h ⊢;obtain ⟨cs,h1,h2⟩:=h;exact ⟨cs,h1,H8.kill id l _ h2⟩
 |_,.func f a b,x,h=>by
  simp only [j3.kill,VR] at h ⊢;obtain ⟨u,v,h1,h2,h3⟩:=h;exact ⟨u,v,h1,H8.kill id a _ h2,H8.kill id b _ h3⟩
 |_,.map i,x,h=>by
  unfold j3.kill;split
  .simp [VR]
  .rename_i hne
   simp only [VR] at h ⊢;exact ⟨⟨h.1,hne⟩,h.2⟩
theorem H8.kill {G:Gh}{I:Q9}{N:Nat->Prop}{w:World}(id:Nat):∀ (l:List j3) (xs:List Value),H8 G I N w l xs->H8 G I (fun i=>N i/\i≠id) w (N4 id l) xs
 |[],_,h=>by simpa [N4,H8] using h
 |a::as,xs,h=>by
  simp only [N4,H8] at h ⊢;obtain ⟨x,xs',h1,h2,h3⟩:=h;exact ⟨x,xs',h1,VR.kill id _ a x h2,H8.kill id as xs' h3⟩
end
mutual
theorem VR.low {G:Gh}{I:Q9}{N:Nat->Prop}{w:World}(n:Nat):∀ (pl:Place) (a:j3) (x:Value),a.L7<=n->VR G I N w pl a x->VR G I (fun i=>N i/\i<n) w pl a x
 |_,.any,_,_,_=>by simp [VR]
 |_,.d _,_,_,h=>by simpa [VR] using h
 |_,.ptr i o,x,hb,h=>by simp only [j3.L7] at hb;simp only [VR] at h ⊢;exact ⟨⟨h.1,by omega⟩,h.2⟩
 |_,.S9 _,_,_,h=>by simpa [VR] using h
 |_,.B6 i z lo n',x,hb,h=>by simp only [j3.L7] at hb;simp only [VR] at h ⊢;exact ⟨⟨h.1,by omega⟩,h.2⟩
 |_,.own _ _ _,_,_,h=>by simpa only [VR] using h
 |_,.P5,_,_,h=>by simpa only [VR] using h
 |_,.agg l,x,hb,h=>by
  simp only [j3.L7] at hb;simp only [VR] at h ⊢;obtain ⟨cs,h1,h2⟩:=h;exact ⟨cs,h1,H8.low n l _ hb h2⟩
 |_,.tuple l,x,hb,h=>by
  simp only [j3.L7] at hb;simp only [VR] at h ⊢;obtain ⟨cs,h1,h2⟩:=h;exact ⟨cs,h1,H8.low n l _ hb h2⟩
 |_,.func f a b,x,hb,h=>by
  simp only [j3.L7] at hb;simp only [VR] at h ⊢;obtain ⟨u,v,h1,h2,h3⟩:=h;exact ⟨u,v,h1,H8.low n a _ (by omega) h2,H8.low n b _ (by omega) h3⟩
 |_,.map i,x,hb,h=>by simp only [j3.L7] at hb;simp only [VR] at h ⊢;exact ⟨⟨h.1,by omega⟩,h.2⟩
theorem H8.low {G:Gh}{I:Q9}{N:Nat->Prop}{w:World}(n:Nat):∀ (l:List j3) (xs:List Value),B8 l<=n->H8 G I N w l xs->H8 G I (fun i=>N i/\i<n) w l xs
 |[],_,_,h=>by simpa [H8] using h
 |a::as,xs,hb,h=>by
  simp only [B8] at hb;simp only [H8] at h ⊢;obtain ⟨x,xs',h1,h2,h3⟩:=h;exact ⟨x,xs',h1,VR.low n _ a x (by omega) h2,H8.low n as xs' (by omega) h3⟩
end
section
variable {P:Program} {X:Cx} {l:F2} {S:Nat->Prop} {st:F4} {a:Act} {w w' :World} {G:Gh} {I:Q9} {N:Nat->Prop} {D:Nat->Bool} {l6:List p9}
theorem ER.kill (id:Nat):∀ (es:List (Key×j3)) (xs:List MapEntry),ER G I N w es xs->ER G I (fun i=>N i/\i≠id) w (es.map fun p=>(p.1,p.2.kill id)) xs
 |[],_,h=>by simpa [ER] using h
 |(k,v)::r,xs,h=>by
  simp only [E0,ER] at h ⊢;obtain ⟨e,es',h1,h2,h3,h4⟩:=h;exact ⟨e,es',h1,h2,VR.kill id _ v _ h3,ER.kill id r es' h4⟩
theorem ER.low (n:Nat):∀ (es:List (Key×j3)) (xs:List MapEntry),B8 (es.map (·.2))<=n->ER G I N w es xs->ER G I (fun i=>N i/\i<n) w es xs
 |[],_,_,h=>by simpa [ER] using h
 |(k,v)::r,xs,hb,h=>by
  simp only [E0,B8] at hb;simp only [ER] at h ⊢;obtain ⟨e,es',h1,h2,h3,h4⟩:=h;exact ⟨e,es',h1,h2,VR.low n _ v _ (by omega) h3,ER.low n r es' (by omega) h4⟩
theorem fI (id:Nat):∀ (l:List j3) (i:Nat),(N4 id l)[i]? =(l[i]?).map (j3.kill id)
 |[],i=>by simp [N4]
 |v::vs,0=>by simp [N4]
 |v::vs,i+1=>by simp [N4,fI id vs i]
theorem S5 (id:Nat)(l:List j3):(N4 id l).length=l.length:=by
 induction l with
 |nil=>rfl
 |cons v vs ih=>simp [N4,ih]
def uN (id:Nat)(l:List j3)(i:Nat):(N4 id l).getD i .any=(l.getD i .any).kill id:=by
 simp only [List.getD,fI];cases l[i]? <;>simp [j3.kill]
mutual
theorem Gx (id:Nat):∀ (a:j3),(a.kill id).L7<=a.L7
 | .any=>by simp [j3.kill]
 | .d _=>by simp [j3.kill]
 | .ptr i o=>by unfold j3.kill;split<;>simp [j3.L7]
 | .S9 _=>by simp [j3.kill]
 | .B6 i z lo n=>by unfold j3.kill;split<;>simp [j3.L7]
 | .own _ _ _=>by simp [j3.kill]
 | .P5=>by simp [j3.kill]
 | .agg l=>by simp only [j3.kill,j3.L7];exact dD id l
 | .tuple l=>by simp only [j3.kill,j3.L7];exact dD id l
 | .func f a b=>by
  simp only [j3.kill,j3.L7];have:=dD id a;have:=dD id b;omega
 | .map i=>by unfold j3.kill;split<;>simp [j3.L7]
theorem dD (id:Nat):∀ (l:List j3),B8 (N4 id l)<=B8 l
 |[]=>by simp [N4]
 |v::vs=>by
  simp only [N4,B8];have:=Gx id v;have:=dD id vs;omega
end
theorem Cs (id:Nat):∀ (es:List (Key×j3)),B8 ((es.map fun p=>(p.1,p.2.kill id)).map (·.2))<=B8 (es.map (·.2))
 |[]=>by simp
 |(k,v)::r=>by
  simp only [E0,B8];have:=Gx id v;have:=Cs id r;omega
theorem Dd (id:Nat)(o:x9):(o.kill id).L7<=o.L7:=by
 cases o with
 |dead=>simp [x9.kill]
 |cells l=>simpa [x9.kill,x9.L7] using dD id l
 |map es=>simpa only [x9.kill,x9.L7] using Cs id es
theorem OR.kill (id:Nat){id' :Nat}(hne:id' ≠id)(o:x9)(h:OR G I N w id' o):OR G I (fun i=>N i/\i≠id) w id' (o.kill id):=by
 cases o with
 |dead=>simp [x9.kill,OR]
 |cells l0 =>
  simp only [x9.kill,OR] at h ⊢;obtain ⟨hN,c,e,f,h1,h2,h3,h4,h5⟩:=h
  .refine ⟨⟨hN,hne⟩,c,e,f,h1,h2,h3,by rw [S5];exact h4,fun i x hx=> ?_⟩
   rw [fI] at hx;cases hl:l0[i]? with
   |none=>simp [hl] at hx
   |some y =>
    simp [hl] at hx;subst hx;obtain ⟨v,g1,g2⟩:=h5 i y hl;exact ⟨v,g1,VR.kill id _ y v g2⟩
 |map es =>
  simp only [x9.kill,OR] at h ⊢;obtain ⟨hN,arr,dX,h1,h2,h3,h4⟩:=h;exact ⟨⟨hN,hne⟩,arr,dX,h1,h2,ER.kill id es _ h3,h4⟩
theorem sx:∀ (l:List j3) (i:Nat) (x:j3),l[i]? =some x->x.L7<=B8 l
 |[],_,_,h=>by simp at h
 |v::vs,0,x,h=>by simp at h;subst h;simp only [B8];omega
 |v::vs,i+1,x,h=>by have:=sx vs i x (by simpa using h);simp only [B8];omega
theorem OR.low {id n:Nat}(hn:id<n)(o:x9)(hb:o.L7<=n)(h:OR G I N w id o):OR G I (fun i=>N i/\i<n) w id o:=by
 cases o with
 |dead=>simp [OR]
 |cells l0 =>
  simp only [OR] at h ⊢;obtain ⟨hN,c,e,f,h1,h2,h3,h4,h5⟩:=h
  .refine ⟨⟨hN,hn⟩,c,e,f,h1,h2,h3,h4,fun i x hx=> ?_⟩
   obtain ⟨v,g1,g2⟩:=h5 i x hx;exact ⟨v,g1,VR.low n _ x v (by simp only [x9.L7] at hb;exact B5 (sx _ _ _ hx) hb) g2⟩
 |map es =>
  simp only [OR] at h ⊢;obtain ⟨hN,arr,dX,h1,h2,h3,h4⟩:=h;exact ⟨⟨hN,hn⟩,arr,dX,h1,h2,ER.low n es _ (by simpa [x9.L7] using hb) h3,h4⟩
end
end Go.Abs
namespace Go.Abs
variable [D5]
section
variable {P:Program} {X:Cx} {l:F2} {S:Nat->Prop} {st:F4} {a:Act} {w w' :World} {G G' :Gh} {I I' :Q9} {N:Nat->Prop} {D:Nat->Bool} {l6:List p9}
def pn (H:q8)(base id:Nat)(o:x9):q8:=(H.take base++(H.drop base).map (x9.kill id)).set id o
def wk {H:q8}{base id:Nat}{o:x9}(hid:id<H.length){id' :Nat}{o' :x9}(h:(pn H base id o)[id']? =some o') :
  (id' =id/\o' =o)\/(id' ≠id/\id' <base/\H[id']? =some o')\/(id' ≠id/\base<=id' /\∃ o0,H[id']? =some o0/\o' =o0.kill id):=by
 unfold pn at h;have hlen:(H.take base++(H.drop base).map (x9.kill id)).length=H.length:=by simp;omega
 by_cases he:id' =id
 .simp_all
 .by_cases hb:id' <base
  .grind
  .by_cases hl:base<=H.length
   .grind
   grind
def bE.TR (h:RI X l S st a w G I N){k:Nat}(hk:¬ S k)(Z9:k<st.L.length){entry id:Nat}{o0:x9}(h0:st.H[id]? =some o0)(hbase:l.base<=id)(QC:entry<=id)(hmay:l.may id=true)
  (hx:Ext G w G' w') (hkp:∀ q,aK q G w G' w') (ho:∀ id',id' ≠id->∀ b,G b= .obj id' ->G' b= .obj id' /\w'.heap[b]? =w.heap[b]?) (hwf:WF G' w') (hI:∀ i,i≠id->I' i=I i)
  {cs:List j3} (QF:OR G' I' N w' id (.cells cs)) (rJ:B8 cs<=max o0.L7 (id+1)) {v:j3} {x:Value} (hv:VR G' I' N w' (.loc k) v x) (p6:List Touch) (Hx:p6.any (Touch.J3 id)=true) :
  bE X l S entry st a w G I N (put { T:=N4 id st.T,H:=pn st.H l.base id (.cells cs),L:=N4 id st.L,p6 } k v) k x w' G' I' N:=by
 have hid:=r9 h0;have hI' :∀ i,(N i/\i≠id)->I' i=I i:=fun i hi=>hI i hi.2
 have hNN:∀ i,(N i/\i≠id)->N i:=fun i hi=>hi.1
 have vr:∀ {pl:Place} {b:j3} {u:Value},VR G I N w pl b u->VR G' I' N w' pl (b.kill id) u :=
  fun hb=>VR.mono hx hI' hNN _ _ _ (Or.inr (hkp _)) (VR.kill id _ _ _ hb)
 refine ⟨⟨?_,?_,?_,hwf,?_⟩,?_,hx,?_,?_,?_,fun _ h=>h,?_,?_⟩
 .intro s t ht
  simp only [Abs.put,uN];exact vr (h.T s t ht)
 .intro j hj d hd hn
  have:k≠j:=by grind
  simp only [Abs.put];rw [N8 _ _ _ _ _ this,uN];exact vr (h.L j hj d hd hn)
 .intro id' o' ho'
  rcases wk hid ho' with ⟨rfl,rfl⟩|⟨hne,hb,hold⟩|⟨hne,hb,o1,hold,rfl⟩
  .exact QF
  .have Tt:=OR.low (n:=l.base) hb o' ((h.U7 id' o' hold).2 hb) (h.H id' o' hold)
   exact OR.mono hx (fun i hi=>hI i (by omega)) (fun i hi=>hi.1) id' o' (fun hb' =>ho id' hne _ hb') (fun _=>hkp _) Tt
  .exact OR.mono hx hI' hNN id' _ (fun hb' =>ho id' hne _ hb') (fun _=>hkp _) (OR.kill id hne o1 (h.H id' o1 hold))
 .intro id' o' ho'
  rcases wk hid ho' with ⟨rfl,rfl⟩|⟨hne,hb,hold⟩|⟨hne,hb,o1,hold,rfl⟩
  .obtain ⟨d1,d2⟩:=h.U7 id' o0 h0
   grind [x9.L7]
  .exact h.U7 id' o' hold
  .obtain ⟨d1,d2⟩:=h.U7 id' o1 hold
   grind [Dd]
 .simp_all [Abs.put,M4,S5]
 .intro id' hm
  grind
 .grind [Abs.put]
 all_goals grind [Abs.put,pn]
def wv {cs:List j3}{vs:List Value}(h:cs.all j3.one=true)(hv:H8 G I N w cs vs):LR vs:=mb _ _ h hv
def BU (h:RI X l S st a w G I N)(hD:∀ j,D j=true->S j){k:Nat}(hk:¬ S k)(Z9:k<st.L.length){o:Oper}{sz bytes:Nat}{ob:Bool}{x y:u9}
  (hc:dF P (X.ck D) o (.append sz bytes ob x y)=true) {E:Env} (hE:E.lim=l) {id lo len:Nat} (hx:G9 st.T st.L x= .B6 id sz lo len) {st' :F4} (he:V6 E k sz bytes st id lo len (G9 st.T st.L y)=some st') :
  ∃ v w' G' I',(execOp a.eval o).run P w= .ok (.value v) w' /\bE X l S E.entry st a w G I N st' k v w' G' I' N:=by
 obtain ⟨x0,y0,t,t2,e,i,z,hop,Nn,hcy,ht2,hsz,hu,hi,hsi,hbi,hz,hzs,hbp⟩:=cV hc;unfold V6 at he;rw [hE] at he;split at he
 .rename_i aV
  split at he
  .rename_i l0 m cs hl0 hcs
   split at he
   .rename_i Lq
    obtain ⟨rfl,hlen,hroom,aw9,hone,_⟩:=Lq;cases he;obtain ⟨vn,hl,hf,Nq,hcl⟩:=pX (P:=P) h.H (h.Q0 hD _ _ hcy) hsz hcs;have hval:=h.Q0 hD _ _ Nn;rw [hx] at hval;simp only [VR] at hval;obtain ⟨Tp,cap,hx0,hcap,c,e',f,hb,Nk⟩:=hval;have nL:(execOp a.eval o).run P w=((Builtin.append_ #[t,t2] o.type #[a.eval x0,a.eval y0]).run P w).andThen fun v w' => .ok (.value v) w' :=by
     obtain ⟨dst,cn,ty,pos,after,guard⟩:=o;simp only at hop;subst hop;simp [execOp,resolve,invoke,builtin]
    have qF:vn.length=m * sz:=by rw [H8.length _ _ Nq,hcl]
    subst hsi hbi;have hO:=h.H id _ hl0;simp only [OR] at hO;obtain ⟨_,c0,e0,f0,h1,EU,hnf,aT9,h5⟩:=hO;rw [hb] at h1;cases h1;have rJ:B8 (N4 id l0++cs)<=max (x9.cells l0).L7 (id+1):=by
     rw [dA];have:=dD id l0;simp only [x9.L7];omega
    have Ht:=wv hone Nq;have vrk:∀ {pl:Place} {b:j3} {u:Value},VR G I N w pl b u->VR G I N w pl (b.kill id) u :=
     fun hb=>VR.mono (Ext.refl _ _).sub (fun _ _=>rfl) (fun i hi=>hi.1) _ _ _ (Or.inr (fun _ _ h=>⟨h,rfl⟩)) (VR.kill id _ _ _ hb)
    by_cases hfit:len+m<=cap
    ·
     have hrun:=cK (P:=P) (w:=w) (ty:=o.type) hu hi ht2 (base:=some (ad (I id).1 ((I id).2+0))) (sLen:=len) (sCap:=cap) hl (hf w rfl) hfit;have hbig:(len+m) * i.size<=cap * i.size:=M3 _ hfit;rw [Nat.add_mul] at hbig;have ah9:(I id).2+len * i.size+vn.length<=c.size:=by omega
     have hst:=run_storeCells_at (P:=P) (I id).1 ((I id).2+0+len * i.size) e' f vn 0 c w hb hnf (by omega) Ht;have nM :(I id).2+0+len * i.size+vn.length<=c.toList.length:=by simp;omega
     have nK :(J4 c.toList ((I id).2+0+len * i.size) vn).toArray.size=c.size:=by rw [List.size_toArray,jC _ _ _ nM,Array.length_toList]
     have hw:=vA (G:=G) hb EU nK;refine ⟨.slice (some (ad (I id).1 ((I id).2+0))) (len+m) cap,w.setRow (I id).1 (J4 c.toList ((I id).2+0+len * i.size) vn).toArray,G,I,?_,
      bE.TR h hk Z9 hl0 aV.1 aV.2.1 aV.2.2 hw.ext hw.keeps (fun id' hne=>hw.xI hne) (fun b' hb' =>h.wf b' (by rw [<- hw.size];exact hb')) (fun _ _=>rfl) ?_ rJ ?_ (.obj id::st.p6) (by simp [Touch.J3])⟩
     .rw [nL,hx0,hrun]
      simp only [Z7];simp only [Nat.add_zero] at hst ⊢;rw [hst];rfl
     .simp only [OR]
      have mono:∀ {pl:Place} {b:j3} {u:Value},VR G I N w pl b u->VR G I N (w.setRow (I id).1 (J4 c.toList ((I id).2+0+len * i.size) vn).toArray) pl b u :=
       fun hq=>VR.mono hw.ext (fun _ _=>rfl) (fun _ h=>h) _ _ _ (Or.inr (hw.keeps _)) hq
      refine ⟨Tp,_,e',f,setRow_heap w _ c _ e' f hb,EU,by rw [nK];exact hnf,?_,fun j b hj=> ?_⟩
      .rw [nK,n9,S5,hcl];omega
      .rw [show (J4 c.toList ((I id).2+0+len * i.size) vn).toArray[(I id).2+j]? =(J4 c.toList ((I id).2+0+len * i.size) vn)[(I id).2+j]? from by simp,gw _ _ _ nM]
       have hjl:=r9 hj;rw [n9,S5,hcl] at hjl
       by_cases No:j<l0.length
       .rw [q7 (by rw [S5];exact No),fI] at hj
        rw [if_pos (by omega)];rw [l5 No] at hj;simp at hj;subst hj;obtain ⟨v,g1,g2⟩:=h5 j _ (l5 No);exact ⟨v,by simpa using g1,mono (vrk g2)⟩
       .rw [p7 (by rw [S5];omega),S5] at hj
        rw [if_neg (by omega),if_pos (by omega)];obtain ⟨u,r1,r2⟩:=H8.get _ _ Nq (j - l0.length) b hj;exact ⟨u,by rw [show (I id).2+j - ((I id).2+0+len * i.size)=j - l0.length from by omega];exact r1,mono r2.place⟩
     .simp only [VR]
      exact ⟨Tp,cap,rfl,hfit,_,e',f,setRow_heap w _ c _ e' f hb,by rw [nK];exact Nk⟩
    ·
     have hlt:cap<len+m:=by omega
     have Ts:∃ vo:List Value,vo.length=len * i.size/\(∀ w2:World,w2.heap=w.heap->(Builtin.firstCells i.size len (.slice (some (ad (I id).1 ((I id).2+0))) len cap)).run P w2= .ok vo.toArray w2) /\
       (∀ (j:Nat) b,l0[j]? =some b->∃ v,vo[j]? =some v/\VR G I N w (.cell id j) b v):=by
      refine ⟨(List.range (len * i.size)).map (fun j=>(c[(I id).2+j]?).getD default),by simp,fun w2 Lv=> ?_,fun j b hj=> ?_⟩
      .have:=run_loadCells_list (P:=P) w2 (ad (I id).1 ((I id).2+0)) ((List.range (len * i.size)).map (fun j=>(c[(I id).2+j]?).getD default)) (fun j v hj=>by
        have hjn:j<len * i.size:=by
         rcases s5 j (len * i.size) with h|h
         .exact h
         .simp [h] at hj
        simp [hjn] at hj;rw [Z7,fC Lv,S1 hb];have hlt:(I id).2+j<c.size:=by omega
        simp [hlt] at hj ⊢;exact hj)
       simpa [Builtin.firstCells] using this
      .have hjn:j<len * i.size:=by have:=r9 hj;omega
       obtain ⟨u,g1,g2⟩:=h5 j b hj;exact ⟨u,by simp [hjn,g1],g2⟩
     obtain ⟨vo,ai5,ai6,ai7⟩:=Ts;obtain ⟨cH,zH,hrun⟩:=eH (P:=P) (w:=w) (ty:=o.type) hu hi hz ht2 (base:=some (ad (I id).1 ((I id).2+0))) (sLen:=len) (sCap:=cap) hl (hf w.drew rfl) (ai6 w.drew rfl) hlt (yd hroom hbp) (pK hroom hlt);have hnb:iG w (w.drew.alloc (.cells (vo.toArray++vn.toArray++Builtin.zeroCells z.cells (cH - (len+m))) e)) (.cells (vo.toArray++vn.toArray++Builtin.zeroCells z.cells (cH - (len+m))) e):=by
      have:=iG.alloc w.drew (.cells (vo.toArray++vn.toArray++Builtin.zeroCells z.cells (cH - (len+m))) e);exact ⟨this.os,this.tape,this.output,B5 (Nat.le_succ _) this.drawn,this.size,this.old,this.new⟩
     have hsize:(vo.toArray++vn.toArray++Builtin.zeroCells z.cells (cH - (len+m))).size=cH * i.size:=by
      simp only [Array.size_append,List.size_toArray,tU,hzs,ai5,qF];have:cH * i.size=(len+m) * i.size+(cH - (len+m)) * i.size:=by rw [<- Nat.add_mul];congr 1;omega
      rw [this,Nat.add_mul]
     refine ⟨.slice (some (ad w.heap.size 0)) (len+m) cH,_,fV G w.heap.size (.obj id),oB I id (w.heap.size,0),?_,
      bE.TR h hk Z9 hl0 aV.1 aV.2.1 aV.2.2 (hnb.ext h.wf _) (hnb.keeps h.wf _) (fun id' _=>hnb.xI h.wf _ id') (hnb.wf h.wf _) (fun i hi=>bU hi) ?_ rJ ?_ (.obj id::st.p6) (by simp [Touch.J3])⟩
     .rw [nL,hx0,hrun];rfl
     .simp only [OR]
      have mono:∀ {pl:Place} {b:j3} {u:Value},VR G I N w pl b u->VR (fV G w.heap.size (.obj id)) (oB I id (w.heap.size,0)) N _ pl (b.kill id) u :=
       fun hq=>VR.mono (hnb.ext h.wf _).sub (fun i hi=>bU hi.2) (fun i hi=>hi.1) _ _ _ (Or.inr (hnb.keeps h.wf _ _)) (VR.kill id _ _ _ hq)
      refine ⟨Tp,_,e,(0,0),by rw [V9];exact hnb.new,by simp,lz _,?_,fun j b hj=> ?_⟩
      .rw [hsize]
       simp only [V9,n9,S5,hcl];have:(len+m) * i.size<=cH * i.size:=M3 _ zH;rw [Nat.add_mul] at this;omega
      .have hjl:=r9 hj
       rw [n9,S5,hcl] at hjl;simp only [V9,Nat.zero_add];rw [show (vo.toArray++vn.toArray++Builtin.zeroCells z.cells (cH - (len+m)))[j]? =(vo++vn++(Builtin.zeroCells z.cells (cH - (len+m))).toList)[j]? from by rw [<- Array.getElem?_toList];simp,
        q7 (by rw [n9];omega)]
       by_cases No:j<l0.length
       .rw [q7 (by rw [S5];exact No),fI] at hj
        rw [q7 (by omega)];rw [l5 No] at hj;simp at hj;subst hj;obtain ⟨v,g1,g2⟩:=ai7 j _ (l5 No);exact ⟨v,g1,mono g2⟩
       .rw [p7 (by rw [S5];omega),S5] at hj
        rw [p7 (by omega)];obtain ⟨u,r1,r2⟩:=H8.get _ _ Nq (j - l0.length) b hj;refine ⟨u,by rw [show j - vo.length=j - l0.length from by omega];exact r1,?_⟩;have hb' :b.L7<=id:=B5 (sx _ _ _ hj) aw9;exact (VR.mono (hnb.ext h.wf _).sub (fun i hi=>bU (by have:=hi.2;omega)) (fun i hi=>hi.1) _ _ _ (Or.inl rfl) (VR.low id _ _ _ hb' r2)).place
     .simp only [VR]
      refine ⟨Tp,cH,by simp,zH,_,e,(0,0),by rw [V9];exact hnb.new,?_⟩;rw [hsize];simp
   .cases he
  .cases he
 .cases he
end
end Go.Abs
namespace Go.Abs
variable [D5]
section
variable {P:Program} {X:Cx} {l:F2} {S:Nat->Prop} {st:F4} {a:Act} {w w' :World} {G G' :Gh} {I I' :Q9} {N:Nat->Prop} {D:Nat->Bool} {l6:List p9}
def KX (P:Program)(ck:Operand->u9->Bool)(o:Oper)(op:z6):Bool :=
 match o.op,op with
 | .mapUpdate t m k v,.dw kk m' k' v' =>ck m m' &&ck k k' &&ck v v' &&(match P.underlying t with
  |some (.map kt _)=>uS P kt kk
  |_=>false)
 |_,_=>false
theorem yQ:∀ {ks:List CK} {l m:List KD},P0 ks (l.map KD.av) (m.map KD.av)=some true->l=m
 |[],[],[],_=>rfl
 |[],_::_,_,h=>by simp [P0] at h
 |[],[],_::_,h=>by simp [P0] at h
 |k::ks,[],m,h=>by simp [P0] at h
 |k::ks,x::l,[],h=>by simp_all [P0,KD.av]
 |k::ks,x::l,y::m,h=>by
  have hd:∀ (a b:Data),KD.av x= .d a->KD.av y= .d b->P0 (k::ks) (.d a::l.map KD.av) (.d b::m.map KD.av)=some true->x=y/\l=m:=by
   intro a b ha hb h;simp [P0] at h;split at h
   .split at h
    .rename_i u hu
     simp at h;obtain ⟨rfl,rfl⟩:=h;refine ⟨?_,yQ hu⟩;simp_all [KD.av,Data.Ev]<;>grind
    .cases h
   .cases h
  simp_all [KD.av]<;>grind
def LD {kk:KK}{a b:Key}(h:Data.aW kk a b=some true):a=b:=by
 unfold Data.aW at h
 grind [yQ]
def TM (k:Key):Instr.sameBits 10000 k.val k.val=true:=by
 have h:∀ x:KD,Instr.sameBits 9999 x.val x.val=true:=by intro x;cases x<;>simp [KD.val,Instr.sameBits,beq_toListBytes]
 cases k<;>simp [Key.val,Instr.sameBits,beq_toListBytes]
 grind
theorem NP {kk:KK}{t:TypeId}{d:TypeDesc}(ht:uS P t kk=true)(hd:P.underlying t=some d){key:Key}{nv:j3}{x:Value}(hx:VR G I N w .none nv x) :
  ∀ (es:List (Key×j3)) (xs:List MapEntry) (i:Nat) (es' :List (Key×j3)),ER G I N w es xs->bK kk key nv es=some es' ->
   (qo (mG P w t d key.val kk) xs i none/\∀ born,ER G I N w es' (xs++[{ key:=key.val,val:=x,born }])) \/
   (∃ j v0,qo (mG P w t d key.val kk) xs i (some (i+j,v0))/\(∃ e0,xs[j]? =some e0/\e0.key=key.val)/\ER G I N w es' (xs.modify j fun e=>{ e with key:=key.val,val:=x }))
 |[],xs,i,es',hE,h=>by
  subst hE;simp [bK] at h;refine Or.inl ⟨rfl,fun born=> ?_⟩
  grind [ER]
 |(k',v')::rest,xs,i,es',hE,h=>by
  obtain ⟨e,ys,rfl,h2,h3,h4⟩:=hE;unfold bK at h;split at h
  .rename_i hk
   have he:=LD hk;subst he;refine Or.inr ⟨0,e.val,.inl ⟨by simp_all [tE],rfl⟩,⟨e,rfl,h2⟩,?_⟩
   grind [List.modify_zero_cons,ER]
  .split at h
   .rename_i r' hr
    have hne:mG P w t d key.val kk e.key false:=by simp_all [tE]
    rcases NP ht hd hx rest ys (i+1) r' h4 hr with ⟨g1,g2⟩|⟨j,v0,g1,g2,g3⟩
    .refine Or.inl ⟨.inr ⟨hne,g1⟩,fun born=> ?_⟩
     grind [ER]
    .refine Or.inr ⟨j+1,v0,.inr ⟨hne,?_⟩,by simp_all,?_⟩
     all_goals grind [List.modify_succ_cons,ER]
   .cases h
  .cases h
theorem yL {kk:KK}{key:Key}{nv:j3}:∀ (es es' :List (Key×j3)),bK kk key nv es=some es' ->B8 (es'.map (·.2))<=max (B8 (es.map (·.2))) nv.L7
 |[],es',h=>by grind [bK,B8]
 |(k',v')::rest,es',h=>by
  unfold bK at h;split at h
  .grind [B8]
  .split at h
   .rename_i r' hr
    have:=yL rest r' hr
    grind [B8]
   .cases h
  .cases h
def Lg (h:RI X l S st a w G I N)(hD:∀ j,D j=true->S j){k:Nat}(hk:¬ S k)(Z9:k<st.L.length)(entry:Nat){o:Oper}{kk:KK}{m ky v:u9}(hc:KX P (X.ck D) o (.dw kk m ky v)=true){E:Env}(hE:E.lim=l)
  {st' :F4} (he:U1 E k kk st (G9 st.T st.L m) (G9 st.T st.L ky) (G9 st.T st.L v)=some st'):∃ w',(execOp a.eval o).run P w= .ok .skip w' /\bE X l S entry st a w G I N st' k undef w' G I N:=by
 obtain ⟨dst,cn,ty,pos,after,guard⟩:=o;cases cn<;>simp only [KX,c9] at hc<;>try (cases hc;done)
 rename_i t m' k' v';obtain ⟨⟨⟨hm,hky⟩,hv⟩,ht⟩:=hc;have h1:=h.Q0 hD _ _ hm;have h2:=h.Q0 hD _ _ hky;have h3:=h.Q0 hD _ _ hv;split at ht
 .rename_i kt et hu
  obtain ⟨dk,hdk⟩:∃ d,P.underlying kt=some d:=by
   cases hd:P.underlying kt with
   |none=>cases kk<;>simp [uS,eB,iQ,hd] at ht
   |some d=>exact ⟨d,rfl⟩
  unfold U1 at he;split at he
  .rename_i id kd hp hq
   rw [hp] at h1;simp only [VR] at h1;have h2:=Fc hq h2;split at he
   .rename_i es QD
    split at he
    .rename_i aV
     split at he
     .rename_i hkk
      split at he
      .rename_i es' ax6
       cases he;have hO:=h.H id _ QD;simp only [OR] at hO;obtain ⟨hN,arr,dX,g1,g2,g3,g4⟩:=hO;have hgo:(getObj (I id).1).run P w= .ok (.map arr dX) w:=by simp [getObj,Sem.run,g1]
       have hlt:(I id).1<w.heap.size:=by
        rcases s5 (I id).1 w.heap.size with h|h
        .exact h
        .rw [Array.getElem?_eq_none h] at g1;cases g1
       have rL:∀ ob:Obj,(setObj (I id).1 ob).run P w= .ok () { w with heap:=w.heap.setIfInBounds (I id).1 ob }:=by
        intro ob;simp [setObj,Sem.run,g1]
       have wrote:∀ ob:Obj,qp id (I id).1 w { w with heap:=w.heap.setIfInBounds (I id).1 ob } G:=by
        intro ob;refine ⟨g2,rfl,rfl,rfl,o5 _,by simp,fun b' hne=> ?_,fun c e f hc=> ?_⟩
        .simp [Array.getElem?_setIfInBounds_ne (fun e=>hne e.symm)]
        .rw [g1] at hc;cases hc
       have rJ:(x9.map es').L7<=max (x9.map es).L7 (id+1)\/(l.base<=id/\l.strict<=id):=by
        left;have:=yL es es' ax6;simp only [x9.L7];have:=aV.1;omega
       have fin:∀ (Qf :Array MapEntry) (Su :Nat),ER G I N w es' Qf.toList->Gl Qf Su ->bE X l S entry st a w G I N (put { st with H:=st.H.set id (.map es'),p6:= .obj id::st.p6 } k .any) k undef { w with heap:=w.heap.setIfInBounds (I id).1 (.map Qf Su) } G I N:=by
        intro Qf Su hER hBn;have hw:=wrote (.map Qf Su);refine bE.write h hk Z9 entry hw QD ?_ (by rw [<- hE];exact aV.2) rJ (fun _=>Iff.rfl) (by simp [VR]) (.obj id::st.p6) (by simp [Touch.J3]);simp only [OR];exact ⟨hN,Qf,Su,by simp [hlt],g2,ER.mono hw.ext (fun _ _=>rfl) (fun _ h=>h) _ _ hER,hBn⟩
       have hck:=iJ (P:=P) (w:=w) ht (Ng hkk) false 9998;rw [<- h2] at hck;have hp:=NP (P:=P) (w:=w) (key:=kd) ht hdk h3 es arr.toList 0 es' g3 ax6;rw [<- h2] at hp
       rcases hp with ⟨f1,f2⟩|⟨j,v0,f1,⟨e0,f2,f2'⟩,f3⟩
       .have Zy:(Instr.findKey kt (a.eval k') arr.toList).run P w= .ok none w:=nD hdk f1
        refine ⟨_,?_,fin (arr.push { key:=a.eval k',val:=a.eval v',born:=dX }) (dX+1) (by simpa using f2 dX) (g4.push _ _)⟩;simp [execOp,h1.2,Instr.mapUpdate,run_underlying hu,hgo,hck,Zy,rL]
       .have Zy:(Instr.findKey kt (a.eval k') arr.toList).run P w= .ok (some (0+j,v0)) w:=nD hdk f1
        have hkeep:(Instr.keyThatStays (((arr[0+j]?).map (·.key)).getD (a.eval k')) (a.eval k')).run P w= .ok (a.eval k') w:=by
         have e1:arr[0+j]? =some e0:=by simpa using f2
         have Gi:=TM kd;rw [<- h2] at Gi;rw [e1];simp only [E2,Option.getD_some,f2',Instr.keyThatStays,Gi,if_true,Sem.run_pure]
        refine ⟨_,?_,fin (arr.modify (0+j) fun e=>{ e with key:=a.eval k',val:=a.eval v' }) dX (by simpa using f3) (g4.modify _ _ fun _=>rfl)⟩;simp only [execOp,h1.2,Instr.mapUpdate,Sem.run_bind,run_underlying hu,Result.andThen_ok,hgo,hck,Zy,hkeep,rL,Sem.run_pure]
      .cases he
     .cases he
    .cases he
   .cases he
  .cases he
 .cases ht
end
end Go.Abs
namespace Go.Abs
variable [D5]
section
variable {P:Program} {X:Cx} {l:F2} {S:Nat->Prop} {st:F4} {a:Act} {w w' :World} {G G' :Gh} {I I' :Q9} {N:Nat->Prop} {D:Nat->Bool} {l6:List p9}
def HA (h:RI X l S st a w G I N)(hpv:PV X l6 S st a w I)(hT:st.T.length=X.names.length)(hD:∀ j,D j=true->S j){x:Operand}{y:u9}(hc:X.ck D x y=true)(hn:isNil l l6 st y=true) :
  a.eval x= .slice none 0 0:=by
 unfold isNil at hn;split at hn
 .unfold Cx.ck at hc
  split at hc
  .simp_all
  .simp_all
  .rename_i v' b heq
   cases heq;have:=cE (G:=G) (I:=I) (N:=N) (w:=w) _ _ hc;simp_all [VR,Act.eval]
  all_goals simp_all
 .rename_i j
  have ah5:∃ t,x= .tmp t/\D j=true/\(X.ops[j]?).bind (·.dst)=some t/\X.names.contains t=false:=by
   simp_all [Cx.ck]<;>grind
  obtain ⟨t,rfl,hDj,zG,Hr⟩:=ah5;have Zu:=hD j hDj;simp only [Act.eval];split at hn
  .have h1:=h.L j Zu t zG Hr
   simp_all [ay,VR]
  .rename_i n0 c0 hj
   split at hn
   .rename_i ai hai
    unfold oa at hn;split at hn
    .rename_i s hop
     simp only [c9,o8] at hn;obtain ⟨hun,hs⟩:=hn;split at hs
     .obtain ⟨ts,hts⟩:∃ ts,X.names[s]? =some ts:=by
       grind
      have h1:=h.T s ts hts;have he:=hpv.slot j ai s ts t Zu (by rw [hj];simp) hai hop hts zG Hr hun;simp_all [VR]
     .cases hs
    .rename_i x' hop
     split at hn
     .rename_i id off XL
      simp only [c9,o8] at hn;obtain ⟨⟨hun,hmay⟩,hs⟩:=hn;split at hs
      .rename_i cs hcs
       split at hs
       .rename_i Zw
        have hO:=h.H id _ hcs;obtain ⟨hN,c,e,f,g1,g2,g3,g4,g5⟩:=hO;have he:=hpv.cell j ai x' id off t cs Zu (by rw [hj];simp) hai hop XL hcs (r9 Zw) hun zG Hr
        grind [S1,Option.some_inj,VR]
       .cases hs
      .cases hs
     .cases hn
    .cases hn
   .cases hn
  .cases hn
 .cases hn
def qw (h:RI X l S st a w G I N)(hpv:PV X l6 S st a w I)(hT:st.T.length=X.names.length)(hD:∀ j,D j=true->S j){k:Nat}(hk:¬ S k)(Z9:k<st.L.length)(entry:Nat){u5:Option Nat}(hid:yB l st N u5){o:Oper}{sz bytes:Nat}{x y:u9}
  (hc:dF P (X.ck D) o (.append sz bytes true x y)=true) {E:Env} (hE:E.lim=l) {st' :F4} (he:K8 E l6 u5 k sz bytes true st x (G9 st.T st.L y)=some st') :
  (∃ v w' G',(execOp a.eval o).run P w= .ok (.value v) w' /\bE X l S entry st a w G I N st' k v w' G' I N) \/
  ∃ v w' G' I' N' ob av,(execOp a.eval o).run P w= .ok (.value v) w' /\st' =put (F0 st u5 ob) k av/\bE X l S entry st a w G I N st' k v w' G' I' N' /\(∀ i,N' i↔N i\/i=newId st u5):=by
 obtain ⟨x0,y0,t,t2,e,i,z,hop,Nn,hcy,ht2,hsz,hu,hi,hsi,hbi,hz,hzs,hbp⟩:=cV hc;have nL:(execOp a.eval o).run P w=((Builtin.append_ #[t,t2] o.type #[a.eval x0,a.eval y0]).run P w).andThen fun v w' => .ok (.value v) w' :=by
  simp_all [guard,execOp,resolve,invoke,builtin]
 unfold K8 at he;rw [hE] at he;simp [if_true] at he;split at he
 .rename_i m cs hcs
  split at he
  .rename_i aV
   obtain ⟨hnil,hroom,_⟩:=aV;have hx0:=HA h hpv hT hD Nn hnil;obtain ⟨vn,hl,hf,Nq,hcl⟩:=pX (P:=P) h.H (h.Q0 hD _ _ hcy) hsz hcs;have qF:vn.length=m * sz:=by grind [H8.length]
   subst hsi hbi;split at he
   .rename_i hm
    subst hm;cases he;have hrun:=cK (P:=P) (w:=w) (ty:=o.type) hu hi ht2 (base:=none) (sLen:=0) (sCap:=0) hl (hf w rfl) (o5 _);refine Or.inl ⟨.slice none 0 0,w,G,?_,bE.same h hk Z9 entry (by simp [VR])⟩;simp_all
   .cases he
    have hlt:0<0+m:=by omega
    obtain ⟨cH,zH,hrun⟩:=eH (P:=P) (w:=w) (ty:=o.type) hu hi hz ht2 (base:=none) (sLen:=0) (sCap:=0) (old:= #[]) hl (hf w.drew rfl) (by rfl) hlt (by rw [Nat.zero_add];exact yd hroom hbp) (by simp_all [Nat.zero_add,pK]);rw [Nat.zero_add] at zH hrun;have hnb:iG w (w.drew.alloc (.cells (#[]++vn.toArray++Builtin.zeroCells z.cells (cH - m)) e)) (.cells (#[]++vn.toArray++Builtin.zeroCells z.cells (cH - m)) e):=by
     have:=iG.alloc w.drew (.cells (#[]++vn.toArray++Builtin.zeroCells z.cells (cH - m)) e);exact ⟨this.os,this.tape,this.output,B5 (Nat.le_succ _) this.drawn,this.size,this.old,this.new⟩
    have hsize:(#[]++vn.toArray++Builtin.zeroCells z.cells (cH - m):Array Value).size=cH * i.size:=by
     simp [Array.size_append,List.size_toArray,tU,hzs,qF,B0,Nat.zero_add];rw [<- Nat.add_mul];simp_all
    refine Or.inr ⟨.slice (some (ad w.heap.size 0)) m cH,_,_,_,_,.cells cs,_,by simp_all,rfl,bE.newObj h hk Z9 entry hid hnb (.cells cs) ?_ ?_,fun i=>Iff.rfl⟩
    .simp only [OR]
     refine ⟨Or.inr trivial,_,e,(0,0),by rw [V9];exact hnb.new,by simp,lz _,?_,fun j b hj=> ?_⟩
     .simp_all [V9,Nat.zero_add,M3]
     .simp only [V9]
      obtain ⟨u,r1,r2⟩:=H8.get _ _ Nq j b hj;refine ⟨u,?_,?_⟩
      .grind
      .exact (hnb.vr h.wf _ (fun j hj=>bU (by rintro rfl;exact hid.new hj)) (fun _ h=>Or.inl h) r2).place
    .simp only [VR]
     refine ⟨Or.inr trivial,cH,by simp,zH,_,e,(0,0),by rw [V9];exact hnb.new,?_⟩;simp_all
  .cases he
 .cases he
def yS (P:Program)(ck:Operand->u9->Bool)(o:Oper)(op:z6):Bool :=
 match o.op,op with
 | .call ⟨.builtin .clear,args,argTypes⟩,.clear sz zero y =>
  (match args.toList,argTypes.toList with
   |[x],[t]=>ck x y&&decide (0<sz)&&(match P.underlying t with
    |some (.slice e)=>(match P.info? e with
     |some i=>(match i.zero with|some z=>consts z.cells.toList zero&&z.cells.size==sz&&zero.all j3.one|none=>false)
     |none=>false)
    |_=>false)
   |_,_=>false)
 |_,_=>false
theorem GX {α:Type}(zero:List α):∀ (n i:Nat),((j4 n zero).flatten)[i]? =if i<n * zero.length then zero[i % zero.length]? else none
 |0,i=>by simp
 |n+1,i=>by
  rw [List.replicate_succ,List.flatten_cons]
  by_cases h:i<zero.length
  .rw [q7 h,if_pos (by grind),Nat.mod_eq_of_lt h]
  .rw [p7 (by omega),GX zero n (i - zero.length)]
   by_cases h2:i - zero.length<n * zero.length
   .rw [if_pos h2,if_pos (by grind),Nat.mod_eq_sub_mod (a:=i) (b:=zero.length) (by omega)]
   grind
theorem Gw {zero:List j3}(h:B8 zero=0):∀ n:Nat,B8 (j4 n zero).flatten=0
 |0=>by simp [B8]
 |n+1=>by rw [List.replicate_succ,List.flatten_cons,dA,h,Gw h n];rfl
def Qm (h:RI X l S st a w G I N)(hD:∀ j,D j=true->S j){k:Nat}(hk:¬ S k)(Z9:k<st.L.length)(entry:Nat){o:Oper}{sz:Nat}{zero:List j3}{y:u9}
  (hc:yS P (X.ck D) o (.clear sz zero y)=true) {E:Env} (hE:E.lim=l) {st' :F4} (he:X6 E k sz zero st (G9 st.T st.L y)=some st') :
  ∃ w',(execOp a.eval o).run P w= .ok (.value (.tuple #[])) w' /\bE X l S entry st a w G I N st' k (.tuple #[]) w' G I N:=by
 unfold yS at hc;split at hc
 .rename_i args argTypes sz' zero' y' hop heq
  cases heq;split at hc
  .rename_i x t ha ht
   have e1:args= #[x]:=by grind
   have e2:argTypes= #[t]:=by grind
   subst e1 e2;simp only [c9,decide_eq_true_eq] at hc;obtain ⟨⟨hx,hsz⟩,hc⟩:=hc;split at hc
   .rename_i e hu
    split at hc
    .rename_i i hi
     split at hc
     .rename_i z hz
      simp only [c9,beq_iff_eq] at hc;obtain ⟨⟨hcs,hzs⟩,hone⟩:=hc;have nL:(execOp a.eval o).run P w=((Builtin.clear_ #[t] o.type #[a.eval x]).run P w).andThen fun v w' => .ok (.value v) w' :=by
       simp_all [guard,execOp,resolve,invoke,builtin]
      have hv:=h.Q0 hD _ _ hx;unfold X6 at he;split at he
      .rename_i id z' lo len hy
       rw [hy] at hv;obtain ⟨hN,cap,hx0,hcap,_⟩:=hv;split at he
       .rename_i aV
        obtain ⟨rfl,hzl,hzb,hmay⟩:=aV;split at he
        .rename_i H' hw
         cases he;obtain ⟨l0,c,e',f,g1,g2,g3,g4,g5,g6,g7,g8,g9⟩:=h.H.wr hw;have hvz:=ey (G:=G) (I:=I) (N:=N) (w:=w) _ _ hcs
         by_cases hlen:len=0
         .subst hlen
          have hH' :H' =st.H:=by
           rw [g2];simp only [List.replicate_zero,List.flatten_nil,splice,B0,Nat.add_zero,List.append_nil,List.take_append_drop];apply List.ext_getElem?
           grind
          have hM:=bE.write (D1:=N) h hk Z9 entry (w' :=w) (G:=G) (id:=id) (b:=(I id).1) ⟨g6,rfl,rfl,rfl,o5 _,rfl,fun _ _=>rfl,fun c _ _ h=>⟨c,h,rfl⟩⟩ g1 (h.H id _ g1) (by grind) (Or.inl (by omega)) (fun _=>Iff.rfl) (v:= .tuple []) (x:= .tuple #[]) (by grind [VR,H8]) (.obj id::st.p6) (by simp [Touch.J3]);have rL:st.H.set id (.cells l0)=st.H:=by
           grind
          refine ⟨w,?_,by grind⟩;rw [nL,hx0];simp [Builtin.clear_,run_underlying hu]
         .have hzc:(Builtin.zeroCells z.cells len).toList.length=len * z' :=by simp [tU,hzs]
          have hfl:((j4 len zero).flatten).length=len * z' :=by simp [hzl]
          have xD:∀ (j:Nat) b,((j4 len zero).flatten)[j]? =some b->∃ u,(Builtin.zeroCells z.cells len).toList[j]? =some u/\VR G I N w .none b u:=by
           intro j b hj;rw [GX] at hj;split at hj
           .rename_i hjl
            rw [hzl] at hj hjl;obtain ⟨u,r1,r2⟩:=H8.get _ _ hvz (j % z') b hj;have hzj:z.cells[j % z']? =some u:=by simp_all
            have bw8 :z.cells[j % z.cells.size]! =u:=by
             grind
            simp_all [Array.range,Array.getElem?_toList,Builtin.zeroCells,Array.getElem?_map,E2]
           .cases hj
          obtain ⟨hO,hW⟩:=Cp g4 g5 g6 g7 g8 g9 g3 (vs:=(Builtin.zeroCells z.cells len).toList) (by rw [hzc,hfl]) (fun j b hj=>by
           obtain ⟨u,r1,r2⟩:=xD j b hj;exact ⟨u,r1,r2.place⟩)
          have Ht:LR (Builtin.zeroCells z.cells len).toList:=by
           intro u hu';obtain ⟨j,hj,rfl⟩:=List.getElem_of_mem hu';have hjl:j<((j4 len zero).flatten).length:=by omega
           obtain ⟨u',r1,r2⟩:=xD j _ (l5 hjl)
           grind [j4,List.getElem_mem,List.mem_flatten,kM,L1]
          have hrun:=run_storeCells_at (P:=P) (I id).1 ((I id).2+lo) e' f (Builtin.zeroCells z.cells len).toList 0 c w g5 g7 (by omega) Ht;have rJ:(x9.cells (splice l0 lo (j4 len zero).flatten)).L7<=max (x9.cells l0).L7 (id+1)\/(l.base<=id/\l.strict<=id):=by
           grind [vI,j4,Gw,x9.L7]
          have hM:=bE.write (D1:=N) h hk Z9 entry hW g1 hO (by simp_all) rJ (fun _=>Iff.rfl) (v:= .tuple []) (x:= .tuple #[]) (by simp_all [VR,H8]) (.obj id::st.p6) (by simp [Touch.J3]);simp_all [zeroValue,typeInfo,Builtin.clear_,run_underlying]
        .cases he
       .cases he
      .rename_i cells hy
       cases he;rw [hy] at hv;refine ⟨w,?_,bE.same h hk Z9 entry (by simp_all [VR,H8])⟩;rw [nL]
       rcases hv with ⟨hv|⟨a0,hv⟩,_⟩|⟨b,o',cap,hv,_⟩
       all_goals simp_all [Builtin.clear_,run_underlying]
      .cases he
     .cases hc
    .cases hc
   .cases hc
  .cases hc
 .cases hc
end
end Go.Abs
namespace Go.Abs
variable [D5]
def hold (G:Gh)(n:Nat):Gh:=fun b =>
 match G b with
 | .grow m (.cell id off)=>if id<n then .grow m (.cell id off) else .held m
 | .grow m _=> .held m
 | .obj id=>if id<n then .obj id else .held 0
 |x=>x
def dy (G G1:Gh)(n:Nat):Gh:=fun b=>if hold G n b=G b then G1 b else G b
section
variable {G G1:Gh} {w w1:World} {n:Nat}
def yC (b o:Nat):gJ (hold G n) b o↔gJ G b o:=by
 unfold gJ hold;cases h:G b with
 |grow m pl =>
  cases pl with
  |cell id off=>by_cases hid:id<n<;>simp [hid]
  |_=>simp
 |obj id=>by_cases hid:id<n<;>simp [hid]
 |_=>simp
def sU:Ext G w (hold G n) w where
 os:=rfl
 tape:=rfl
 output:=rfl
 drawn _:=o5 _
 size:=o5 _
 jj b o h:=⟨(yC b o).2 h,rfl⟩
 still b h:=⟨by rcases h with h|⟨m,h⟩<;>simp [hold,h],rfl⟩
 shape _ c _ _ h:=⟨c,h,rfl⟩
def Np (h:WF G w):WF (hold G n) w:=fun b hb=>by simp [hold,h b hb]
def nN {b id:Nat}(hid:id<n)(h:G b= .obj id):hold G n b= .obj id:=by simp [hold,h,hid]
def kG {id off:Nat}(hid:id<n):aK (.cell id off) G w (hold G n) w:=fun b m hb=>⟨by simp [hold,hb,hid],rfl⟩
def CM {b m:Nat}{pl:Place}(hn:n=0):hold G n b≠ .grow m pl:=by
 subst hn;unfold hold;split
 .simp
 .simp
 .simp
 .rename_i h1 h2 h3
  intro e;cases pl with
  |cell id off=>exact h1 _ _ _ e
  |_=>exact h2 _ _ e
def Hs {b id:Nat}(h:hold G n b= .obj id):id<n:=by
 unfold hold at h;cases hg:G b with
 |grow m pl =>
  rw [hg] at h;cases pl with
  |cell i o=>simp only at h;split at h<;>cases h
  |_=>cases h
 |obj i =>
  rw [hg] at h;simp only at h;split at h
  .cases h;assumption
  .cases h
 |_=>rw [hg] at h;cases h
def hidden {b:Nat}(h:hold G n b≠G b):∃ m,hold G n b= .held m:=by
 unfold hold at h ⊢;cases hg:G b with
 |grow m pl =>
  simp only [hg] at h ⊢;cases pl<;>simp at h ⊢;rename_i id off;rw [if_neg (by omega)];exact ⟨m,rfl⟩
 |obj id =>
  simp only [hg] at h ⊢;simp at h;rw [if_neg (by omega)];exact ⟨0,rfl⟩
 |_=>simp [hg] at h
def gC {b:Nat}(he:Ext (hold G n) w G1 w1)(h:hold G n b≠G b):dy G G1 n b=G b/\w1.heap[b]? =w.heap[b]? /\G1 b=hold G n b:=by
 obtain ⟨m,hm⟩:=hidden h;obtain ⟨h1,h2⟩:=he.still b (Or.inr ⟨m,hm⟩);exact ⟨by simp [dy,h],h2,h1⟩
def gD {b:Nat}(h:hold G n b=G b):dy G G1 n b=G1 b:=by simp [dy,h]
def Bd (he:Ext (hold G n) w G1 w1):Ext G w (dy G G1 n) w1 where
 os:=he.os
 tape:=he.tape
 output:=he.output
 drawn:=he.drawn
 size:=he.size
 jj b o h:=by
  obtain ⟨h1,h2⟩:=he.jj b o ((yC b o).2 h);refine ⟨?_,h2⟩
  by_cases hh:hold G n b=G b
  .unfold gJ at h1 ⊢;rw [gD hh];exact h1
  .unfold gJ at h ⊢;rw [(gC he hh).1];exact h
 still b h:=by
  have hh:hold G n b=G b:=by rcases h with h|⟨m,h⟩<;>simp [hold,h]
  obtain ⟨h1,h2⟩:=he.still b (by rw [hh];exact h);exact ⟨by rw [gD hh,h1,hh],h2⟩
 shape:=he.shape
def mC (he:Ext (hold G n) w G1 w1):Sub G1 w1 (dy G G1 n) w1 where
 jj b o h:=by
  refine ⟨?_,rfl⟩
  by_cases hh:hold G n b=G b
  .unfold gJ at h ⊢;rw [gD hh];exact h
  .obtain ⟨h1,h2,h3⟩:=gC he hh
   have:gJ (hold G n) b o:=by unfold gJ at h ⊢;rw [<- h3];exact h
   have:=(yC b o).1 this;unfold gJ at this ⊢;rw [h1];exact this
 shape _ c _ _ h:=⟨c,h,rfl⟩
def aS (he:Ext (hold G n) w G1 w1){b:Nat}(h:∀ m,G1 b≠ .held m):dy G G1 n b=G1 b:=by
 by_cases hh:hold G n b=G b
 .exact gD hh
 .obtain ⟨_,_,h3⟩:=gC he hh
  obtain ⟨m,hm⟩:=hidden hh;exact absurd (h3.trans hm) (h m)
def jG (he:Ext (hold G n) w G1 w1)(q:Place):aK q G1 w1 (dy G G1 n) w1 :=
 fun b m hb=>⟨by rw [aS he (by intro m';rw [hb];simp)];exact hb,rfl⟩
def dV (he:Ext (hold G n) w G1 w1){q:Place}(hq:∀ id off,q= .cell id off->n<=id):aK q G w (dy G G1 n) w1:=by
 intro b m hb;have hh:hold G n b≠G b:=by
  unfold hold;rw [hb];cases q with
  |cell id off=>have:=hq id off rfl;simp;omega
  |_=>simp
 obtain ⟨h1,h2,_⟩:=gC he hh;exact ⟨h1.trans hb,h2⟩
def Be (he:Ext (hold G n) w G1 w1){id:Nat}(hid:n<=id):∀ b,G b= .obj id->dy G G1 n b= .obj id/\w1.heap[b]? =w.heap[b]? :=by
 intro b hb;have hh:hold G n b≠G b:=by unfold hold;rw [hb];simp;omega
 obtain ⟨h1,h2,_⟩:=gC he hh;exact ⟨h1.trans hb,h2⟩
def DI (he:Ext (hold G n) w G1 w1)(hwf:WF G w)(h1:WF G1 w1):WF (dy G G1 n) w1:=by
 intro b hb;have hg:G b= .free:=hwf b (B5 he.size hb);have hh:hold G n b=G b:=by simp [hold,hg]
 rw [gD hh];exact h1 b hb
end
structure yu (l:F2)(H:q8)(w:World)(G:Gh)(I:Q9)(N:Nat->Prop)(args:List j3)(I6:Array Value):Prop where
 args:H8 G I N w args I6.toList
 hr:HR G I N w H
 wf:WF G w
 bt:∀ id,N id->id<H.length
 U7:PT l H
 base:l.base<=H.length
 strict:l.strict<=l.base
 jY:∀ b id:Nat,G b= .obj id->id<H.length
 aV7:H.length=0->∀ b n pl,G b≠ .grow n pl
structure jZ (l:F2)(H:q8)(w:World)(G:Gh)(I:Q9)(N:Nat->Prop)(v:j3)(H1:q8)(x:Value)(w' :World)(G' :Gh)(I' :Q9)(N' :Nat->Prop):Prop where
 val:VR G' I' N' w' .ret v x
 hr:HR G' I' N' w' H1
 wf:WF G' w'
 ext:Ext G w G' w'
 eE:ki l G w G' w'
 inj:∀ id,id<H.length->N id->I' id=I id
 mono:∀ id,N id->N' id
 old:∀ id,id<H.length->N' id->N id
 bt:∀ id,N' id->id<H1.length
 hle:∀ (id:Nat) (o' :x9),id<l.base->H1[id]? =some o' ->o'.L7<=id+1\/∃ o:x9,H[id]? =some o/\o'.L7<=o.L7
 U7:PT l H1
def mZ (P:Program)(cf:sg)(prom:FuncId->Bool):Prop :=
 ∀ f args H l v H1,cf f args H l=some (v,H1)->∀ w G I N I6,yu l H w G I N args I6->(prom f=false->l.base=H.length) ->
  Calls P f I6 w fun e w' =>∃ x G' I' N',e= .returned x/\jZ l H w G I N v H1 x w' G' I' N'
def T3 (P:Program)(f:FuncId):Bool :=
 match P.funcs[f]? with
 | some fn => fn.name != "runtime.NumGoroutine" && fn.body.isSome
 |none=>false
def tC {P:Program}{w:World}{f:FuncId}(h:T3 P f=true)(args:Array Value):(callFunc f args).run P w= .ok (.enter f args) w:=by
 unfold T3 at h;split at h
 .rename_i fn hfn
  simp only [c9,bne_iff_ne] at h;obtain ⟨c,hc⟩:=E8.1 h.2;simp [callFunc,hfn,h.1,hc]
 .cases h
end Go.Abs
namespace Go.Abs
variable [D5]
theorem Gv:∀ (l:List x9) (i:Nat) (o:x9),l[i]? =some o->o.L7<=R7 l
 |[],_,_,h=>by simp at h
 |v::vs,0,o,h=>by grind [R7]
 |v::vs,i+1,o,h=>by have:=Gv vs i o (by simpa using h);grind [R7]
theorem sM:∀ (l:List x9) (k i:Nat) (o:x9),T5 l k=true->l[i]? =some o->o.L7<=k+i+1
 |[],_,_,_,_,h=>by simp at h
 |v::vs,k,0,o,hd,h=>by
  simp_all [T5,c9,decide_eq_true_eq]
 |v::vs,k,i+1,o,hd,h=>by
  simp [T5,c9] at hd;have:=sM vs (k+1) i o hd.2 (by simpa using h);omega
def qL {H:q8}{n s i:Nat}{o:x9}(hi:i<n)(hs:s<=i)(h:H[i]? =some o):((H.take n).drop s)[i - s]? =some o:=by
 simp_all
def vk {l:F2}{H:q8}{n:Nat}(hd:PT l H)(hc:R7 ((H.take n).drop l.strict)<=n){id:Nat}{o:x9}(hid:id<n)(h:H[id]? =some o):o.L7<=n:=by
 by_cases hs:id<l.strict
 .have:=(hd id o h).1 hs;omega
 .have:=Gv _ _ _ (qL (s:=l.strict) hid (by omega) h);omega
def Ja (H:q8)(s n:Nat):D8 H s n<=n:=by
 grind [D8]
def FE {l:F2}{H:q8}{n:Nat}(hd:PT l H){id:Nat}{o:x9}(hid:id<D8 H l.strict n)(h:H[id]? =some o):o.L7<=id+1:=by
 unfold D8 at hid;split at hid
 .exact (hd id o h).1 (by omega)
 .split at hid
  .rename_i hdf
   by_cases hs:id<l.strict
   .exact (hd id o h).1 hs
   .have:=sM _ _ _ _ hdf (qL (s:=l.strict) hid (by omega) h);omega
  .exact (hd id o h).1 hid
def VR.Gr {G:Gh}{I:Q9}{N:Nat->Prop}{w:World}{pl wC :Place}{a:j3}{x:Value}(ha:∀ z n c,a≠ .own z n c)(h:VR G I N w pl a x):VR G I N w wC a x:=by
 cases a with
 |own z n c=>simp_all
 |any=>simp [VR]
 |_=>simp_all [VR]
structure WZ (pl:Place)(l:F2)(H:q8)(w:World)(G:Gh)(I:Q9)(N:Nat->Prop)(v:j3)(H1:q8)(x:Value)(w' :World)(G' :Gh)(I' :Q9)(N' :Nat->Prop):Prop where
 val:VR G' I' N' w' pl v x
 hr:HR G' I' N' w' H1
 wf:WF G' w'
 ext:Ext G w G' w'
 eE:ki l G w G' w'
def jZ.at {l:F2}{H:q8}{w:World}{G:Gh}{I:Q9}{N:Nat->Prop}{v:j3}{H1:q8}{x:Value}{w' :World}{G' :Gh}{I' :Q9}{N' :Nat->Prop}
  (h:jZ l H w G I N v H1 x w' G' I' N') {pl:Place} (hp:pl≠ .none):∃ G2,WZ pl l H w G I N v H1 x w' G2 I' N' :=by
 by_cases ho:∃ z n c,v= .own z n c
 .obtain ⟨z,n,c,rfl⟩:=ho
  obtain ⟨G2,hm,hv⟩:=iY hp h.val;refine ⟨G2,hv,h.hr.HS hm (by simp),hm.wf h.wf,h.ext.trans hm.ext,h.eE.trans fun id _=>⟨fun b hb=>⟨hm.obj b id hb,rfl⟩,fun off=>hm.keeps _ (by simp)⟩⟩
 .exact ⟨G',h.val.Gr (fun z n c e=>ho ⟨z,n,c,e⟩),h.hr,h.wf,h.ext,h.eE⟩
section
variable {P:Program} {X:Cx} {l:F2} {S:Nat->Prop} {st:F4} {a:Act} {w w1:World} {G G1:Gh} {I I1:Q9} {N N1:Nat->Prop}
structure KE (X:Cx)(l:F2)(S:Nat->Prop)(entry:Nat)(st:F4)(a:Act)(w:World)(G:Gh)(I:Q9)(N:Nat->Prop)
  (st' :F4) (k:Nat) (x' :Value) (w' :World) (G' :Gh) (I' :Q9) (N' :Nat->Prop):Prop where
 mid:bE X l S entry st a w G I N st' k x' w' G' I' N'
 bt:∀ id,N' id->id<st'.H.length
 old:∀ id,id<st.H.length->N' id->N id
def qZ (h:RI X l S st a w G I N)(ek:∀ id,N id->id<st.H.length){k:Nat}(hk:¬ S k)(Z9:k<st.L.length)(entry:Nat){n m:Nat}(hn:n<=st.H.length)(hm:m<=n)
  {l' :F2} (hl' :l'.base=n) (hmay:∀ id,id<n->l.may id=false->l'.may id=false) (Tu :∀ id,m<=id->id<n->l'.may id=false)
  {v:j3} {H1:q8} {x:Value} (hlen:H1.length=n) (hc:jZ l' (st.H.take n) w (hold G n) I (fun i=>N i/\i<n) v H1 x w1 G1 I1 N1) {p6:List Touch} (Hx:∀ id,p6.any (Touch.J3 id)=false->m<=id) :
  ∃ G' I',KE X l S entry st a w G I N (put { st with H:=H1.take m++st.H.drop m,p6 } k v) k x w1 G' I' N:=by
 have htl:(st.H.take n).length=n:=by simp;omega
 have hN1:∀ id,N1 id->N id/\id<n:=fun id hid=>by
  have:=hc.bt id hid;exact hc.old id (by omega) hid
 have hI1:∀ id,N id->id<n->I1 id=I id:=fun id hid hlt=>hc.inj id (by omega) ⟨hid,hlt⟩
 obtain ⟨G2,hp⟩:=hc.at (pl:= .loc k) (by simp);have hx:=Bd hp.ext;have XT:∀ id,m<=id->∀ b,G b= .obj id->dy G G2 n b= .obj id/\w1.heap[b]? =w.heap[b]? :=by
  intro id hid b hb
  by_cases hlt:id<n
  .obtain ⟨g1,g2⟩:=(hp.eE id (Tu id hid hlt)).1 b (nN hlt hb)
   exact ⟨by rw [aS hp.ext (by simp_all)];exact g1,g2⟩
  .exact Be hp.ext (by omega) b hb
 have TL:∀ id,m<=id->∀ off,aK (.cell id off) G w (dy G G2 n) w1:=by
  intro id hid off
  by_cases hlt:id<n
  .intro b q hb
   obtain ⟨g1,_⟩:=kG (G:=G) (w:=w) (off:=off) hlt b q hb;obtain ⟨g3,g4⟩:=(hp.eE id (Tu id hid hlt)).2 off b q g1;exact ⟨by rw [aS hp.ext (by simp_all)];exact g3,g4⟩
  .exact dV hp.ext (by simp_all)
 have aw2:∀ id o',(H1.take m++st.H.drop m)[id]? =some o' ->(id<m/\H1[id]? =some o')\/(m<=id/\st.H[id]? =some o'):=by
  grind
 have hle:∀ id o',(H1.take m++st.H.drop m)[id]? =some o' ->o'.L7<=id+1\/∃ o:x9,st.H[id]? =some o/\o'.L7<=o.L7:=by
  intro id o' ho'
  rcases aw2 id o' ho' with ⟨hlt,ho⟩|⟨_,ho⟩
  .rcases hc.hle id o' (by omega) ho with hb|⟨o,h1,h2⟩
   all_goals grind
  simp_all
 have bg6:(H1.take m++st.H.drop m).length=st.H.length:=by simp;omega
 have hII:∀ id,N id->I1 id=I id\/n<=id:=fun id hid=>by
  grind
 refine ⟨dy G G2 n,fun id=>if id<n then I1 id else I id,?_,?_,?_⟩
 .have Zt:∀ id,N id->(if id<n then I1 id else I id)=I id:=by
   simp_all
  have hIn:∀ id,N1 id->(if id<n then I1 id else I id)=I1 id:=by
   simp_all
  have hNn:∀ id,N1 id->N id:=fun id hid=>(hN1 id hid).1
  refine ⟨⟨?_,?_,?_,DI hp.ext h.wf hp.wf,?_⟩,?_,hx,?_,?_,fun id _ hN=>Zt id hN,fun _ h=>h,?_,?_⟩
  .intro s t ht
   exact VR.mono hx Zt (fun _ h=>h) _ _ _ (Or.inr (dV hp.ext (by simp))) (h.T s t ht)
  .intro j hj d hd Hr
   have:k≠j:=by grind
   simp only [Abs.put];rw [N8 _ _ _ _ _ this];exact VR.mono hx Zt (fun _ h=>h) _ _ _ (Or.inr (dV hp.ext (by simp))) (h.L j hj d hd Hr)
  .intro id o' ho'
   rcases aw2 id o' ho' with ⟨hlt,ho⟩|⟨hge,ho⟩
   .refine OR.mono (mC hp.ext) hIn hNn id o' (fun hb=> ?_) (fun off=>jG hp.ext _) (hp.hr id o' ho)
    exact ⟨by rw [aS hp.ext (by simp_all)];exact hb,rfl⟩
   .exact OR.mono hx Zt (fun _ h=>h) id o' (fun hb=>XT id hge _ hb) (TL id hge) (h.H id o' ho)
  .intro id o' ho'
   rcases hle id o' ho' with hb|⟨o,h1,h2⟩
   .omega
   .obtain ⟨d1,d2⟩:=h.U7 id o h1
    omega
  .simp only [Abs.put]
   rw [M4 _ _ _ _ Z9];exact VR.mono (mC hp.ext) hIn hNn _ _ _ (Or.inr (jG hp.ext _)) hp.val
  .intro id hid
   by_cases hlt:id<n
   .obtain ⟨p1,p2⟩:=hp.eE id (hmay id hlt hid)
    refine ⟨fun b hb=> ?_,fun off b q hb=> ?_⟩
    .obtain ⟨g1,g2⟩:=p1 b (nN hlt hb)
     exact ⟨by rw [aS hp.ext (by simp_all)];exact g1,g2⟩
    .obtain ⟨g1,_⟩:=kG (G:=G) (w:=w) (off:=off) hlt b q hb
     obtain ⟨g3,g4⟩:=p2 off b q g1;exact ⟨by rw [aS hp.ext (by simp_all)];exact g3,g4⟩
   grind
  all_goals grind [Abs.put]
 all_goals simp_all [Abs.put]
def KV (h:RI X l S st a w G I N)(ek:∀ id,N id->id<st.H.length){k:Nat}(hk:¬ S k)(Z9:k<st.L.length)(entry:Nat)
  {v:j3} {H1:q8} {x:Value} (hlen:st.H.length<=H1.length) (hc:jZ l st.H w (hold G st.H.length) I N v H1 x w1 G1 I1 N1) {p6:List Touch} (Hx:∀ id,p6.any (Touch.J3 id)=false->st.H.length<=id) :
  ∃ G',KE X l S entry st a w G I N (put { st with H:=H1,p6 } k v) k x w1 G' I1 N1:=by
 obtain ⟨G2,hp⟩:=hc.at (pl:= .loc k) (by simp);have hx:=Bd hp.ext;have Zt:∀ id,N id->I1 id=I id:=fun id hid=>hc.inj id (ek id hid) hid
 refine ⟨dy G G2 st.H.length,?_,hc.bt,hc.old⟩;refine ⟨⟨?_,?_,?_,DI hp.ext h.wf hp.wf,hc.U7⟩,?_,hx,?_,?_,fun id _ hN=>Zt id hN,hc.mono,hlen,fun id o' hb ho' =>hc.hle id o' hb ho'⟩
 .intro s t ht
  exact VR.mono hx Zt hc.mono _ _ _ (Or.inr (dV hp.ext (by simp))) (h.T s t ht)
 .intro j hj d hd Hr
  have:k≠j:=by grind
  simp only [Abs.put];rw [N8 _ _ _ _ _ this];exact VR.mono hx Zt hc.mono _ _ _ (Or.inr (dV hp.ext (by simp))) (h.L j hj d hd Hr)
 .intro id o' ho'
  refine OR.mono (mC hp.ext) (fun _ _=>rfl) (fun _ h=>h) id o' (fun hb=> ?_) (fun off=>jG hp.ext _) (hp.hr id o' ho');exact ⟨by rw [aS hp.ext (by simp_all)];exact hb,rfl⟩
 .simp only [Abs.put]
  rw [M4 _ _ _ _ Z9];exact VR.mono (mC hp.ext) (fun _ _=>rfl) (fun _ h=>h) _ _ _ (Or.inr (jG hp.ext _)) hp.val
 .intro id hid
  by_cases hlt:id<st.H.length
  .obtain ⟨p1,p2⟩:=hp.eE id hid
   refine ⟨fun b hb=> ?_,fun off b q hb=> ?_⟩
   .obtain ⟨g1,g2⟩:=p1 b (nN hlt hb)
    exact ⟨by rw [aS hp.ext (by simp_all)];exact g1,g2⟩
   .obtain ⟨g1,_⟩:=kG (G:=G) (w:=w) (off:=off) hlt b q hb
    obtain ⟨g3,g4⟩:=p2 off b q g1;exact ⟨by rw [aS hp.ext (by simp_all)];exact g3,g4⟩
  .exact ⟨Be hp.ext (by omega),fun off=>dV hp.ext (by simp_all)⟩
 .intro id hN ht
  have:=ek id hN;have:=Hx id ht;omega
def zR {l:F2}{a b base strict id:Nat}(h:l.may id=false\/(a<=id/\id<b)):(l.nG a b base strict).may id=false:=by
 grind [F2.nG,F2.may,E6,decide_eq_false_iff_not]
def jt (l:F2)(a b base strict:Nat):(l.nG a b base strict).base=base/\(l.nG a b base strict).strict=strict:=by
 grind [F2.nG]
def Ql {E:Env}(Nl:mZ P E.cf E.prom)(hE:E.lim=l)(h:RI X l S st a w G I N)(ek:∀ id,N id->id<st.H.length)(hb:l.base<=st.H.length)(hs:l.strict<=l.base)
  {k:Nat} (hk:¬ S k) (Z9:k<st.L.length) (entry:Nat) {f:FuncId} {args:List j3} {I6:Array Value} (hargs:H8 G I N w args I6.toList) {st' :F4} (he:D7 E k f args st=some st') :
  Calls P f I6 w fun e w' =>∃ x G' I' N',e= .returned x/\KE X l S entry st a w G I N st' k x w' G' I' N' :=by
 subst hE;unfold D7 at he;split at he
 .rename_i vY
  split at he
  .rename_i v H1 eY
   split at he
   .rename_i hlen
    cases he;refine Calls.mono (Nl f args st.H E.lim v H1 eY w (hold G st.H.length) I N I6 ⟨?_,?_,Np h.wf,ek,h.U7,hb,hs,fun _ _=>Hs,fun h0 _ _ _=>CM h0⟩ (by simp_all)) ?_
    .exact H8.mono sU.sub (fun _ _=>rfl) (fun _ h=>h) _ _ hargs
    .intro id o ho
     have hlt:=r9 ho;exact OR.mono sU.sub (fun _ _=>rfl) (fun _ h=>h) id o (fun hb=>⟨nN hlt hb,rfl⟩) (fun _=>kG hlt) (h.H id o ho)
    .rintro e w' ⟨x,G1,I1,N1,rfl,hc⟩
     obtain ⟨G',hd⟩:=KV h ek hk Z9 entry hlen hc (p6:= .below H1.length::st.p6) (by
      grind [Touch.J3])
     grind
   .cases he
  .cases he
 .rename_i vY
  have vY:E.prom f=false:=by simp_all
  simp only at he;generalize Hr:E9 st.H E.lim.strict 8 (B8 args)=n at he;have hna:B8 args<=n:=by
   rw [<- Hr];have:∀ (j m:Nat),m<=E9 st.H E.lim.strict j m:=by
    intro j
    induction j with
    |zero=>grind [E9]
    |succ j ih =>
     grind [E9,B5,Nat.le_max_left]
   grind
  split at he
  .rename_i aV
   obtain ⟨hn,hbO⟩:=aV;have htl:(st.H.take n).length=n:=by simp;omega
   have pre:∀ l' :F2,l'.base=n->l'.strict=D8 st.H E.lim.strict n->yu l' (st.H.take n) w (hold G n) I (fun i=>N i/\i<n) args I6:=by
    intro l' h1 h2;refine ⟨?_,?_,Np h.wf,fun id hid=>by omega,?_,by omega,by simp_all [Ja],fun b id hb=>by rw [htl];exact Hs hb,fun h0 _ _ _=>CM (by omega)⟩
    .exact H8.mono sU.sub (fun _ _=>rfl) (fun _ h=>h) _ _ (H8.low n _ _ hna hargs)
    .intro id o ho
     have hlt:id<n:=by grind
     rw [List.getElem?_take_of_lt hlt] at ho;exact OR.mono sU.sub (fun _ _=>rfl) (fun _ h=>h) id o (fun hb=>⟨nN hlt hb,rfl⟩) (fun _=>kG hlt) (OR.low hlt o (vk h.U7 hbO hlt ho) (h.H id o ho))
    .intro id o ho
     have hlt:id<n:=by have:=r9 ho;omega
     rw [List.getElem?_take_of_lt hlt] at ho;rw [h1,h2];exact ⟨fun hh=>FE h.U7 hh ho,fun _=>vk h.U7 hbO hlt ho⟩
   split at he
   .split at he
    .rename_i v H1 eY
     split at he
     .rename_i hlen
      cases he;refine Calls.mono (Nl f args _ _ v H1 eY w (hold G n) I _ I6 (pre _ rfl rfl) (fun _=>htl.symm)) ?_;rintro e w' ⟨x,G1,I1,N1,rfl,hc⟩;obtain ⟨G',I',hd⟩:=qZ (l' :={ E.lim with base:=n,strict:=D8 st.H E.lim.strict n }) h ek hk Z9 entry hn (o5 n) rfl (fun id _ hid=>hid) (fun id h1 h2=>by omega) hlen hc (p6:= .below n::st.p6) (by
       intro id ht;simp [Touch.J3] at ht;omega)
      rw [<- hlen,List.take_length,hlen] at hd;exact ⟨x,G',I',N,rfl,hd⟩
     .cases he
    .cases he
   .split at he
    .rename_i v H1 eY
     split at he
     .rename_i hlen
      cases he;refine Calls.mono (Nl f args _ _ v H1 eY w (hold G n) I _ I6 (pre _ rfl rfl) (fun _=>htl.symm)) ?_;rintro e w' ⟨x,G1,I1,N1,rfl,hc⟩;obtain ⟨G',I',hd⟩:=qZ (l' :=⟨0,n,n,D8 st.H E.lim.strict n⟩) h ek hk Z9 entry hn (N6 n) rfl (fun id h1 _=>by simp [F2.may];omega) (fun id _ h2=>by simp [F2.may];omega) hlen hc (p6:=st.p6) (by intros;omega);refine ⟨x,G',I',N,rfl,?_⟩;simpa using hd
     .cases he
    .cases he
   .split at he
    .rename_i v H1 eY
     split at he
     .rename_i hlen
      cases he;refine Calls.mono (Nl f args _ _ v H1 eY w (hold G n) I _ I6 (pre _ (jt _ _ _ _ _).1 (jt _ _ _ _ _).2) (fun _=>by rw [(jt _ _ _ _ _).1,htl])) ?_;rintro e w' ⟨x,G1,I1,N1,rfl,hc⟩;obtain ⟨G',I',hd⟩:=qZ h ek hk Z9 entry hn hlen.2 (jt _ _ _ _ _).1 (fun id _ hid=>zR (Or.inl hid)) (fun id h1 h2=>zR (Or.inr ⟨h1,h2⟩)) hlen.1 hc (p6:= .below (args.headD .any).L7::st.p6) (by
       intro id ht;simp [Touch.J3] at ht;simpa using ht.1)
      exact ⟨x,G',I',N,rfl,hd⟩
     .cases he
    .cases he
  .cases he
end
end Go.Abs
namespace Go.Abs
variable [D5]
structure Tr (N:Nat->Prop)(k:Nat)(st st' :F4):Prop where
 p6:∀ p:Touch->Bool,st.p6.any p=true->st'.p6.any p=true
 L:∀ m id off:Nat,m≠k->st'.L[m]? =some (j3.ptr id off)->st.L[m]? =some (j3.ptr id off)
 T:∀ s id off:Nat,st'.T[s]? =some (j3.ptr id off)->st.T[s]? =some (j3.ptr id off)
 H:∀ (id:Nat) (l' :List j3),N id->st'.p6.any (Touch.J3 id)=false->st'.H[id]? =some (x9.cells l')->∃ l:List j3,st.H[id]? =some (x9.cells l)/\l.length=l'.length
 V4:st'.T.length=st.T.length
 iV:st'.L.length=st.L.length
 WX:∀ m:Nat,m≠k->st.L[m]? =some (j3.tuple [])->st'.L[m]? =some (j3.tuple [])
section
variable {N:Nat->Prop} {k:Nat} {st st1 st' :F4}
theorem Tr.refl (N:Nat->Prop)(k:Nat)(st:F4):Tr N k st st :=
 ⟨fun _ h=>h,fun _ _ _ _ h=>h,fun _ _ _ h=>h,fun _ l _ _ h=>⟨l,h,rfl⟩,rfl,rfl,fun _ _ h=>h⟩
theorem iX {t t' :List Touch}(h:∀ p:Touch->Bool,t.any p=true->t'.any p=true){p:Touch->Bool}(h' :t'.any p=false):t.any p=false:=by
 grind
theorem Tr.trans (a:Tr N k st st1)(b:Tr N k st1 st'):Tr N k st st' where
 p6 p h:=b.p6 p (a.p6 p h)
 L m id off hm h:=a.L m id off hm (b.L m id off hm h)
 T s id off h:=a.T s id off (b.T s id off h)
 H id l' hN ht h:=by
  obtain ⟨l1,h1,e1⟩:=b.H id l' hN ht h;obtain ⟨l,h2,e2⟩:=a.H id l1 hN (iX b.p6 ht) h1;simp_all
 V4:=b.V4.trans a.V4
 iV:=b.iV.trans a.iV
 WX m hm h:=b.WX m hm (a.WX m hm h)
theorem Tr.put (v:j3):Tr N k st (put st k v) where
 p6 _ h:=h
 L m id off hm h:=by
  grind [Abs.put,y9]
 T _ _ _ h:=h
 H _ l _ _ h:=⟨l,h,rfl⟩
 V4:=rfl
 iV:=by simp [Abs.put]
 WX m hm h:=by
  grind [Abs.put,y9]
def vj {l:List j3}{j m id off:Nat}{x:Data}(h:(l.set j (.d x))[m]? =some (.ptr id off)):l[m]? =some (.ptr id off):=by
 grind
def wI {l:List j3}{j m:Nat}{z n:Nat}{c:List Data}{v:j3}(hj:l[j]? =some (.own z n c))(h:l[m]? =some (j3.tuple [])):(l.set j v)[m]? =some (j3.tuple []):=by
 grind
theorem Tr.E1 (y:u9):Tr N k st (E1 st y).2:=by
 cases y with
 |loc j =>
  simp [Abs.E1];split
  .rename_i hj
   exact ⟨fun _ h=>h,fun m id off _ h=>vj h,fun _ _ _ h=>h,fun _ l _ _ h=>⟨l,h,rfl⟩,rfl,by simp,fun _ _ h=>wI hj h⟩
  all_goals simp_all [Tr.refl]
 |slot s=>exact Tr.refl _ _ _
 |const v=>exact Tr.refl _ _ _
def Tr.newObj {u5:Option Nat}(hi:∀ i,u5=some i->i<st.H.length)(hn:¬ N (newId st u5))(o:x9):Tr N k st (F0 st u5 o) where
 p6 p h:=by cases u5<;>exact h
 L m id off _ h:=by cases u5<;>exact h
 T s id off h:=by cases u5<;>exact h
 H id l' hN _ h:=by
  grind [gv,absurd]
 V4:=by cases u5<;>rfl
 iV:=by cases u5<;>rfl
 WX m _ h:=by cases u5<;>exact h
def Tr.heap {H' :q8}{p6:List Touch}(h1:∀ p:Touch->Bool,st.p6.any p=true->p6.any p=true)(h2:∀ id,N id->p6.any (Touch.J3 id)=false->H'[id]? =st.H[id]?):Tr N k st { st with H:=H',p6 } where
 p6:=h1
 L _ _ _ _ h:=h
 T _ _ _ h:=h
 H id l' hN ht h:=by
  simp_all
 V4:=rfl
 iV:=rfl
 WX _ _ h:=h
theorem Tr.W6 {l:F2}{sz len:Nat}{cells:List Data}{op:z6}(h:W6 l st sz op=some (len,cells,st')):Tr N k st st' :=by
 unfold Abs.W6 at h;split at h
 .split at h
  .cases h
  .split at h
   .split at h
    .cases h
     exact ⟨fun p hp=>by simp_all,fun _ _ _ _ h=>h,fun s id off h=>vj h,fun _ l _ _ h=>⟨l,h,rfl⟩,by simp,rfl,fun _ _ h=>h⟩
    .cases h
   .cases h
 .split at h
  .split at h
   .cases h
   .split at h
    .split at h
     .split at h
      .cases h
       refine ⟨fun p hp=>by simp_all,fun _ _ _ _ h=>h,fun _ _ _ h=>h,fun id' l' _ _ h=> ?_,rfl,rfl,fun _ _ h=>h⟩
       grind [J8,r9,y9]
      .cases h
     .cases h
    .cases h
  .cases h
 .cases h
theorem Tr.O7 {l:F2}{l6:List p9}{sz len:Nat}{cells:List Data}{y:u9}(h:O7 l l6 st sz y=some (len,cells,st')):Tr N k st st' :=by
 unfold Abs.O7 at h;split at h
 .simp_all [Tr.refl]
 .cases h
 .cases h
 .split at h
  .rename_i hj
   split at h
   .cases h
    exact ⟨fun _ h=>h,fun m id off _ h=>vj h,fun _ _ _ h=>h,fun _ l _ _ h=>⟨l,h,rfl⟩,rfl,by simp,fun _ _ h=>wI hj h⟩
   .cases h
  all_goals grind [Tr.W6]
theorem TQ {v:j3}{id i o:Nat}(h:v.kill id= .ptr i o):v= .ptr i o:=by
 cases v<;>simp [j3.kill] at h<;>first|omega|grind|exact h
def CV {l:List j3}{id m i o:Nat}(h:(N4 id l)[m]? =some (.ptr i o)):l[m]? =some (.ptr i o):=by
 grind [fI,Option.some.injEq,TQ]
theorem Tr.V6 {E:Env}{sz bytes id lo len:Nat}{y:j3}(h:V6 E k sz bytes st id lo len y=some st'):Tr N k st st' :=by
 unfold Abs.V6 at h;split at h
 .split at h
  .rename_i l0 m cs hl0 _
   split at h
   .cases h
    refine Tr.trans ?_ (Tr.put _);refine ⟨fun p hp=>by simp_all,fun m' i o _ h=>CV h,fun s i o h=>CV h,fun id' l' _ ht h=> ?_,by simp [S5],by simp [S5],fun m' _ h=>by grind [fI,j3.kill,N4]⟩;have hne:id' ≠id:=by grind [Touch.J3]
    have h' :(pn st.H E.lim.base id (.cells (N4 id l0++cs)))[id']? =some (.cells l'):=h;unfold pn at h';rw [y9 (fun e=>hne e.symm)] at h'
    by_cases hb:id' <E.lim.base
    .grind
    .by_cases hlt:id' <st.H.length
     .rw [p7 (by simp;omega),List.getElem?_map,List.getElem?_drop] at h'
      rw [show E.lim.base+(id' - (List.take E.lim.base st.H).length)=id' from by simp;omega] at h';cases ho:st.H[id']? with
      |none=>simp_all
      |some o =>
       rw [ho] at h';cases o<;>simp [x9.kill] at h'
       grind [S5]
     grind
   .cases h
  .cases h
 .cases h
theorem Tr.D7 {E:Env}{f:FuncId}{args:List j3}(ek:∀ id,N id->id<st.H.length)(h:D7 E k f args st=some st'):Tr N k st st' :=by
 unfold Abs.D7 at h;split at h
 .split at h
  .split at h
   .cases h
    refine Tr.trans ?_ (Tr.put _);refine Tr.heap (fun p hp=>by simp_all) fun id hN ht=> ?_
    grind [Touch.J3]
   .cases h
  .cases h
 .simp only at h
  split at h
  .split at h
   .split at h
    .split at h
     .cases h
      refine Tr.trans ?_ (Tr.put _);refine Tr.heap (fun p hp=>by simp_all) fun id hN ht=> ?_
      simp_all [Touch.J3,p7,List.getElem?_drop]
     .cases h
    .cases h
   .grind [Tr.put]
   .split at h
    .split at h
     .cases h
      refine Tr.trans ?_ (Tr.put _);refine Tr.heap (fun p hp=>by simp_all) fun id hN ht=> ?_
      simp_all [Touch.J3,p7,List.getElem?_drop]
     .cases h
    .cases h
  .cases h
theorem tT {H H' :q8}{id off:Nat}{vs:List j3}(h:wr H id off vs=some H'){id' :Nat}(hne:id' ≠id):H'[id']? =H[id']? :=by
 grind [wr,y9]
theorem Tr.Q6 {E:Env}{n:Nat}{a:j3}{x:u9}(h:Q6 E k n st a x=some st'):Tr N k st st' :=by
 unfold Abs.Q6 at h;split at h
 .split at h
  .split at h
   .split at h
    .cases h
     refine Tr.trans (Tr.trans (Tr.E1 x) ?_) (Tr.put _);refine Tr.heap (fun p hp=>by simp_all) fun id' hN ht=> ?_
     grind [tT,Touch.J3]
    .cases h
   .cases h
  .cases h
 .cases h
theorem Tr.X6 {E:Env}{sz:Nat}{zero:List j3}{a:j3}(h:X6 E k sz zero st a=some st'):Tr N k st st' :=by
 unfold Abs.X6 at h;split at h
 .split at h
  .split at h
   .cases h
    refine Tr.trans ?_ (Tr.put _);refine Tr.heap (fun p hp=>by simp_all) fun id' hN ht=> ?_
    grind [tT,Touch.J3]
   .cases h
  .cases h
 all_goals grind [Tr.put]
theorem Tr.U1 {E:Env}{kk:KK}{m key v:j3}(h:U1 E k kk st m key v=some st'):Tr N k st st' :=by
 unfold Abs.U1 at h;split at h
 .split at h
  .split at h
   .split at h
    .split at h
     .cases h
      refine Tr.trans ?_ (Tr.put _);refine Tr.heap (fun p hp=>by simp_all) fun id' hN ht=> ?_
      simp_all [y9,Touch.J3]
     .cases h
    .cases h
   .cases h
  .cases h
 .cases h
theorem Tr.K8 {E:Env}{l6:List p9}{u5:Option Nat}{sz bytes:Nat}{ob:Bool}{x:u9}{y:j3}(hi:∀ i,u5=some i->i<st.H.length)(hn:¬ N (newId st u5))
  (h:K8 E l6 u5 k sz bytes ob st x y=some st'):Tr N k st st' :=by
 unfold Abs.K8 at h;split at h
 .split at h
  .split at h
   .split at h
    .grind [Tr.put]
    .cases h;exact (Tr.newObj hi hn _).trans (Tr.put _)
   .cases h
  .split at h
   .split at h
    .rename_i ht
     split at h
     .cases h;exact (Tr.O7 ht).trans (Tr.put _)
     .cases h
    .cases h
   .cases h
 .cases h
theorem Tr.Z0 {E:Env}{u5:Option Nat}{sz bytes id lo len:Nat}{y:j3}(hi:∀ i,u5=some i->i<st.H.length)(h:Z0 E u5 k sz bytes st id lo len y=some st')(hN:¬ N (newId st u5)):Tr N k st st' :=by
 unfold Abs.Z0 at h;split at h
 .split at h
  .split at h
   .cases h
    have h1:Tr N k st { st with H:=st.H.set id .dead,p6:= .obj id::st.p6 }:=by
     refine ⟨fun p hp=>by simp_all,fun m' i o _ h=>h,fun s i o h=>h,fun id' l' hn ht h=> ?_,rfl,rfl,fun m' _ h=>h⟩
     grind
    have e:newId { st with H:=st.H.set id .dead,p6:= .obj id::st.p6 } u5=newId st u5:=by simp_all [newId]
    exact (h1.trans (Tr.newObj (fun i h=>by simp_all) (by simp_all) _)).trans (Tr.put _)
   .cases h
  .cases h
 .cases h
theorem Tr.E7 {E:Env}{l6:List p9}{u5:Option Nat}{op:z6}(ek:∀ id,N id->id<st.H.length)(hi:∀ i,u5=some i->i<st.H.length)(hn:op.B4=true->¬ N (newId st u5))
  (h:E7 E l6 u5 k st op=some st'):Tr N k st st' :=by
 cases op<;>simp only [Abs.E7] at h<;>try simp_all
 case alloc zero=>cases h;exact (Tr.newObj hi (hn rfl) _).trans (Tr.put _)
 case box x =>
  split at h
  .cases h;exact (Tr.newObj hi (hn rfl) _).trans (Tr.put _)
  .cases h
 case makeMap=>cases h;exact (Tr.newObj hi (hn rfl) _).trans (Tr.put _)
 case qh x=>grind [Tr.put]
 case own sz x =>
  split at h
  .rename_i ht
   cases h;exact (Tr.O7 ht).trans (Tr.put _)
  .cases h
 case mL sz zero x y =>
  split at h
  .cases h;exact (Tr.newObj hi (hn rfl) _).trans (Tr.put _)
  .cases h
 case A2 sz len zero parts ob =>
  cases ob
  .cases h
  .simp only at h
   split at h
   .split at h
    .cases h;exact (Tr.newObj hi (hn rfl) _).trans (Tr.put _)
    .cases h
   .cases h
 case store n a x=>exact Tr.Q6 h
 case ep sz bytes x y =>
  split at h
  .split at h
   .exact Tr.Z0 hi h (hn rfl)
   .cases h
  .exact Tr.K8 hi (hn rfl) h
 case append sz bytes ob x y =>
  split at h
  .grind [Tr.V6]
  .cases ob with
   |true=>exact Tr.K8 hi (hn rfl) h
   |false =>
    unfold Abs.K8 at h;simp only [j5,if_false] at h;split at h
    .split at h
     .split at h
      .rename_i ht
       split at h
       .cases h;exact (Tr.O7 ht).trans (Tr.put _)
       .cases h
      .cases h
     .cases h
    .cases h
 case clear sz zero x=>exact Tr.X6 h
 all_goals grind [call,Tr.D7,Tr.U1,Tr.put]
theorem Tr.E5 {E:Env}{l6:List p9}{u5:Option Nat}{op:z6}{rs:List Nat}(ek:∀ id,N id->id<st.H.length)(hi:∀ i,u5=some i->i<st.H.length)(hn:op.B4=true->¬ N (newId st u5))
  (h:E5 E l6 u5 k op st=some (st',rs)):Tr N k st st' :=by
 unfold Abs.E5 at h;split at h
 .grind [Tr.E7]
 .split at h
  .cases h
   exact (Tr.E1 _).trans (Tr.put _)
  grind [Tr.put]
end
end Go.Abs
namespace Go.Abs
variable [D5]
section
variable {P:Program} {X:Cx} {l:F2} {S:Nat->Prop} {st:F4} {a:Act} {w w' :World} {G G' :Gh} {I I' :Q9} {N:Nat->Prop} {D:Nat->Bool}
def Ext.aG1 {b id id' :Nat}(h:G b= .obj id):Ext G w (fV G b (.obj id')) w where
 os:=rfl
 tape:=rfl
 output:=rfl
 drawn _:=o5 _
 size:=o5 _
 jj x o hi:=by
  grind [gJ,G5]
 still x hx:=by
  grind [G5]
 shape _ c _ _ hc:=⟨c,hc,rfl⟩
def bE.renew (h:RI X l S st a w G I N){k:Nat}(hk:¬ S k)(Z9:k<st.L.length)(entry:Nat){u5:Option Nat}{id:Nat}{o0:x9}(h0:st.H[id]? =some o0)(hid:yB l st N u5)(hmay:l.may id=true)
  (hx:Ext G w G' w') (hkp:∀ q,aK q G w G' w') (ho:∀ id',id' ≠id->∀ b,G b= .obj id' ->G' b= .obj id' /\w'.heap[b]? =w.heap[b]?) (hwf:WF G' w') (hI:∀ i,N i->I' i=I i)
  {cs:List j3} (QF:OR G' I' (fun i=>N i\/i=newId st u5) w' (newId st u5) (.cells cs)) {v:j3} {x:Value} (hv:VR G' I' (fun i=>N i\/i=newId st u5) w' (.loc k) v x) (p6:List Touch) (Hx:p6.any (Touch.J3 id)=true) :
  bE X l S entry st a w G I N (put (F0 { st with H:=st.H.set id .dead,p6 } u5 (.cells cs)) k v) k x w' G' I' (fun i=>N i\/i=newId st u5):=by
 have hnw:newId { st with H:=st.H.set id .dead,p6 } u5=newId st u5:=by simp_all [newId]
 have hTT:(F0 { st with H:=st.H.set id .dead,p6 } u5 (.cells cs)).T=st.T:=by cases u5<;>rfl
 have hLL:(F0 { st with H:=st.H.set id .dead,p6 } u5 (.cells cs)).L=st.L:=by cases u5<;>rfl
 have hCC:(F0 { st with H:=st.H.set id .dead,p6 } u5 (.cells cs)).p6=p6:=by cases u5<;>rfl
 have hlen:st.H.length<=(F0 { st with H:=st.H.set id .dead,p6 } u5 (.cells cs)).H.length:=by cases u5<;>simp [F0]
 have xD:∀ (id' :Nat) o',(F0 { st with H:=st.H.set id .dead,p6 } u5 (.cells cs)).H[id']? =some o' ->(id' =newId st u5/\o' = .cells cs)\/(id' =id/\o' = .dead)\/(id' ≠id/\st.H[id']? =some o'):=by
  intro id' o' h'
  rcases gv (st:={ st with H:=st.H.set id .dead,p6 }) (u5:=u5) (fun i hi=>by simpa using hid.inside i hi) _ id' o' h' with ⟨h1,h2⟩|⟨_,h2⟩
  all_goals grind
 have vr:∀ {pl:Place} {b:j3} {u:Value},VR G I N w pl b u->VR G' I' (fun i=>N i\/i=newId st u5) w' pl b u :=
  fun hb=>VR.mono hx.sub hI (fun _ h=>Or.inl h) _ _ _ (Or.inr (hkp _)) hb
 refine ⟨⟨fun s t ht=>by simp only [Abs.put,hTT];exact vr (h.T s t ht),?_,?_,hwf,?_⟩,?_,hx,?_,?_,fun i _ hN=>hI i hN,fun _ h=>Or.inl h,?_,?_⟩
 .intro j hj d hd hn
  have:k≠j:=by grind
  simp only [Abs.put,hLL];rw [N8 _ _ _ _ _ this];exact vr (h.L j hj d hd hn)
 .intro id' o' ho'
  rcases xD id' o' ho' with ⟨rfl,rfl⟩|⟨rfl,rfl⟩|⟨hne,hold⟩
  .exact QF
  .simp [OR]
  .exact OR.mono hx.sub hI (fun _ h=>Or.inl h) id' o' (fun hb=>ho id' hne _ hb) (fun _=>hkp _) (h.H id' o' hold)
 .intro id' o' ho'
  rcases xD id' o' ho' with ⟨rfl,rfl⟩|⟨rfl,rfl⟩|⟨hne,hold⟩
  .have h1:=hid.strict
   have h2:=hid.base;omega
  .simp [x9.L7]
  .exact h.U7 id' o' hold
 .simp_all [Abs.put,M4]
 .intro id' Tu
  grind
 .grind [Abs.put]
 .simp_all [Abs.put]
 .intro id' o' hb ho'
  rcases xD id' o' ho' with ⟨rfl,rfl⟩|⟨rfl,rfl⟩|⟨hne,hold⟩
  .have h2:=hid.base
   omega
  all_goals simp_all [x9.L7,o5]
def BT (h:RI X l S st a w G I N)(hD:∀ j,D j=true->S j){k:Nat}(hk:¬ S k)(Z9:k<st.L.length)(entry:Nat){u5:Option Nat}(hid:yB l st N u5){o:Oper}{sz bytes:Nat}{ob:Bool}{x y:u9}
  (hc:dF P (X.ck D) o (.append sz bytes ob x y)=true) {E:Env} (hE:E.lim=l) {id lo len:Nat} (hx:G9 st.T st.L x= .B6 id sz lo len) {st' :F4} (he:Z0 E u5 k sz bytes st id lo len (G9 st.T st.L y)=some st') :
  ∃ v w' G' I',(execOp a.eval o).run P w= .ok (.value v) w' /\bE X l S entry st a w G I N st' k v w' G' I' (fun i=>N i\/i=newId st u5):=by
 obtain ⟨x0,y0,t,t2,e,i,z,hop,Nn,hcy,ht2,hsz,hu,hi,hsi,hbi,hz,hzs,hbp⟩:=cV hc;have hnew:¬ N (newId st u5):=hid.new;unfold Z0 at he;rw [hE] at he;split at he
 .rename_i hmay
  split at he
  .rename_i l0 m cs hl0 hcs
   split at he
   .rename_i Lq
    obtain ⟨rfl,hlen,hroom,aw9,hone,_⟩:=Lq;cases he;obtain ⟨vn,hl,hf,Nq,hcl⟩:=pX (P:=P) h.H (h.Q0 hD _ _ hcy) hsz hcs;have hval:=h.Q0 hD _ _ Nn;rw [hx] at hval;simp only [VR] at hval;obtain ⟨Tp,cap,hx0,hcap,c,e',f,hb,Nk⟩:=hval;have nL:(execOp a.eval o).run P w=((Builtin.append_ #[t,t2] o.type #[a.eval x0,a.eval y0]).run P w).andThen fun v w' => .ok (.value v) w' :=by
     simp_all [guard,execOp,resolve,invoke,builtin]
    have qF:vn.length=m * sz:=by grind [H8.length]
    subst hsi hbi;have hO:=h.H id _ hl0;simp only [OR] at hO;obtain ⟨_,c0,e0,f0,h1,EU,hnf,aT9,h5⟩:=hO;rw [hb] at h1;cases h1;have Ht:=wv hone Nq;have bg0:id≠newId st u5:=by grind
    by_cases hfit:len+m<=cap
    ·
     have hrun:=cK (P:=P) (w:=w) (ty:=o.type) hu hi ht2 (base:=some (ad (I id).1 ((I id).2+0))) (sLen:=len) (sCap:=cap) hl (hf w rfl) hfit;have hbig:(len+m) * i.size<=cap * i.size:=M3 _ hfit;rw [Nat.add_mul] at hbig;have ah9:(I id).2+len * i.size+vn.length<=c.size:=by omega
     have hst:=run_storeCells_at (P:=P) (I id).1 ((I id).2+0+len * i.size) e' f vn 0 c w hb hnf (by omega) Ht;have nM :(I id).2+0+len * i.size+vn.length<=c.toList.length:=by simp;omega
     have nK :(J4 c.toList ((I id).2+0+len * i.size) vn).toArray.size=c.size:=by simp_all [List.size_toArray,jC,Array.length_toList]
     have hw:=vA (G:=G) hb EU nK;have hxx:=hw.ext.trans (Ext.aG1 (w:=w.setRow (I id).1 (J4 c.toList ((I id).2+0+len * i.size) vn).toArray) (id' :=newId st u5) hw.jY);have hkk:∀ q,aK q G w (fV G (I id).1 (.obj (newId st u5))) (w.setRow (I id).1 (J4 c.toList ((I id).2+0+len * i.size) vn).toArray):=by
      intro q b n hbq;have hne:b≠(I id).1:=by grind
      exact ⟨by simp_all [G5],hw.other b hne⟩
     have hII:∀ i',N i' ->oB I (newId st u5) ((I id).1,(I id).2) i' =I i' :=fun i' hN=>bU (by grind)
     refine ⟨.slice (some (ad (I id).1 ((I id).2+0))) (len+m) cap,w.setRow (I id).1 (J4 c.toList ((I id).2+0+len * i.size) vn).toArray,fV G (I id).1 (.obj (newId st u5)),oB I (newId st u5) ((I id).1,(I id).2),?_,
      bE.renew h hk Z9 entry hl0 hid hmay hxx hkk (fun id' hne b hbq=> ?_) (fun b hbq=> ?_) hII ?_ ?_ (.obj id::st.p6) (by simp [Touch.J3])⟩
     .simp_all [Z7,Nat.add_zero]
     .have hnb:b≠(I id).1:=by grind
      exact ⟨by simp_all [G5],hw.other b hnb⟩
     .have hwb:w.heap.size<=b:=by simp_all
      have hne:b≠(I id).1:=by
       grind
      rw [G5 hne];exact h.wf b hwb
     .simp only [OR,V9]
      have mono:∀ {pl:Place} {b:j3} {u:Value},VR G I N w pl b u->VR (fV G (I id).1 (.obj (newId st u5))) (oB I (newId st u5) ((I id).1,(I id).2)) (fun i=>N i\/i=newId st u5) (w.setRow (I id).1 (J4 c.toList ((I id).2+0+len * i.size) vn).toArray) pl b u :=
       fun hq=>VR.mono hxx.sub hII (fun _ h=>Or.inl h) _ _ _ (Or.inr (hkk _)) hq
      refine ⟨Or.inr trivial,_,e',f,setRow_heap w _ c _ e' f hb,by simp,by simp_all,?_,fun j b hj=> ?_⟩
      .grind
      .rw [show (J4 c.toList ((I id).2+0+len * i.size) vn).toArray[(I id).2+j]? =(J4 c.toList ((I id).2+0+len * i.size) vn)[(I id).2+j]? from by simp,gw _ _ _ nM]
       have hjl:=r9 hj;rw [n9,A1,hcl] at hjl
       by_cases No:j<l0.length
       .rw [q7 (by simp_all),List.getElem?_map,l5 No] at hj
        rw [if_pos (by omega)];simp only [E2,Option.some.injEq] at hj;subst hj;obtain ⟨v,g1,g2⟩:=h5 j _ (l5 No);exact ⟨v,by simp_all,mono g2.I7⟩
       .rw [p7 (by simp_all),A1] at hj
        rw [if_neg (by omega),if_pos (by omega)];obtain ⟨u,r1,r2⟩:=H8.get _ _ Nq (j - l0.length) b hj;exact ⟨u,by grind,mono r2.place⟩
     .simp only [VR,V9]
      exact ⟨Or.inr trivial,cap,rfl,hfit,_,e',f,setRow_heap w _ c _ e' f hb,by omega⟩
    ·
     have hlt:cap<len+m:=by omega
     have Ts:∃ vo:List Value,vo.length=len * i.size/\(∀ w2:World,w2.heap=w.heap->(Builtin.firstCells i.size len (.slice (some (ad (I id).1 ((I id).2+0))) len cap)).run P w2= .ok vo.toArray w2) /\
       (∀ (j:Nat) b,l0[j]? =some b->∃ v,vo[j]? =some v/\VR G I N w (.cell id j) b v):=by
      refine ⟨(List.range (len * i.size)).map (fun j=>(c[(I id).2+j]?).getD default),by simp,fun w2 Lv=> ?_,fun j b hj=> ?_⟩
      .have:=run_loadCells_list (P:=P) w2 (ad (I id).1 ((I id).2+0)) ((List.range (len * i.size)).map (fun j=>(c[(I id).2+j]?).getD default)) (fun j v hj=>by
        have hjn:j<len * i.size:=by
         grind
        simp [hjn] at hj
        grind [Z7,fC,S1])
       simp_all [Builtin.firstCells]
      grind
     obtain ⟨vo,ai5,ai6,ai7⟩:=Ts;obtain ⟨cH,zH,hrun⟩:=eH (P:=P) (w:=w) (ty:=o.type) hu hi hz ht2 (base:=some (ad (I id).1 ((I id).2+0))) (sLen:=len) (sCap:=cap) hl (hf w.drew rfl) (ai6 w.drew rfl) hlt (yd hroom hbp) (pK hroom hlt);have hnb:iG w (w.drew.alloc (.cells (vo.toArray++vn.toArray++Builtin.zeroCells z.cells (cH - (len+m))) e)) (.cells (vo.toArray++vn.toArray++Builtin.zeroCells z.cells (cH - (len+m))) e):=by
      have:=iG.alloc w.drew (.cells (vo.toArray++vn.toArray++Builtin.zeroCells z.cells (cH - (len+m))) e);exact ⟨this.os,this.tape,this.output,B5 (Nat.le_succ _) this.drawn,this.size,this.old,this.new⟩
     have hsize:(vo.toArray++vn.toArray++Builtin.zeroCells z.cells (cH - (len+m))).size=cH * i.size:=by
      simp only [Array.size_append,List.size_toArray,tU,hzs,ai5,qF];have:cH * i.size=(len+m) * i.size+(cH - (len+m)) * i.size:=by rw [<- Nat.add_mul];simp_all
      grind
     have hII:∀ i',N i' ->oB I (newId st u5) (w.heap.size,0) i' =I i' :=fun i' hN=>bU (by grind)
     refine ⟨.slice (some (ad w.heap.size 0)) (len+m) cH,_,fV G w.heap.size (.obj (newId st u5)),oB I (newId st u5) (w.heap.size,0),?_,
      bE.renew h hk Z9 entry hl0 hid hmay (hnb.ext h.wf _) (hnb.keeps h.wf _) (fun id' _=>hnb.xI h.wf _ id') (hnb.wf h.wf _) hII ?_ ?_ (.obj id::st.p6) (by simp [Touch.J3])⟩
     .simp_all
     .simp only [OR]
      have mono:∀ {pl:Place} {b:j3} {u:Value},VR G I N w pl b u->VR (fV G w.heap.size (.obj (newId st u5))) (oB I (newId st u5) (w.heap.size,0)) (fun i=>N i\/i=newId st u5) _ pl b u :=
       fun hq=>VR.mono (hnb.ext h.wf _).sub hII (fun _ h=>Or.inl h) _ _ _ (Or.inr (hnb.keeps h.wf _ _)) hq
      refine ⟨Or.inr trivial,_,e,(0,0),by rw [V9];exact hnb.new,by simp,lz _,?_,fun j b hj=> ?_⟩
      .grind [V9,n9,A1,M3,Nat.add_mul]
      .have hjl:=r9 hj
       rw [n9,A1,hcl] at hjl;simp only [V9,Nat.zero_add];rw [show (vo.toArray++vn.toArray++Builtin.zeroCells z.cells (cH - (len+m)))[j]? =(vo++vn++(Builtin.zeroCells z.cells (cH - (len+m))).toList)[j]? from by grind,
        q7 (by simp_all)]
       by_cases No:j<l0.length
       .rw [q7 (by simp_all),List.getElem?_map,l5 No] at hj
        rw [q7 (by omega)];simp only [E2,Option.some.injEq] at hj;subst hj;obtain ⟨v,g1,g2⟩:=ai7 j _ (l5 No);exact ⟨v,g1,mono g2.I7⟩
       .rw [p7 (by simp_all),A1] at hj
        rw [p7 (by omega)];obtain ⟨u,r1,r2⟩:=H8.get _ _ Nq (j - l0.length) b hj;exact ⟨u,by simp_all,(mono r2).place⟩
     .simp only [VR]
      refine ⟨Or.inr trivial,cH,by simp,zH,_,e,(0,0),by rw [V9];exact hnb.new,?_⟩;simp_all
   .cases he
  .cases he
 .cases he
end
end Go.Abs
namespace Go.Abs
variable [D5]
structure sr (u5:Option Nat)(X:Cx)(l:F2)(S:Nat->Prop)(entry:Nat)(st:F4)(a:Act)(w:World)(G:Gh)(I:Q9)(N:Nat->Prop)
  (st' :F4) (k:Nat) (x' :Value) (w' :World) (G' :Gh) (I' :Q9) (N' :Nat->Prop):Prop where
 mid:bE X l S entry st a w G I N st' k x' w' G' I' N'
 bt:∀ id,N' id->id<st'.H.length
 old:∀ id,id<st.H.length->N' id->N id\/u5=some id
def bD (P:Program)(o:Oper)(a:Act)(w:World)(R:Act->World->Prop):Prop :=
 ∀ (K:Act->World->Prop) (Q:Exit->Act->World->Prop),(∀ a' w',R a' w' ->K a' w')->o.wp P a w K Q
section
variable {P:Program} {o:Oper} {a:Act} {w w' :World} {R:Act->World->Prop}
theorem bD.value {x:Value}(h:(execOp a.eval o).run P w= .ok (.value x) w')(hR:R (a.put o.dst x) w'):bD P o a w R:=by
 intro K Q hK;simp_all [Oper.wp,Oper.upon]
theorem bD.skip (h:(execOp a.eval o).run P w= .ok .skip w')(hR:R (a.put o.dst undef) w'):bD P o a w R:=by
 intro K Q hK;simp_all [Oper.wp,Oper.upon]
theorem bD.defer {d:Deferred}(h:(execOp a.eval o).run P w= .ok (.defer d) w')(hR:R ({ a with defers:=d::a.defers }.put o.dst undef) w'):bD P o a w R:=by
 intro K Q hK;simp_all [Oper.wp,Oper.upon]
theorem bD.enter {f:FuncId}{args:Array Value}(h:(execOp a.eval o).run P w= .ok (.enter f args) w)(hR:Calls P f args w fun e w' =>∃ x,e= .returned x/\R (a.put o.dst x) w'):bD P o a w R:=by
 intro K Q hK
 grind [Oper.wp,Oper.upon,Calls.mono]
end
def xR (P:Program)(ck:Operand->u9->Bool)(o:Oper)(op:z6):Bool :=
 match o.op,op with
 | .call ⟨.value (.func f),args,_⟩,.call g ys=>f==g&&Ss ck args.toList ys&&T3 P f
 | .call ⟨.value x,args,_⟩,.aD y ys=>ck x y&&Ss ck args.toList ys
 |_,_=>false
def GF (ck:Operand->u9->Bool)(o:Oper)(op:z6):Bool :=
 match o.op,op with
 | .defer ⟨.value x,args,_⟩,.defer y=>ck x y&&args.isEmpty
 |_,_=>false
def uE (ck:Operand->u9->Bool)(o:Oper)(y:u9):Bool :=
 match o.op with
 | .move x=>ck x y
 | .assign x=>ck x y
 |_=>false
def Y6 (P:Program)(ck:Operand->u9->Bool)(o:Oper)(op:z6):Bool :=
 match op with
 | .R2 y=>uE ck o y
 | .alloc _=>bF P ck o op
 | .box _=>bF P ck o op
 | .makeMap=>bF P ck o op
 | .qh x=>uE ck o (.const (.d x))
 | .own _ x=>uE ck o x
 | .mL .. =>bF P ck o op
 | .A2 .. =>bF P ck o op
 | .store .. =>yU P ck o op
 | .append _ _ _ _ _=>dF P ck o op
 | .ep sz bytes x y=>dF P ck o (.append sz bytes true x y)
 | .dw .. =>KX P ck o op
 | .call .. =>xR P ck o op
 | .aD .. =>xR P ck o op
 | .defer _=>GF ck o op
 | .clear .. =>yS P ck o op
 | .bad=>true
 |op=>C7 P ck o op
section
variable {P:Program} {X:Cx} {l:F2} {S:Nat->Prop} {st st' :F4} {a:Act} {w w' :World} {G G' :Gh} {I I' :Q9} {N N' :Nat->Prop} {D:Nat->Bool} {l6:List p9}
def sr.gT {u5:Option Nat}{entry k:Nat}{x:Value}(ek:∀ id,N id->id<st.H.length)(h:bE X l S entry st a w G I N st' k x w' G' I' N):sr u5 X l S entry st a w G I N st' k x w' G' I' N :=
 ⟨h,fun id hid=>Nat.lt_of_lt_of_le (ek id hid) h.len,fun _ _ h=>Or.inl h⟩
def sr.LO {entry k:Nat}{x:Value}{u5:Option Nat}(ek:∀ id,N id->id<st.H.length){o:x9}{v:j3}(hi:∀ i,u5=some i->i<st.H.length)
  (h:bE X l S entry st a w G I N (put (F0 st u5 o) k v) k x w' G' I' N') (hN:∀ i,N' i↔N i\/i=newId st u5) :
  sr u5 X l S entry st a w G I N (put (F0 st u5 o) k v) k x w' G' I' N' :=by
 refine ⟨h,fun id hid=> ?_,fun id hlt hid=> ?_⟩
 all_goals (simp_all [put,F0,newId]<;>grind)
def qX {l1 l2:List j3}{v1 v2:List Value}:∀ (_:H8 G I N w l1 v1) (_:H8 G I N w l2 v2),H8 G I N w (l1++l2) (v1++v2):=by
 induction l1 generalizing v1 with
 |nil=>simp_all [H8]
 |cons b bs ih =>
  grind [H8]
structure fW (X:Cx)(st:F4)(a:Act)(w:World)(I:Q9)(op:z6)(x:Value):Prop where
 R2:∀ s t,op= .R2 (.slot s)->X.names[s]? =some t->x=a.tmps.getD t undef
 load:∀ y id off,op= .load none y->aY st y=some (id,off)->w.cell? (ad (I id).1 ((I id).2+off))=some x
def fW.other {X:Cx}{st:F4}{a:Act}{w:World}{I:Q9}{op:z6}{x:Value}(h1:∀ y,op≠ .R2 y)(h2:∀ n y,op≠ .load n y):fW X st a w I op x :=
 ⟨fun _ _ h=>absurd h (h1 _),fun _ _ _ h=>absurd h (h2 _ _)⟩
def Yx {st:F4}{y:u9}{id off:Nat}(h:aY st y=some (id,off)):G9 st.T st.L y= .ptr id off:=by
 unfold aY at h
 grind [G9,List.getD,j3.I7]
def QO {ck:Operand->u9->Bool}{η:Operand->Value}{ρ:u9->j3}{H:q8}(hρ:aT ck G I N w η ρ)(hH:HR G I N w H){o:Oper}{y:u9}(hc:C7 P ck o (.load none y)=true){v:j3}{rs:List Nat}
  (h:o6 ρ H (.load none y)=some (v,rs)) {id off:Nat} (hp:ρ y= .ptr id off) {x:Value} (hx:(execOp η o).run P w= .ok (.value x) w):w.cell? (ad (I id).1 ((I id).2+off))=some x:=by
 obtain ⟨dst,cn,ty,pos,after,guard⟩:=o;cases cn<;>simp [C7] at hc;rename_i t x';have h1:=hρ _ _ hc.1;have ha:dn P t=some false:=by simp_all [rQ]
 simp [o6,hp] at h;rw [hp] at h1;simp [VR] at h1;split at h
 .rename_i u hu
  obtain ⟨_,xs,g1,_,g3,g4⟩:=hH.rd hu (by omega);obtain ⟨z,rfl⟩:∃ z,xs=[z]:=by
   match xs,g1 with
   |[z],_=>simp_all
  have hz:=g3 0 z rfl;simp_all [execOp,Instr.loadAt,Instr.sureAddr,loadVar,cq]
 .cases h
def yq (P:Program)(idle:FuncId->Bool)(u5:Option Nat)(X:Cx)(l:F2)(S:Nat->Prop)(entry:Nat)(st:F4)(a:Act)(w:World)(G:Gh)(I:Q9)(N:Nat->Prop)(st' :F4)(k:Nat)(o:Oper)(op:z6)(a' :Act)(w' :World):Prop :=
 ∃ x ds G' I' N',fW X st a w I op x/\a' =({ a with defers:=ds }:Act).put o.dst x/\(ds=a.defers\/∃ d,ds=d::a.defers/\Gn P idle d)/\sr u5 X l S entry st a w G I N st' k x w' G' I' N'
def IZ {E:Env}(Nl:mZ P E.cf E.prom)(eY:∀ f args H lm r,E.cf f args H lm=some r->T3 P f=true)(hE:E.lim=l)(h:RI X l S st a w G I N)(hpv:PV X l6 S st a w I)(hT:st.T.length=X.names.length)
  (ek:∀ id,N id->id<st.H.length) (hb:l.base<=st.H.length) (hs:l.strict<=l.base) (hD:∀ j,D j=true->S j) {k:Nat} (hk:¬ S k) (Z9:k<st.L.length) {o:Oper} {op:z6} (hc:Y6 P (X.ck D) o op=true)
  {u5:Option Nat} (hid:op.B4=true->yB l st N u5) {rs:List Nat} (he:E5 E l6 u5 k op st=some (st',rs)) :
  bD P o a w (yq P E.idle u5 X l S E.entry st a w G I N st' k o op):=by
 have hρ:=h.Q0 hD;have fin:∀ {x:Value} {w' :World} {G' :Gh} {I' :Q9} {N' :Nat->Prop},fW X st a w I op x->sr u5 X l S E.entry st a w G I N st' k x w' G' I' N' ->yq P E.idle u5 X l S E.entry st a w G I N st' k o op (a.put o.dst x) w' :=
  fun {x w' G' I' N'} hF hS=>⟨x,a.defers,G',I',N',hF,rfl,Or.inl rfl,hS⟩
 have UE:∀ {v:j3} {rs:List Nat},(∀ y,op≠ .R2 y)->C7 P (X.ck D) o op=true->o6 (G9 st.T st.L) st.H op=some (v,rs)->st' =put st k v->bD P o a w (yq P E.idle u5 X l S E.entry st a w G I N st' k o op):=by
  intro v rs hm h1 h2 h3;subst h3;obtain ⟨x,g1,g2⟩:=LZ (P:=P) (fun v=>by rfl) hρ h.H h1 h2;refine bD.value g1 (fin ⟨fun s t e=>absurd e (hm _),fun y id off e hp=> ?_⟩ (sr.gT ek (bE.same h hk Z9 E.entry g2.place)));subst e;exact QO hρ h.H h1 h2 (Yx hp) g1
 have Gz:(∀ y,op≠ .R2 y)->(∀ n y,op≠ .load n y)->∀ (f:FuncId) (args:List j3) (I6:Array Value),H8 G I N w args I6.toList->D7 E k f args st=some st' ->(execOp a.eval o).run P w=(callFunc f I6).run P w->bD P o a w (yq P E.idle u5 X l S E.entry st a w G I N st' k o op):=by
  intro hm hl f args I6 h1 h2 h3;have hcan:T3 P f=true:=by
   unfold D7 at h2;split at h2
   .split at h2
    .rename_i Lq
     exact eY f _ _ _ _ Lq
    .cases h2
   .simp only at h2
    split at h2
    .split at h2
     .split at h2
      .rename_i Lq
       exact eY f _ _ _ _ Lq
      .cases h2
     .split at h2
      .rename_i Lq
       exact eY f _ _ _ _ Lq
      .cases h2
     .split at h2
      .rename_i Lq
       exact eY f _ _ _ _ Lq
      .cases h2
    .cases h2
  refine bD.enter (f:=f) (args:=I6) (by rw [h3];exact tC hcan I6) ?_;refine Calls.mono (Ql Nl hE h ek hb hs hk Z9 E.entry h1 h2) ?_;rintro e w' ⟨x,G',I',N',rfl,hC⟩;exact ⟨x,rfl,fin (fW.other hm hl) ⟨hC.mid,hC.bt,fun id hlt hid=>Or.inl (hC.old id hlt hid)⟩⟩
 unfold E5 at he;cases op
 case R2 y =>
  simp only [z6.E3,j5,if_false] at he;cases he;simp only [Y6] at hc;have key:∀ x,X.ck D x y=true->(execOp a.eval o).run P w= .ok (.value (a.eval x)) w->bD P o a w (yq P E.idle u5 X l S E.entry st a w G I N (put (E1 st y).2 k (E1 st y).1) k o (.R2 y)):=by
   intro x hx hrun;obtain ⟨G1,hX⟩:=h.E1 hD hx (pl:= .loc k) (by simp);have hM:=bE.same hX.ri hk (by rw [Bn];exact Z9) E.entry hX.val;exact bD.value hrun (fin ⟨fun s t e hn=>by cases e;simp only [Cx.ck] at hx;split at hx<;>simp_all [Act.eval],fun _ _ _ e=>by cases e⟩ (sr.gT ek (bE.pre hX.ext hX.keeps hX.obj (vB st y) hM)))
  obtain ⟨dst,cn,ty,pos,after,guard⟩:=o;cases cn<;>simp only [uE] at hc<;>try (cases hc;done)
  .exact key _ hc (by simp [execOp])
  .exact key _ hc (by simp [execOp])
 case alloc zero =>
  simp only [z6.E3,if_true,E7] at he;cases he;have h1:=hid rfl;obtain ⟨x,w',G',I',N',g1,g2,g3⟩:=QV h hk Z9 E.entry h1 (by simpa [Y6] using hc);exact bD.value g1 (fin (fW.other (by simp) (by simp)) (sr.LO ek h1.inside g2 g3))
 case box y =>
  simp only [z6.E3,if_true,E7] at he;split at he
  .rename_i hcs
   split at hcs
   .rename_i cs nK
    cases hcs;cases he;have h1:=hid rfl;obtain ⟨x,w',G',I',N',g1,g2,g3⟩:=Yd h hρ hk Z9 E.entry h1 (by simpa [Y6] using hc) nK;exact bD.value g1 (fin (fW.other (by simp) (by simp)) (sr.LO ek h1.inside g2 g3))
   .cases hcs
  .cases he
 case qh d =>
  simp only [z6.E3,if_true,E7] at he;cases he;simp only [Y6] at hc;have key:∀ x,X.ck D x (.const (.d d))=true->(execOp a.eval o).run P w= .ok (.value (a.eval x)) w->bD P o a w (yq P E.idle u5 X l S E.entry st a w G I N (put st k (.d d)) k o (.qh d)):=by
   intro x hx hrun;have g2:VR G I N w .none (.d d) (a.eval x):=hρ x _ hx;exact bD.value hrun (fin (fW.other (by simp) (by simp)) (sr.gT ek (bE.same h hk Z9 E.entry g2.place)))
  obtain ⟨dst,cn,ty,pos,after,guard⟩:=o;cases cn<;>simp only [uE] at hc<;>try (cases hc;done)
  .exact key _ hc (by simp [execOp])
  .exact key _ hc (by simp [execOp])
 case own sz y =>
  simp only [z6.E3,if_true,E7] at he;split at he
  .rename_i hcs
   split at hcs
   .rename_i len cells st1 ht
    cases hcs;cases he;simp only [Y6] at hc;have key:∀ x,X.ck D x y=true->(execOp a.eval o).run P w= .ok (.value (a.eval x)) w ->
      bD P o a w (yq P E.idle u5 X l S E.entry st a w G I N (put st1 k (.own sz len cells)) k o (.own sz y)):=by
     intro x hx hrun;obtain ⟨G1,Hh⟩:=qK h hpv hT hD hk hx (hE ▸ ht);exact bD.value hrun (fin (fW.other (by simp) (by simp)) (sr.gT ek (bE.Yi Hh (bE.same Hh.ri hk (by rw [Hh.L];exact Z9) E.entry Hh.val))))
    obtain ⟨dst,cn,ty,pos,after,guard⟩:=o;cases cn<;>simp only [uE] at hc<;>try (cases hc;done)
    .exact key _ hc (by simp [execOp])
    .exact key _ hc (by simp [execOp])
   .cases hcs
  .cases he
 case makeMap =>
  simp only [z6.E3,if_true,E7] at he;cases he;have h1:=hid rfl;obtain ⟨x,w',G',I',N',g1,g2,g3⟩:=Ye (P:=P) h hk Z9 E.entry h1 (by simpa [Y6] using hc);exact bD.value g1 (fin (fW.other (by simp) (by simp)) (sr.LO ek h1.inside g2 g3))
 case mL sz zero x y =>
  simp only [z6.E3,if_true,E7] at he;split at he
  .rename_i hcs
   split at hcs
   .rename_i n hn
    cases hcs;cases he;have h1:=hid rfl;obtain ⟨x,w',G',I',N',g1,g2,g3⟩:=QW h hρ hk Z9 E.entry h1 (by simpa [Y6] using hc) hn;exact bD.value g1 (fin (fW.other (by simp) (by simp)) (sr.LO ek h1.inside g2 g3))
   .cases hcs
  .cases he
 case A2 sz len zero parts ob =>
  cases ob with
  |false =>
   simp only [z6.E3,j5,if_false] at he;split at he
   .rename_i v rs' hp
    cases he;obtain ⟨x,w',G',g1,g2⟩:=QX h hρ hk Z9 E.entry (by simpa [Y6] using hc) hp;exact bD.value g1 (fin (fW.other (by simp) (by simp)) (sr.gT ek g2))
   .cases he
  |true =>
   simp only [z6.E3,if_true,E7] at he;split at he
   .rename_i hcs
    split at hcs
    .rename_i cs nK
     split at hcs
     .rename_i hl
      cases hcs;cases he;have h1:=hid rfl;obtain ⟨x,w',G',I',N',g1,g2,g3⟩:=Fh h hρ hk Z9 E.entry h1 (by simpa [Y6] using hc) nK hl.2;exact bD.value g1 (fin (fW.other (by simp) (by simp)) (sr.LO ek h1.inside g2 g3))
     .cases hcs
    .cases hcs
   .cases he
 case store n x y =>
  simp only [z6.E3,if_true,E7] at he;split at he
  .rename_i hst
   cases he;obtain ⟨w',G',g1,g2⟩:=Qn h hD hk Z9 E.entry (by simpa [Y6] using hc) hE hst;exact bD.skip g1 (fin (fW.other (by simp) (by simp)) (sr.gT ek g2))
  .cases he
 case ep sz bytes x y =>
  simp only [Y6] at hc;have h1:=hid rfl;simp only [z6.E3,if_true,E7] at he;split at he
  .rename_i hst
   cases he;split at hst
   .rename_i id z lo len hx
    split at hst
    .rename_i hz
     subst hz;obtain ⟨v,w',G',I',g1,g2⟩:=BT h hD hk Z9 E.entry h1 hc hE hx hst;refine bD.value g1 (fin (fW.other (by simp) (by simp)) ⟨g2,fun id hid=> ?_,fun id hlt hid=> ?_⟩)
     .rcases hid with hid|rfl
      .exact Nat.lt_of_lt_of_le (ek id hid) g2.len
      .unfold Z0 at hst
       split at hst
       .split at hst
        .split at hst
         .cases hst
          cases u5 with
          |none=>simp [put,F0,newId]
          |some i=>simpa [put,F0,newId] using h1.inside i rfl
         .cases hst
        .cases hst
       .cases hst
     .rcases hid with hid|rfl
      .exact Or.inl hid
      .cases u5 with
       |none=>simp [newId] at hlt
       |some i=>exact Or.inr rfl
    .cases hst
   .rcases qw h hpv hT hD hk Z9 E.entry h1 hc hE hst with ⟨v,w',G',g1,g2⟩|⟨v,w',G',I',N',ob,av,g1,rfl,g2,g3⟩
    .exact bD.value g1 (fin (fW.other (by simp) (by simp)) (sr.gT ek g2))
    .exact bD.value g1 (fin (fW.other (by simp) (by simp)) (sr.LO ek h1.inside g2 g3))
  .cases he
 case append sz bytes ob x y =>
  simp only [Y6] at hc;simp only [z6.E3,if_true,E7] at he;split at he
  .rename_i hst
   cases he;split at hst
   .rename_i id z lo len hx
    split at hst
    .rename_i hz
     subst hz;obtain ⟨v,w',G',I',g1,g2⟩:=BU h hD hk Z9 hc hE hx hst;exact bD.value g1 (fin (fW.other (by simp) (by simp)) (sr.gT ek g2))
    .cases hst
   .cases ob with
    |false =>
     obtain ⟨v,w',G',g1,g2⟩:=Lf h hpv hT hD hk Z9 E.entry hc hE hst;exact bD.value g1 (fin (fW.other (by simp) (by simp)) (sr.gT ek g2))
    |true =>
     have h1:=hid rfl
     rcases qw h hpv hT hD hk Z9 E.entry h1 hc hE hst with ⟨v,w',G',g1,g2⟩|⟨v,w',G',I',N',ob,av,g1,rfl,g2,g3⟩
     .exact bD.value g1 (fin (fW.other (by simp) (by simp)) (sr.gT ek g2))
     .exact bD.value g1 (fin (fW.other (by simp) (by simp)) (sr.LO ek h1.inside g2 g3))
  .cases he
 case dw kk m ky v =>
  simp only [z6.E3,if_true,E7] at he;split at he
  .rename_i hst
   cases he;obtain ⟨w',g1,g2⟩:=Lg h hD hk Z9 E.entry (by simpa [Y6] using hc) hE hst;exact bD.skip g1 (fin (fW.other (by simp) (by simp)) (sr.gT ek g2))
  .cases he
 case call f ys =>
  simp only [z6.E3,if_true,E7] at he;split at he
  .rename_i hst
   cases he;simp only [Y6,xR] at hc;split at hc
   .rename_i f' args _ g ys' hop heq
    cases heq;simp only [c9,beq_iff_eq] at hc;obtain ⟨⟨rfl,hcs⟩,hcan⟩:=hc;refine Gz (by simp) (by simp) f' (ys.map (G9 st.T st.L)) (args.map a.eval) (by simpa using ij hρ _ _ hcs) hst ?_;simp [execOp,hop,resolve,Act.eval,Deferred.ofValue,invoke]
   .rename_i heq;cases heq
   .cases hc
  .cases he
 case aD y ys =>
  simp only [z6.E3,if_true,E7] at he;split at he
  .rename_i hst
   cases he;simp only [Y6,xR] at hc;split at hc
   .rename_i heq;cases heq
   .rename_i x args _ y' ys' hop heq
    cases heq;simp only [c9] at hc;have hv:=hρ _ _ hc.1;split at hst
    .rename_i f first caps hy
     rw [hy] at hv;simp only [VR] at hv;obtain ⟨vf,vc,e1,e2,e3⟩:=hv;refine Gz (by simp) (by simp) f (first++ys.map (G9 st.T st.L)++caps) (vf++args.map a.eval++vc) ?_ hst ?_
     .simp only [Array.toList_append,Array.toList_map]
      exact qX (qX e2 (ij hρ _ _ hc.2)) e3
     .simp [execOp,hop,resolve,e1,Deferred.ofValue,invoke]
    .cases hst
   .cases hc
  .cases he
 case defer y =>
  simp only [z6.E3,if_true,E7] at he;split at he
  .rename_i hst
   cases he;simp only [Y6,GF] at hc;split at hc
   .rename_i x args _ y' hop heq
    cases heq;simp only [c9] at hc;have hv:=hρ _ _ hc.1;split at hst
    .rename_i f first caps hy
     split at hst
     .rename_i CL
      cases hst;rw [hy] at hv;simp only [VR] at hv;obtain ⟨vf,vc,e1,e2,e3⟩:=hv;have hrun:(execOp a.eval o).run P w= .ok (.defer { target:= .fn (.func f) vc,args:=vf++args.map a.eval }) w:=by
       simp [execOp,hop,resolve,e1,Deferred.ofValue]
      refine bD.defer hrun ⟨undef,_,G,I,N,fW.other (by simp) (by simp),rfl,Or.inr ⟨_,rfl,f,vc,rfl,CL⟩,sr.gT ek (bE.same h hk Z9 E.entry (by simp [VR]))⟩
     .cases hst
    .cases hst
   .cases hc
  .cases he
 case clear sz zero y =>
  simp only [z6.E3,if_true,E7] at he;split at he
  .rename_i hst
   cases he;obtain ⟨w',g1,g2⟩:=Qm h hD hk Z9 E.entry (by simpa [Y6] using hc) hE hst;exact bD.value g1 (fin (fW.other (by simp) (by simp)) (sr.gT ek g2))
  .cases he
 case bad=>simp [z6.E3,o6] at he
 all_goals
  simp only [z6.E3,j5,if_false] at he;split at he
  .rename_i hp
   cases he;exact UE (by simp) (by simpa only [Y6] using hc) hp rfl
  .cases he
end
end Go.Abs
namespace Go.Abs
variable [D5]
def nx (names:List Tmp):Option Tmp->Option Nat->Bool
 |none,none=>true
 |some d,none=> !names.contains d
 |some d,some s=>names[s]? ==some d
 |none,some _=>false
def ny (X:Cx)(D:Nat->Bool):Option (Nat×Bool)->Option (Nat×Bool)->Bool
 |none,none=>true
 |some (g,b),some (g',b')=>g==g' &&b==b' &&D g&&(match (X.ops[g]?).bind (·.dst) with
  |some d=> !X.names.contains d
  |none=>false)
 |_,_=>false
def rj (X:Cx)(D:Nat->Bool)(o:Oper)(i:p9):Bool :=
 Y6 X.P (X.ck D) o i.op&&nx X.names o.dst i.dst&&ny X D o.guard i.guard
structure Stat (X:Cx)(nt:Nat):Prop where
 dup:∀ (i j:Nat) d,(X.ops[i]?).bind (·.dst)=some d->(X.ops[j]?).bind (·.dst)=some d->X.names.contains d=false->i=j
 lt:∀ (i:Nat) d,(X.ops[i]?).bind (·.dst)=some d->d<nt
 nod:∀ (s s' :Nat) t,X.names[s]? =some t->X.names[s']? =some t->s=s'
def vF (X:Cx)(S:Nat->Prop):u9->Prop
 | .loc m=>S m/\∃ t,(X.ops[m]?).bind (·.dst)=some t/\X.names.contains t=false
 | .slot s=>∃ t,X.names[s]? =some t
 | .const _=>True
structure Rg (X:Cx)(l6:List p9)(E:Env)(nt:Nat)(S:Nat->Prop)(st:F4)(a:Act)(w:World)(G:Gh)(I:Q9)(N:Nat->Prop):Prop where
 ri:RI X E.lim S st a w G I N
 pv:PV X l6 S st a w I
 cl:∀ (j:Nat) ai y,S j->l6[j]? =some ai->ai.op=z6.load none y->vF X S y
 V4:st.T.length=X.names.length
 iV:st.L.length=l6.length
 bt:∀ id,N id->id<st.H.length
 KB:E.entry<=st.H.length
 size:a.tmps.size=nt
 idle:∀ d,d ∈ a.defers->Gn X.P E.idle d
structure aA (E:Env)(H0:q8)(w0:World)(G0:Gh)(I0:Q9)(N0:Nat->Prop)(H:q8)(w:World)(G:Gh)(I:Q9)(N:Nat->Prop):Prop where
 ext:Ext G0 w0 G w
 eE:ki E.lim G0 w0 G w
 inj:∀ id,id<E.entry->N0 id->I id=I0 id
 mono:∀ id,id<E.entry->N0 id->N id
 old:∀ id,id<E.entry->N id->N0 id
 hle:∀ (id:Nat) (o' :x9),id<E.lim.base->H[id]? =some o' ->o'.L7<=id+1\/∃ o:x9,H0[id]? =some o/\o'.L7<=o.L7
theorem aA.refl (E:Env)(H:q8)(w:World)(G:Gh)(I:Q9)(N:Nat->Prop):aA E H w G I N H w G I N :=
 ⟨Ext.refl _ _,ki.refl _ _ _,fun _ _ _=>rfl,fun _ _ h=>h,fun _ _ h=>h,fun _ o _ h=>Or.inr ⟨o,h,o5 _⟩⟩
theorem aA.trans {E:Env}{H0 H1 H2:q8}{w0 w1 w2:World}{G0 G1 G2:Gh}{I0 I1 I2:Q9}{N0 N1 N2:Nat->Prop}
  (h:aA E H0 w0 G0 I0 N0 H1 w1 G1 I1 N1) (k:aA E H1 w1 G1 I1 N1 H2 w2 G2 I2 N2):aA E H0 w0 G0 I0 N0 H2 w2 G2 I2 N2 where
 ext:=h.ext.trans k.ext
 eE:=h.eE.trans k.eE
 inj id hid hN:=(k.inj id hid (h.mono id hid hN)).trans (h.inj id hid hN)
 mono id hid hN:=k.mono id hid (h.mono id hid hN)
 old id hid hN:=h.old id hid (k.old id hid hN)
 hle id o' hb ho:=by
  rcases k.hle id o' hb ho with h1|⟨o1,h1,h2⟩
  .omega
  .rcases h.hle id o1 hb h1 with h3|⟨o,h3,h4⟩
   all_goals grind
section
variable {X:Cx} {l6:List p9} {E:Env} {nt:Nat} {S:Nat->Prop} {st st1 st2:F4} {a:Act} {w w' :World} {G G' :Gh} {I I' :Q9} {N N' :Nat->Prop} {D:Nat->Bool}
def Rg.ba3 (h:Rg X l6 E nt S st a w G I N){y:u9}(hy:vF X S y){id off:Nat}(hp:aY st y=some (id,off)):N id:=by
 unfold aY at hp;split at hp
 .rename_i m
  split at hp
  .obtain ⟨h1,t,h2,h3⟩:=hy
   have:=h.ri.L m h1 t h2 h3;simp_all [ay,VR]
  .cases hp
 .rename_i s
  split at hp
  .cases hp
  .split at hp
   .obtain ⟨t,ht⟩:=hy
    have:=h.ri.T s t ht;simp_all [ay,VR]
   .cases hp
 .cases hp
theorem S0 {u5:Option Nat}{k:Nat}{dst:Option Nat}(h:u7 u5 st1 k dst=some st2) :
  (dst=none/\st2=st1)\/∃ s p6,dst=some s/\s<st1.T.length/\st2={ (E1 st1 (.loc k)).2 with T:=st1.T.set s (E1 st1 (.loc k)).1,p6 }/\(p6= .slot s::st1.p6\/(p6=st1.p6/\st1.p6.any (Touch.T4 s)=true)):=by
 unfold u7 at h;split at h
 .simp_all [G4]<;>grind
 .cases dst with
  |none=>cases h;simp_all
  |some s =>
   grind [W7,E1]
theorem AY {u5:Option Nat}{k:Nat}{dst:Option Nat}(h:u7 u5 st1 k dst=some st2)(p:Touch->Bool)(hp:st1.p6.any p=true):st2.p6.any p=true:=by
 rcases S0 h with ⟨_,rfl⟩|⟨s,p6,_,_,rfl,rfl|⟨rfl,_⟩⟩
 all_goals simp_all
theorem AW {u5:Option Nat}{k s:Nat}{dst:Option Nat}(h:u7 u5 st1 k dst=some st2)(hd:dst=some s):st2.p6.any (Touch.T4 s)=true:=by
 grind [S0,Touch.T4]
def oA {u5:Option Nat}{k:Nat}{dst:Option Nat}(h:u7 u5 st1 k dst=some st2):st2.H=st1.H:=by
 grind [S0,vB]
def Jg {u5:Option Nat}{k:Nat}{dst:Option Nat}(h:u7 u5 st1 k dst=some st2):st2.L.length=st1.L.length:=by
 grind [S0,Bn]
def Jh {u5:Option Nat}{k:Nat}{dst:Option Nat}(h:u7 u5 st1 k dst=some st2):st2.T.length=st1.T.length:=by
 grind [S0]
theorem mD (st:F4)(k m:Nat)(h:m≠k):(E1 st (.loc k)).2.L[m]? =st.L[m]? :=by
 simp only [E1];split
 .simp only
  rw [y9 (fun e=>h e.symm)]
 .rfl
 .rfl
theorem Jf {u5:Option Nat}{k:Nat}{dst:Option Nat}(h:u7 u5 st1 k dst=some st2){m:Nat}(hm:m≠k):st2.L[m]? =st1.L[m]? :=by
 grind [S0,mD]
def MC {u5:Option Nat}{k:Nat}{dst:Option Nat}(h:u7 u5 st1 k dst=some st2){y:u9}(hy:∀ m,y= .loc m->m≠k){id off:Nat}(hp:aY st2 y=some (id,off)):aY st1 y=some (id,off):=by
 cases y with
 |const v=>exact hp
 |loc m =>
  grind [aY,Jf]
 |slot s' =>
  simp only [aY] at hp ⊢;split at hp
  .cases hp
  .have hn' :st2.p6.any (Touch.T4 s')=false:=by simp_all
   rw [if_neg (by grind [iX,AY])]
   grind [AW,S0,y9]
def Tr.ptr {k:Nat}(h:Tr N k st st1){y:u9}(hy:∀ m,y= .loc m->m≠k){id off:Nat}(hp:aY st1 y=some (id,off)):aY st y=some (id,off):=by
 cases y with
 |const v=>exact hp
 |loc m =>
  simp [aY] at hp ⊢;split at hp
  .rename_i hl
   cases hp;rw [h.L m _ _ (hy m rfl) hl]
  .cases hp
 |slot s =>
  simp only [aY] at hp ⊢;split at hp
  .cases hp
  .rw [if_neg (by rw [iX h.p6 (by simp_all)];simp)]
   split at hp
   .rename_i hl
    cases hp;rw [h.T s _ _ hl]
   .cases hp
def bg {d:Tmp}{x:Value}(h:d<a.tmps.size):(a.put (some d) x).tmps.getD d undef=x:=by
 simp [Act.put,h]
def X7 {dst:Option Tmp}{t:Tmp}{x:Value}(h:dst≠some t):(a.put dst x).tmps.getD t undef=a.tmps.getD t undef:=by
 simp_all [Act.put]<;>grind
def size_put {dst:Option Tmp}{x:Value}:(a.put dst x).tmps.size=a.tmps.size:=by
 cases dst<;>simp [Act.put]
def lF {dst:Option Tmp}{x:Value}:(a.put dst x).defers=a.defers:=by
 cases dst<;>simp [Act.put]
theorem RI.defers {l:F2}{ds:List Deferred}(h:RI X l S st a w G I N):RI X l S st { a with defers:=ds } w G I N :=
 ⟨h.T,h.L,h.H,h.wf,h.U7⟩
def RI.after {l:F2}(hst:Stat X nt)(hsz:a.tmps.size=nt)(hT:st1.T.length=X.names.length){k:Nat}(hk:¬ S k)(Z9:k<st1.L.length){o:Oper}(ho:X.ops[k]? =some o){dst:Option Nat}(hd:nx X.names o.dst dst=true)
  (h:RI X l S st1 a w G I N) {x:Value} (hv:VR G I N w (.loc k) (st1.L.getD k .any) x) {u5:Option Nat} (hts:u7 u5 st1 k dst=some st2) :
  ∃ G',Ext G w G' w/\(∀ id off,aK (.cell id off) G w G' w)/\(∀ b id,G b= .obj id->G' b= .obj id)/\RI X l (fun j=>S j\/j=k) st2 (a.put o.dst x) w G' I N:=by
 have vX:(X.ops[k]?).bind (·.dst)=o.dst:=by rw [ho];rfl
 rcases S0 hts with ⟨rfl,rfl⟩|⟨s,eW,rfl,hs,rfl,_⟩
 .have Hr:∀ d,o.dst=some d->X.names.contains d=false:=by
   intro d hd';rw [hd'] at hd;simpa [nx] using hd
  refine ⟨G,Ext.refl _ _,fun _ _ _ _ h=>⟨h,rfl⟩,fun _ _ h=>h,?_,?_,h.H,h.wf,h.U7⟩
  .intro s t ht
   rw [X7 ?_]
   .exact h.T s t ht
   .intro e
    have h1:=Hr t e;have h2:t ∈ X.names:=List.mem_of_getElem? ht;simp [h2] at h1
  .intro j hj d BJ hjn
   rcases hj with hj|rfl
   .rw [X7 ?_]
    .exact h.L j hj d BJ hjn
    .intro e
     have:=hst.dup j k d BJ (by rw [vX];exact e) hjn;subst this;exact hk hj
   .rw [vX] at BJ
    rw [BJ,bg (by rw [hsz];exact hst.lt j d (by rw [vX];exact BJ))];exact hv
 .·cases hod:o.dst with
   |none=>rw [hod] at hd;simp [nx] at hd
   |some d =>
    rw [hod] at hd;have ek:X.names[s]? =some d:=by simpa [nx] using hd
    have hdn:X.names.contains d=true:=by
     have:d ∈ X.names:=List.mem_of_getElem? ek;simp [this]
    have aS1:d<a.tmps.size:=by rw [hsz];exact hst.lt k d (by rw [vX];exact hod)
    have main:∀ (v:j3) (st3:F4) (G' :Gh),jk (.loc k) G w G' ->VR G' I N w (.slot s) v x->st3.H=st1.H->(∀ m,m≠k->st3.L[m]? =st1.L[m]?)->st3.T=st1.T.set s v ->
      RI X l (fun j=>S j\/j=k) st3 (a.put (some d) x) w G' I N:=by
     intro v st3 G' hm XP hH hL hT3;refine ⟨?_,?_,?_,hm.wf h.wf,?_⟩
     .intro s' t ht
      rw [hT3]
      by_cases he:s' =s
      .subst he
       rw [ek] at ht;cases ht;rw [M4 _ _ _ _ hs,bg aS1];exact XP
      .rw [N8 _ _ _ _ _ (fun e=>he e.symm),X7 (fun e=>he (hst.nod s' s t ht (by rw [ek,<- Option.some_inj.1 e])))]
       exact VR.mono hm.ext (fun _ _=>rfl) (fun _ h=>h) _ _ _ (Or.inr (hm.keeps _ (by simp))) (h.T s' t ht)
     .intro j hj d' BJ hjn
      have hjk:S j:=by
       rcases hj with hj|rfl
       .exact hj
       .rw [vX,hod] at BJ;cases BJ;rw [hdn] at hjn;cases hjn
      have hne:j≠k:=by rintro rfl;exact hk hjk
      have e1:st3.L.getD j .any=st1.L.getD j .any:=by simp only [List.getD,hL j hne]
      rw [e1,X7 (fun e=>by cases e;rw [hdn] at hjn;cases hjn)];exact VR.mono hm.ext (fun _ _=>rfl) (fun _ h=>h) _ _ _ (Or.inr (hm.keeps _ (by simp;exact hne))) (h.L j hjk d' BJ hjn)
     .rw [hH];exact h.H.HS hm (by simp)
     .rw [hH];exact h.U7
    by_cases hown:∃ z n c,st1.L[k]? =some (.own z n c)
    .obtain ⟨z,n,c,ZA⟩:=hown
     rw [ay ZA] at hv;obtain ⟨G',hm,XP⟩:=iY (wC := .slot s) (by simp) hv;refine ⟨G',hm.ext,fun id off=>hm.keeps _ (by simp),hm.obj,?_⟩;have e1:(Abs.E1 st1 (.loc k)).1= .own z n c:=by simp only [Abs.E1,ZA]
     exact main (.own z n c) _ G' hm XP (vB _ _) (fun m hm=>mD st1 k m hm) (by simp only [e1])
    .by_cases hnil:st1.L[k]? =some .P5
     .have e1:Abs.E1 st1 (.loc k)=(.P5,st1):=by simp only [Abs.E1,hnil]
      refine ⟨G,Ext.refl _ _,fun _ _ _ _ h=>⟨h,rfl⟩,fun _ _ h=>h,?_⟩;refine main .P5 _ G (jk.refl _ _ _) ?_ (vB _ _) (fun m hm=>mD st1 k m hm) (by simp only [e1]);rw [ay hnil] at hv;simpa only [VR] using hv
     .have e1:Abs.E1 st1 (.loc k)=(G9 st1.T st1.L (.loc k),st1):=by
       simp only [Abs.E1];split
       .rename_i z n c hj;exact absurd ⟨z,n,c,hj⟩ hown
       .rename_i hj;exact absurd hj hnil
       .rfl
      refine ⟨G,Ext.refl _ _,fun _ _ _ _ h=>⟨h,rfl⟩,fun _ _ h=>h,?_⟩;refine main (G9 st1.T st1.L (.loc k)) _ G (jk.refl _ _ _) ?_ (vB _ _) (fun m hm=>mD st1 k m hm) (by simp only [e1]);simp only [G9];exact hv.I7
def PV.after (hst:Stat X nt)(hR:Rg X l6 E nt S st a w G I N){k:Nat}(hk:¬ S k){o:Oper}(ho:X.ops[k]? =some o){i:p9}(hi:l6[k]? =some i)(hd:nx X.names o.dst i.dst=true)
  (hcl:∀ y,i.op= .load none y->vF X S y) (htr:Tr N k st st1) {u5:Option Nat} (hts:u7 u5 st1 k i.dst=some st2) {x:Value} {ds:List Deferred}
  (hko:∀ id,N id->st1.p6.any (Touch.J3 id)=false->I' id=I id/\∀ b,G b= .obj id->w'.heap[b]? =w.heap[b]?)
  (hf:st2.L[k]? =some (.tuple [])\/fW X st a w I i.op x):PV X l6 (fun j=>S j\/j=k) st2 ({ a with defers:=ds }.put o.dst x) w' I' :=by
 have vX:(X.ops[k]?).bind (·.dst)=o.dst:=by rw [ho];rfl
 have WX:∀ j,j≠k->st2.L[j]? ≠some (.tuple [])->st.L[j]? ≠some (.tuple []):=by
  intro j hj h1 h2;rw [Jf hts hj] at h1;exact h1 (htr.WX j hj h2)
 have aj7:∀ p,st2.p6.any p=false->st.p6.any p=false/\st1.p6.any p=false:=by
  intro p hp;have h1:=iX (AY hts) hp;exact ⟨iX htr.p6 h1,h1⟩
 have Vg:∀ (s:Nat) t,X.names[s]? =some t->st2.p6.any (Touch.T4 s)=false->o.dst≠some t:=by
  intro s t ht hh e;rw [e] at hd;cases hdi:i.dst with
  |none =>
   grind [List.mem_of_getElem?,nx]
  |some s' =>
   rw [hdi] at hd hts;have h1:X.names[s']? =some t:=by simp_all [nx]
   have:=hst.nod s s' t ht h1
   grind [AW]
 have Nd:∀ (j:Nat) d,S j->(X.ops[j]?).bind (·.dst)=some d->X.names.contains d=false->o.dst≠some d:=by
  intro j d hj BJ hjn e;have:=hst.dup j k d BJ (by grind) hjn
  grind
 have GC:∀ y id off l0,vF X S y->aY st2 y=some (id,off)->st2.H[id]? =some (.cells l0)->off<l0.length->st2.p6.any (Touch.bX id off)=false ->
   aY st y=some (id,off)/\st.p6.any (Touch.bX id off)=false/\(∃ l,st.H[id]? =some (.cells l)/\off<l.length)/\w'.cell? (ad (I' id).1 ((I' id).2+off))=w.cell? (ad (I id).1 ((I id).2+off)):=by
  intro y id off l0 hy hp hH hoff hh;have hym:∀ m,y= .loc m->m≠k:=by
   rintro m rfl rfl;exact hk hy.1
  have hp1:=MC hts hym hp;have hp0:=htr.ptr hym hp1;have hN:=hR.ba3 hy hp0;have XK:st1.p6.any (Touch.J3 id)=false:=by
   cases he:st1.p6.any (Touch.J3 id) with
   |false=>rfl
   |true =>
    rw [List.any_eq_true] at he;obtain ⟨t,ht,hth⟩:=he;have:st1.p6.any (Touch.bX id off)=true:=by
     rw [List.any_eq_true];refine ⟨t,ht,?_⟩;cases t<;>simp only [Touch.J3,Touch.bX] at hth ⊢<;>first|exact hth|cases hth
    grind
  rw [oA hts] at hH;obtain ⟨l,hl,hle⟩:=htr.H id l0 hN XK hH;have hO:=hR.ri.H id _ hl
  grind [OR,World.cell?]
 refine ⟨?_,?_⟩
 .intro j ai s t d hj hsk hai hop ht BJ hjn hh
  rw [X7 (Vg s t ht hh)]
  rcases hj with hj|rfl
  .rw [X7 (Nd j d hj BJ hjn)]
   exact hR.pv.slot j ai s t d hj (WX j (by grind) hsk) hai hop ht BJ hjn (aj7 _ hh).1
  .rw [hi] at hai;cases hai
   rw [vX] at BJ;rw [BJ,bg (by simp only;rw [hR.size];exact hst.lt j d (by grind))]
   rcases hf with hf|hf
   .grind
   .exact hf.R2 s t hop ht
 .intro j ai y id off d l0 hj hsk hai hop hp hH hoff hh BJ hjn
  rcases hj with hj|rfl
  .have hy:=hR.cl j ai y hj hai hop
   obtain ⟨h1,h2,⟨l,h3,h4⟩,h5⟩:=GC y id off l0 hy hp hH hoff hh;rw [X7 (Nd j d hj BJ hjn),h5];exact hR.pv.cell j ai y id off d l hj (WX j (by grind) hsk) hai hop h1 h3 h4 h2 BJ hjn
  .rw [hi] at hai;cases hai
   have hy:=hcl y hop;obtain ⟨h1,h2,⟨l,h3,h4⟩,h5⟩:=GC y id off l0 hy hp hH hoff hh;rw [vX] at BJ;rw [BJ,bg (by simp only;rw [hR.size];exact hst.lt j d (by grind)),h5]
   rcases hf with hf|hf
   .grind
   .exact hf.load y id off hop h1
end
end Go.Abs
namespace Go.Abs
variable [D5]
section
variable {X:Cx} {l6:List p9} {E:Env} {nt:Nat} {S:Nat->Prop} {st st1 st2:F4} {a:Act} {w w' :World} {G G' :Gh} {I I' :Q9} {N N' :Nat->Prop} {D:Nat->Bool}
theorem tR (hR:Rg X l6 E nt S st a w G I N)(hD:∀ j,D j=true->S j){o:Oper}{g:Option (Nat×Bool)}(hc:ny X D o.guard g=true){b:Bool}(hw:z7 st.L g=some b):Region.wanted o (yielded X.ops a.tmps)=b:=by
 unfold Region.wanted;cases hg:o.guard with
 |none =>
  grind [z7,ny]
 |some p =>
  obtain ⟨g0,want⟩:=p;rw [hg] at hc;cases g with
  |none=>simp [ny] at hc
  |some q =>
   obtain ⟨g1,bl3⟩:=q;simp only [ny,c9,beq_iff_eq] at hc;obtain ⟨⟨⟨rfl,rfl⟩,hDg⟩,zG⟩:=hc;cases hd:(X.ops[g0]?).bind (·.dst) with
   |none=>simp_all
   |some d =>
    rw [hd] at zG;simp only [o8] at zG;have hv:=hR.ri.L g0 (hD g0 hDg) d hd zG;have hy:yielded X.ops a.tmps g0=(match a.tmps[d]? with|some (.bool b)=>some b|_=>none):=by
     grind [yielded]
    simp [z7] at hw;split at hw
    .cases hw
     simp_all [VR,DR,bool,undef]<;>grind
    all_goals (simp_all [VR,bool]<;>grind)
structure au7 (X:Cx)(l6:List p9)(E:Env)(nt:Nat)(S:Nat->Prop)(st:F4)(w:World)(G:Gh)(I:Q9)(N:Nat->Prop)(k:Nat)(u5:Option Nat)(st2:F4)(a' :Act)(w' :World)(G' :Gh)(I' :Q9)(N' :Nat->Prop):Prop where
 rg:Rg X l6 E nt (fun j=>S j\/j=k) st2 a' w' G' I' N'
 since:aA E st.H w G I N st2.H w' G' I' N'
 len:st.H.length<=st2.H.length
 old:∀ id,id<st.H.length->N' id->N id\/u5=some id
theorem Ic (hD:∀ j,D j=true->S j){x:Operand}{y:u9}(hc:X.ck D x y=true):vF X S y:=by
 unfold Cx.ck at hc;split at hc
 .exact ⟨_,by simpa using hc⟩
 .simp only [c9,beq_iff_eq,o8] at hc
  exact ⟨hD _ hc.1.1,_,hc.1.2,hc.2⟩
 .trivial
 .trivial
 .trivial
 .cases hc
theorem HK (hD:∀ j,D j=true->S j){o:Oper}{n:Option Nat}{y:u9}(hc:Y6 X.P (X.ck D) o (.load n y)=true):vF X S y:=by
 simp [Y6] at hc;obtain ⟨dst,cn,ty,pos,after,guard⟩:=o;cases cn<;>simp [C7] at hc
 grind [Ic]
theorem Rg.after (hst:Stat X nt)(hR:Rg X l6 E nt S st a w G I N)(hD:∀ j,D j=true->S j){k:Nat}(hk:¬ S k)(Z9:k<st.L.length){o:Oper}(ho:X.ops[k]? =some o){i:p9}(hi:l6[k]? =some i)(hc:rj X D o i=true)
  {u5:Option Nat} (hne:∀ i,u5=some i->E.entry<=i) (htr:Tr N k st st1) (hts:u7 u5 st1 k i.dst=some st2) {x:Value} {ds:List Deferred} (hds:ds=a.defers\/∃ d,ds=d::a.defers/\Gn X.P E.idle d)
  (hf:st2.L[k]? =some (.tuple [])\/fW X st a w I i.op x) (hS:sr u5 X E.lim S E.entry st a w G I N st1 k x w' G' I' N') :
  ∃ G'',au7 X l6 E nt S st w G I N k u5 st2 ({ a with defers:=ds }.put o.dst x) w' G'' I' N' :=by
 simp [rj,c9] at hc;obtain ⟨⟨hc1,mJ⟩,Zv⟩:=hc;have hm:=hS.mid;obtain ⟨G2,e1,e2,e3,e4⟩:=RI.after (l:=E.lim) (a:={ a with defers:=ds }) hst hR.size (by rw [htr.V4];exact hR.V4) hk (by rw [htr.iV];exact Z9) ho mJ hm.ri.defers hm.val hts;have hpv:=PV.after (w' :=w') (I' :=I') (x:=x) (ds:=ds) hst hR hk ho hi mJ (fun y hy=>HK hD (by simp_all<;>omega)) htr hts (fun id hN ht=>by
  obtain ⟨h1,h2⟩:=hm.ko id hN ht;simp_all) hf
 refine ⟨G2,⟨e4,hpv,?_,?_,?_,?_,?_,?_,?_⟩,⟨?_,?_,?_,?_,?_,?_⟩,?_,hS.old⟩
 .intro j ai y hj hai hop
  have lift:vF X S y->vF X (fun j=>S j\/j=k) y:=by
   intro h;cases y with
   |loc m=>exact ⟨Or.inl h.1,h.2⟩
   |slot s=>exact h
   |const v=>trivial
  rcases hj with hj|rfl
  .exact lift (hR.cl j ai y hj hai hop)
  grind [HK]
 .rw [Jh hts,htr.V4];exact hR.V4
 .rw [Jg hts,htr.iV];exact hR.iV
 .intro id hid;rw [oA hts];exact hS.bt id hid
 .rw [oA hts];exact B5 hR.KB hm.len
 .rw [size_put];exact hR.size
 .rw [lF]
  intro d hd
  rcases hds with rfl|⟨d',rfl,hid⟩
  .exact hR.idle d hd
  .simp [y7] at hd
   rcases hd with rfl|hd
   .exact hid
   .exact hR.idle d hd
 .exact hm.ext.trans e1
 .exact hm.eE.trans fun id _=>⟨fun b hb=>⟨e3 b id hb,rfl⟩,e2 id⟩
 .intro id hid hN;exact hm.inj id hid hN
 .intro id _ hN;exact hm.mono id hN
 .intro id hid hN
  rcases hS.old id (Nat.lt_of_lt_of_le hid hR.KB) hN with h1|h1
  all_goals grind
 .intro id o' hb ho';rw [oA hts] at ho';exact hm.hle id o' hb ho'
 .rw [oA hts];exact hm.len
def wM (hst:Stat X nt)(Nl:mZ X.P E.cf E.prom)(eY:∀ f args H lm r,E.cf f args H lm=some r->T3 X.P f=true)(hs:E.lim.strict<=E.lim.base)(hbe:E.lim.base<=E.entry)(hR:Rg X l6 E nt S st a w G I N)
  (hD:∀ j,D j=true->S j) {k:Nat} (hk:¬ S k) {o:Oper} (ho:X.ops[k]? =some o) {i:p9} (hi:l6[k]? =some i) (hc:rj X D o i=true) {u5:Option Nat} (hid:i.op.B4=true->yB E.lim st N u5) (hne:∀ i,u5=some i->E.entry<=i/\i<st.H.length)
  {rs:List Nat} (he:y8 E l6 u5 k i st=some (st2,rs)) (K:Act->World->Prop) (Q:Exit->Act->World->Prop)
  (hK:∀ a' w' G' I' N',au7 X l6 E nt S st w G I N k u5 st2 a' w' G' I' N' ->K a' w'):wpOp X.P X.ops Q k K a w:=by
 have Z9:k<st.L.length:=by rw [hR.iV];grind
 have qD :=hc;simp [rj,c9] at qD;obtain ⟨⟨hc1,mJ⟩,Zv⟩:=qD;unfold wpOp;simp [ho];unfold y8 at he;split at he
 .rename_i hw
  rw [if_pos (tR hR hD Zv hw)];split at he
  .rename_i st1 rs1 hW
   split at he
   .rename_i bb5 hts
    refine Or.inl ?_;have hrun:=IZ (P:=X.P) Nl eY rfl hR.ri hR.pv hR.V4 hR.bt (B5 hbe hR.KB) hs hD hk Z9 hc1 (u5:=u5) hid hW;refine hrun K Q ?_;rintro a' w' ⟨x,ds,G',I',N',hF,rfl,hds,hS⟩;have htr:Tr N k st st1:=Tr.E5 hR.bt (fun i h=>(hne i h).2) (fun ha=>(hid ha).new) hW;obtain ⟨G'',hdone⟩:=Rg.after hst hR hD hk Z9 ho hi hc (fun i h=>(hne i h).1) htr hts hds (Or.inr hF) hS
    grind
   .cases he
  .cases he
 .rw [if_neg (by grind [tR])]
  split at he
  .rename_i bb5 hts
   cases he;have htr:Tr N k st (put st k (.tuple [])):=Tr.put _;have hS:sr u5 X E.lim S E.entry st a w G I N (put st k (.tuple [])) k undef w G I N :=
    sr.gT hR.bt (bE.same hR.ri hk Z9 E.entry (by exact ⟨#[],rfl,by simp [H8]⟩))
   have hL:st2.L[k]? =some (.tuple []):=by
    grind [S0,put,E1]
   obtain ⟨G'',hdone⟩:=Rg.after hst hR hD hk Z9 ho hi hc (fun i h=>(hne i h).1) htr hts (Or.inl rfl) (Or.inl hL) hS;exact hK _ _ _ _ _ hdone
  .cases he
 .cases he
def lE (X:Cx):List p9->Nat->Bool
 |[],k=>X.ops.size==k
 |i::is,k=>(match X.ops[k]? with
  |some o=>rj X (fun j=>decide (j<k)) o i
  |none=>false)&&lE X is (k+1)
structure Fin (X:Cx)(l6:List p9)(E:Env)(nt:Nat)(st0:F4)(w:World)(G:Gh)(I:Q9)(N:Nat->Prop)(st2:F4)(a' :Act)(w' :World)(G' :Gh)(I' :Q9)(N' :Nat->Prop):Prop where
 rg:Rg X l6 E nt (fun j=>j<l6.length) st2 a' w' G' I' N'
 since:aA E st0.H w G I N st2.H w' G' I' N'
def Rg.congr {S' :Nat->Prop}(h:Rg X l6 E nt S st a w G I N)(hS:∀ j,S j↔S' j):Rg X l6 E nt S' st a w G I N:=by
 have:S=S' :=funext fun j=>propext (hS j)
 simp_all
def Fw (hst:Stat X nt)(Nl:mZ X.P E.cf E.prom)(eY:∀ f args H lm r,E.cf f args H lm=some r->T3 X.P f=true)(hs:E.lim.strict<=E.lim.base)(hbe:E.lim.base<=E.entry)(Q:Exit->Act->World->Prop) :
  ∀ (is:List p9) (k:Nat),l6.drop k=is->k<=l6.length->lE X is k=true->∀ (st:F4) (a:Act) (w:World) (G:Gh) (I:Q9) (N:Nat->Prop) (st2:F4),Rg X l6 E nt (fun j=>j<k) st a w G I N->eG E l6 is k st=some st2 ->
   (∀ a' w' G' I' N',Fin X l6 E nt st w G I N st2 a' w' G' I' N' ->Q .normal a' w')->wpOps X.P X.ops Q (List.range' k is.length) a w:=by
 intro is
 induction is with
 |nil =>
  intro k hd hk _ st a w G I N st2 hR hrun hQ;cases hrun;have Z9:l6.length=k:=by
   simp_all [List.length]<;>omega
  exact hQ _ _ _ _ _ ⟨by simp_all,aA.refl _ _ _ _ _ _⟩
 |cons i is ih =>
  intro k hd hk hc st a w G I N st2 hR hrun hQ;have hi:l6[k]? =some i:=by
   have:(l6.drop k)[0]? =some i:=by rw [hd];rfl
   grind
  have hd' :l6.drop (k+1)=is:=by
   have:=congrArg (List.drop 1) hd
   grind [List.drop_drop]
  simp [lE,c9] at hc;obtain ⟨hc1,mJ⟩:=hc;simp [eG] at hrun;split at hrun
  .rename_i st1 rs hstep
   cases ho:X.ops[k]? with
   |none=>simp_all
   |some o =>
    rw [ho] at hc1;simp [q6];refine wM hst Nl eY hs hbe hR (D:=fun j=>decide (j<k)) (fun j hj=>by simp_all) (Nat.lt_irrefl k) ho hi hc1 (u5:=none) (fun _=> ?_) (fun i h=>by cases h) hstep _ _ ?_
    .exact ⟨(fun hN=>by have:=hR.bt _ hN;grind [newId]),(fun i h=>by cases h),by exact B5 hbe hR.KB,by exact B5 hs (B5 hbe hR.KB)⟩
    .intro a' w' G' I' N' hdone
     refine ih (k+1) hd' (r9 hi) mJ st1 a' w' G' I' N' st2 (hdone.rg.congr fun j=>by omega) hrun ?_;intro a'' w'' G'' I'' N'' rK;exact hQ _ _ _ _ _ ⟨rK.rg,hdone.since.trans rK.since⟩
  .cases hrun
end
end Go.Abs
namespace Go.Abs
variable [D5]
def u9.cF:u9->List Nat
 | .loc j=>[j]
 |_=>[]
def u9.slots:u9->List Nat
 | .slot s=>[s]
 |_=>[]
def z6.Q0:z6->List u9
 | .R2 x=>[x]
 | .pick c a b=>[c,a,b]
 | .alloc _=>[]
 | .box x=>[x]
 | .build _ parts=>parts.map (·.2.2)
 | .A2 _ _ _ parts _=>parts.map (·.2.2)
 | .mL _ _ x y=>[x,y]
 | .load _ x=>[x]
 | .store _ a x=>[a,x]
 | .aX x=>[x]
 | .bin _ x y=>[x,y]
 | .un _ x=>[x]
 | .Cf _ x=>[x]
 | .LP _ x=>[x]
 | .u0 _ x y=>[x,y]
 | .GQ _ _ x y=>[x,y]
 | .mI _ x=>[x]
 | .rC x=>[x]
 | .EC x=>[x]
 | .jN x=>[x]
 | .rU x lo hi=>x::(lo.toList++hi.toList)
 | .aj _ x lo hi=>x::(lo.toList++hi.toList)
 | .off _ x=>[x]
 | .C8 _ x i=>[x,i]
 | .gM _ _ x i=>[x,i]
 | .J2 x i=>[x,i]
 | .extract x _=>[x]
 | .len x=>[x]
 | .V4 x=>[x]
 | .Fe x=>[x]
 | .append _ _ _ x y=>[x,y]
 | .ep _ _ x y=>[x,y]
 | .gO _ xs=>xs
 | .clear _ _ x=>[x]
 | .aG _ first caps=>first++caps
 | .call _ xs=>xs
 | .aD x xs=>x::xs
 | .makeMap=>[]
 | .qh _=>[]
 | .own _ x=>[x]
 | .lookup _ _ _ m k=>[m,k]
 | .dw _ m k v=>[m,k,v]
 | .defer x=>[x]
 | .bad=>[]
def cN (l6:List p9)(i:p9):List Nat :=
 (i.op.Q0.flatMap u9.cF)++(match i.guard with|some (g,_)=>[g]|none=>[]) ++
 (match i.op with
  | .append _ _ _ (.loc j) _=>(match l6[j]? with|some a=>a.op.Q0.flatMap u9.cF|none=>[])
  | .ep _ _ (.loc j) _=>(match l6[j]? with|some a=>a.op.Q0.flatMap u9.cF|none=>[])
  | .own _ (.loc j)=>(match l6[j]? with|some a=>a.op.Q0.flatMap u9.cF|none=>[])
  |_=>[])
def ff (i:p9):List Nat:=i.op.Q0.flatMap u9.slots
theorem ah {α β:Type}{f g:α->β}{l:List α}(h:∀ x,x ∈ l->f x=g x):l.map f=l.map g:=List.map_congr_left h
def jy {ρ ρ' :u9->j3}{ps:List (Nat×Nat×u9)}(h:∀ x,x ∈ ps.map (·.2.2)->ρ' x=ρ x):(ps.map fun (o,s,x)=>(o,s,ρ' x))=ps.map fun (o,s,x)=>(o,s,ρ x):=by
 grind [List.map_congr_left]
theorem nh {ρ ρ' :u9->j3}{d:Nat}{o:Option u9}(h:∀ x,x ∈ o.toList->ρ' x=ρ x):U5 ρ' d o=U5 ρ d o:=by
 simp_all [U5]<;>grind
def mc {ρ ρ' :u9->j3}{H:q8}{op:z6}(h:∀ x,x ∈ op.Q0->ρ' x=ρ x):o6 ρ' H op=o6 ρ H op:=by
 cases op<;>simp only [z6.Q0] at h
 case build=>simp [o6,jy h]
 case A2 sz len zero parts ob=>cases ob<;>simp [o6,jy h]
 case gO isMax xs=>grind [o6,ah]
 case aG f first caps =>
  simp_all [o6,ah]
 case rU x lo hi =>
  grind [U5,nh,o6]
 case aj sz x lo hi =>
  have h2:∀ d,U5 ρ' d lo=U5 ρ d lo:=fun d=>nh fun y hy=>h y (by simp_all)
  have h3:∀ d,U5 ρ' d hi=U5 ρ d hi:=fun d=>nh fun y hy=>h y (by simp_all)
  simp_all [o6]
 case load n x=>cases n<;>simp [o6,h x (by simp)]
 case pick c a b=>simp_all [o6]
 case bin b x y=>simp_all [o6]
 case u0 b x y=>simp_all [o6]
 case GQ b ks x y=>simp_all [o6]
 case C8 s x y=>simp_all [o6]
 case gM n s x y=>simp_all [o6]
 case J2 x y=>simp_all [o6]
 case lookup kk z ok x y=>simp_all [o6]
 case aX x=>simp_all [o6]
 case un b x=>simp_all [o6]
 case Cf b x=>simp_all [o6]
 case LP b x=>simp_all [o6]
 case mI k x=>simp_all [o6]
 case rC x=>simp_all [o6]
 case EC x=>simp_all [o6]
 case jN x=>simp_all [o6]
 case off k x=>simp_all [o6]
 case extract x i=>simp_all [o6]
 case len x=>simp_all [o6]
 case V4 x=>simp_all [o6]
 case Fe x=>simp_all [o6]
 all_goals rfl
def R5:Option x9->Option x9->Prop
 |some (.cells l),some (.cells l')=>l.map j3.I7=l'.map j3.I7
 |a,b=>a=b
theorem R5.refl (o:Option x9):R5 o o:=by
 simp_all [R5]<;>grind
def R5.symm {a b:Option x9}(h:R5 a b):R5 b a:=by
 simp_all [R5,absurd]<;>grind
theorem R5.trans {a b c:Option x9}(h:R5 a b)(k:R5 b c):R5 a c:=by
 simp_all [R5]<;>grind
theorem MR (v:j3):v.I7.I7=v.I7:=by cases v<;>rfl
def ab1 {H H' :q8}{id off n:Nat}(h:R5 H'[id]? H[id]?){vs:List j3}(hr:rd H id off n=some vs):∃ vs',rd H' id off n=some vs' /\vs'.map j3.I7=vs.map j3.I7:=by
 unfold rd at hr ⊢;split at hr
 .rename_i l hl
  split at hr
  .cases hr
   rw [hl] at h;cases h' :H'[id]? with
   |none=>simp_all [R5]
   |some o =>
    rw [h'] at h;cases o with
    |cells l' =>
     have h:l'.map j3.I7=l.map j3.I7:=by grind [R5]
     have hll:l'.length=l.length:=by simpa using congrArg List.length h
     simp_all
    |dead=>simp [R5] at h
    |map es=>simp [R5] at h
  .cases hr
 .cases hr
def Is {ρ:u9->j3}{H H' :q8}{op:z6}{v:j3}{rs:List Nat}(h:o6 ρ H op=some (v,rs))(hr:∀ id,id ∈ rs->R5 H'[id]? H[id]?):o6 ρ H' op=some (v,rs):=by
 cases op
 case load n x =>
  cases n with
  |none =>
   simp only [o6] at h ⊢;split at h
   .rename_i id off hp
    split at h
    .rename_i u hu
     cases h;obtain ⟨vs',h1,h2⟩:=ab1 (hr id (by simp)) hu;obtain ⟨u',rfl⟩:∃ u',vs' =[u']:=by
      have:=congrArg List.length h2;simp at this;exact List.length_eq_one_iff.1 this
     simp at h2;simp only [h1,h2]
    .cases h
   .exact h
   .cases h
  |some n =>
   simp only [o6] at h ⊢;split at h
   .rename_i id off hp
    split at h
    .rename_i us hu
     cases h;obtain ⟨vs',h1,h2⟩:=ab1 (hr id (by simp)) hu;simp only [h1,h2]
    .cases h
   .exact h
   .cases h
 case Fe x =>
  simp only [o6] at h ⊢;split at h
  .exact h
  .rename_i id hp
   split at h
   .rename_i es QD
    cases h;have:=hr id (by simp);rw [QD] at this;have h' :H'[id]? =some (.map es):=by
     cases h' :H'[id]? with
     |none=>rw [h'] at this;simp [R5] at this
     |some o=>rw [h'] at this;cases o<;>simp_all [R5]
    simp only [h']
   .cases h
  .cases h
 case lookup kk zero ok m k =>
  simp only [o6] at h ⊢;split at h
  .rename_i id key hp hq
   split at h
   .rename_i es QD
    split at h
    .rename_i hf hft
     cases h;have:=hr id (by simp);rw [QD] at this;have h' :H'[id]? =some (.map es):=by
      cases h' :H'[id]? with
      |none=>rw [h'] at this;simp [R5] at this
      |some o=>rw [h'] at this;cases o<;>simp_all [R5]
     simp only [h',hf,hft]
    .cases h
   .cases h
  .exact h
  .cases h
 case A2 sz len zero parts ob=>cases ob<;>exact h
 all_goals exact h
structure Still (k:Nat)(dst u5:Option Nat)(d:List Touch)(st st' :F4):Prop where
 L:∀ m,m≠k->(st'.L.getD m .any).I7=(st.L.getD m .any).I7
 Gb:∀ m,m≠k->∀ b,st'.L[m]? =some (j3.d (.bool b))↔st.L[m]? =some (j3.d (.bool b))
 Gt:∀ m,m≠k->(st'.L[m]? =some (j3.tuple [])↔st.L[m]? =some (j3.tuple []))
 T:∀ s,dst≠some s->(st'.T.getD s .any).I7=(st.T.getD s .any).I7
 p6:st'.p6=d++st.p6
 H:∀ id:Nat,d.any (Touch.J3 id)=false->u5≠some id->R5 st'.H[id]? st.H[id]?
 LG:st.H.length<=st'.H.length
 iV:st'.L.length=st.L.length
 V4:st'.T.length=st.T.length
section
variable {k:Nat} {dst u5:Option Nat} {d d1 d2:List Touch} {st st1 st' :F4}
theorem Still.refl (k:Nat)(dst u5:Option Nat)(st:F4):Still k dst u5 [] st st :=
 ⟨fun _ _=>rfl,fun _ _ _=>Iff.rfl,fun _ _=>Iff.rfl,fun _ _=>rfl,rfl,fun _ _ _=>R5.refl _,o5 _,rfl,rfl⟩
theorem Still.trans (h:Still k dst u5 d1 st st1)(g:Still k dst u5 d2 st1 st'):Still k dst u5 (d2++d1) st st' where
 L m hm:=(g.L m hm).trans (h.L m hm)
 Gb m hm b:=(g.Gb m hm b).trans (h.Gb m hm b)
 Gt m hm:=(g.Gt m hm).trans (h.Gt m hm)
 T s hs:=(g.T s hs).trans (h.T s hs)
 p6:=by rw [g.p6,h.p6,A9]
 H id hd hn:=by
  simp only [List.any_append,E6] at hd;exact (g.H id hd.1 hn).trans (h.H id hd.2 hn)
 LG:=B5 h.LG g.LG
 iV:=g.iV.trans h.iV
 V4:=g.V4.trans h.V4
theorem Still.put (v:j3):Still k dst u5 [] st (put st k v) where
 L m hm:=by grind [Abs.put,N8]
 Gb m hm b:=by grind [Abs.put,y9]
 Gt m hm:=by grind [Abs.put,y9]
 T _ _:=rfl
 p6:=rfl
 H _ _ _:=R5.refl _
 LG:=o5 _
 iV:=by simp [Abs.put]
 V4:=rfl
def Still.C9 {j z n:Nat}{c:List Data}(hj:st.L[j]? =some (.own z n c)):Still k dst u5 [] st { st with L:=st.L.set j (.d (.slice n c)) } where
 L m _:=by
  by_cases e:j=m
  .subst e
   rw [M4 _ _ _ _ (r9 hj),ay hj];rfl
  simp_all
 Gb m _ b:=by
  grind
 Gt m _:=by
  grind
 T _ _:=rfl
 p6:=rfl
 H _ _ _:=R5.refl _
 LG:=o5 _
 iV:=by simp
 V4:=rfl
theorem Still.E1 (y:u9):Still k dst u5 [] st (E1 st y).2:=by
 cases y with
 |loc j =>
  simp only [Abs.E1];split
  .rename_i hj
   exact Still.C9 hj
  .exact Still.refl _ _ _ _
  .exact Still.refl _ _ _ _
 |slot s=>exact Still.refl _ _ _ _
 |const v=>exact Still.refl _ _ _ _
def Still.heap {H' :q8}(h2:∀ id:Nat,d.any (Touch.J3 id)=false->u5≠some id->R5 H'[id]? st.H[id]?)(hl:st.H.length<=H'.length):Still k dst u5 d st { st with H:=H',p6:=d++st.p6 } :=
 ⟨fun _ _=>rfl,fun _ _ _=>Iff.rfl,fun _ _=>Iff.rfl,fun _ _=>rfl,rfl,h2,hl,rfl,rfl⟩
def Still.newObj {i:Nat}(o:x9):Still k dst (some i) [] st (F0 st (some i) o) :=
 ⟨fun _ _=>rfl,fun _ _ _=>Iff.rfl,fun _ _=>Iff.rfl,fun _ _=>rfl,rfl,fun id _ hn=>by
  simp_all [F0,y9,R5.refl],(by simp [F0]),rfl,rfl⟩
theorem Still.W6 {l:F2}{sz len:Nat}{cells:List Data}{op:z6}(h:W6 l st sz op=some (len,cells,st')):∃ d,Still k dst u5 d st st' :=by
 unfold Abs.W6 at h;split at h
 .rename_i s
  split at h
  .cases h
  .split at h
   .rename_i hs
    split at h
    .cases h
     refine ⟨[.slot s],fun _ _=>rfl,fun _ _ _=>Iff.rfl,fun _ _=>Iff.rfl,fun s' _=> ?_,rfl,fun _ _ _=>R5.refl _,o5 _,rfl,by simp⟩
     by_cases e:s=s'
     .subst e
      rw [M4 _ _ _ _ (r9 hs),ay hs];rfl
     simp_all
    .cases h
   .cases h
 .split at h
  .rename_i id off XL
   split at h
   .cases h
   .split at h
    .rename_i cs hcs
     split at h
     .rename_i Zw
      split at h
      .cases h
       refine ⟨[.cell id off],Still.heap (fun id' _ _=> ?_) (by simp)⟩
       by_cases he:id=id'
       .subst he
        rw [J8 (r9 hcs),hcs];apply List.ext_getElem?;intro n;simp only [List.getElem?_map]
        by_cases e:off=n
        .subst e
         rw [J8 (r9 Zw),Zw];rfl
        simp_all
       simp_all [y9,R5.refl]
      .cases h
     .cases h
    .cases h
  .cases h
 .cases h
theorem Still.O7 {l:F2}{l6:List p9}{sz len:Nat}{cells:List Data}{y:u9}(h:O7 l l6 st sz y=some (len,cells,st')):∃ d,Still k dst u5 d st st' :=by
 unfold Abs.O7 at h;split at h
 .split at h
  .cases h;exact ⟨[],Still.refl _ _ _ _⟩
  .cases h
 .cases h
 .cases h
 .split at h
  .rename_i hj
   split at h
   .cases h
    exact ⟨[],Still.C9 hj⟩
   .cases h
  .split at h
   .exact Still.W6 h
   .cases h
  .cases h
theorem Still.D7 {E:Env}{f:FuncId}{args:List j3}(h:D7 E k f args st=some st'):∃ d,Still k dst none d st st' :=by
 unfold Abs.D7 at h;split at h
 .split at h
  .rename_i v H1 _
   split at h
   .rename_i hlen
    cases h;refine ⟨[]++[.below H1.length],Still.trans (Still.heap (fun id hd _=> ?_) hlen) (Still.put _)⟩
    grind [Touch.J3,H6,R5.refl]
   .cases h
  .cases h
 .simp only at h
  generalize E9 st.H E.lim.strict 8 (B8 args)=n at h;generalize (args.headD .any).L7=m at h;split at h
  .split at h
   .split at h
    .split at h
     .cases h
      refine ⟨[]++[.below n],Still.trans (Still.heap (fun id hd _=> ?_) (by simp;omega)) (Still.put _)⟩;simp_all [Touch.J3,p7,List.getElem?_drop,R5.refl]
     .cases h
    .cases h
   .split at h
    .split at h
     .cases h
      exact ⟨_,Still.put _⟩
     .cases h
    .cases h
   .split at h
    .split at h
     .cases h
      refine ⟨[]++[.below m],Still.trans (Still.heap (fun id hd _=> ?_) (by simp;omega)) (Still.put _)⟩;simp_all [Touch.J3,p7,List.getElem?_drop,List.take,R5.refl]
     .cases h
    .cases h
  .cases h
def VL {H H' :q8}{id off:Nat}{vs:List j3}(h:wr H id off vs=some H'):H'.length=H.length:=by
 grind [wr]
theorem Still.Q6 {E:Env}{n:Nat}{a:j3}{x:u9}(h:Q6 E k n st a x=some st'):∃ d,Still k dst none d st st' :=by
 unfold Abs.Q6 at h;split at h
 .rename_i id off
  split at h
  .split at h
   .split at h
    .rename_i H' hw
     cases h;refine ⟨[]++([.obj id]++[]),Still.trans (Still.trans (Still.E1 x) (Still.heap (fun id' hd _=> ?_) (by rw [VL hw];omega))) (Still.put _)⟩
     grind [tT,R5.refl,Touch.J3]
    .cases h
   .cases h
  .cases h
 .cases h
theorem Still.X6 {E:Env}{sz:Nat}{zero:List j3}{a:j3}(h:X6 E k sz zero st a=some st'):∃ d,Still k dst none d st st' :=by
 unfold Abs.X6 at h;split at h
 .rename_i id z lo len
  split at h
  .split at h
   .rename_i H' hw
    cases h;refine ⟨[]++[.obj id],Still.trans (Still.heap (fun id' hd _=> ?_) (by rw [VL hw];omega)) (Still.put _)⟩
    grind [tT,R5.refl,Touch.J3]
   .cases h
  .cases h
 .cases h
  exact ⟨_,Still.put _⟩
 .cases h
theorem Still.U1 {E:Env}{kk:KK}{m key v:j3}(h:U1 E k kk st m key v=some st'):∃ d,Still k dst none d st st' :=by
 unfold Abs.U1 at h;split at h
 .rename_i id kd _
  split at h
  .split at h
   .split at h
    .split at h
     .cases h
      refine ⟨[]++[.obj id],Still.trans (Still.heap (fun id' hd _=> ?_) (by simp)) (Still.put _)⟩;rw [y9]
      .exact R5.refl _
      .rintro rfl
       simp [Touch.J3] at hd
     .cases h
    .cases h
   .cases h
  .cases h
 .cases h
theorem Still.E7 {E:Env}{l6:List p9}{op:z6}(hk:G8 st op=false)(hn:u5.isSome=op.B4)(h:E7 E l6 u5 k st op=some st'):∃ d,Still k dst u5 d st st' :=by
 cases op<;>simp only [Abs.E7] at h<;>try (cases h;done)
 all_goals (simp only [z6.B4] at hn)
 case alloc zero =>
  obtain ⟨i,rfl⟩:=E8.1 hn;cases h;exact ⟨_,(Still.newObj _).trans (Still.put _)⟩
 case box x =>
  obtain ⟨i,rfl⟩:=E8.1 hn;split at h
  .cases h;exact ⟨_,(Still.newObj _).trans (Still.put _)⟩
  .cases h
 case qh x =>
  cases h;exact ⟨_,Still.put _⟩
 case own sz x =>
  split at h
  .rename_i ht
   obtain ⟨d,hd⟩:=Still.O7 (k:=k) (dst:=dst) (u5:=u5) ht;cases h;exact ⟨_,hd.trans (Still.put _)⟩
  .cases h
 case makeMap =>
  obtain ⟨i,rfl⟩:=E8.1 hn;cases h;exact ⟨_,(Still.newObj _).trans (Still.put _)⟩
 case mL sz zero x y =>
  obtain ⟨i,rfl⟩:=E8.1 hn;split at h
  .cases h;exact ⟨_,(Still.newObj _).trans (Still.put _)⟩
  .cases h
 case A2 sz len zero parts ob =>
  cases ob
  .cases h
  .obtain ⟨i,rfl⟩:=E8.1 hn
   simp only at h;split at h
   .split at h
    .cases h;exact ⟨_,(Still.newObj _).trans (Still.put _)⟩
    .cases h
   .cases h
 case store n a x =>
  have:u5=none:=by simpa using hn
  subst this;exact Still.Q6 h
 case ep sz bytes x y =>
  split at h
  .split at h
   .obtain ⟨i,rfl⟩:=E8.1 hn
    rename_i id _ _ _ _ _;unfold Abs.Z0 at h;split at h
    .split at h
     .split at h
      .cases h
       refine ⟨[]++([]++[.obj id]),Still.trans (Still.trans (Still.heap (fun id' hd _=> ?_) (by simp)) (Still.newObj _)) (Still.put _)⟩;rw [y9]
       .exact R5.refl _
       .rintro rfl
        simp [Touch.J3] at hd
      .cases h
     .cases h
    .cases h
   .cases h
  .obtain ⟨i,rfl⟩:=E8.1 hn
   unfold Abs.K8 at h;simp only [if_true] at h;split at h
   .split at h
    .split at h
     .cases h;exact ⟨_,Still.put _⟩
     .cases h;exact ⟨_,(Still.newObj _).trans (Still.put _)⟩
    .cases h
   .cases h
 case append sz bytes ob x y =>
  split at h
  .rename_i hx
   simp [G8,hx] at hk
  .cases ob with
   |true =>
    obtain ⟨i,rfl⟩:=E8.1 hn;unfold Abs.K8 at h;simp only [if_true] at h;split at h
    .split at h
     .split at h
      .cases h;exact ⟨_,Still.put _⟩
      .cases h;exact ⟨_,(Still.newObj _).trans (Still.put _)⟩
     .cases h
    .cases h
   |false =>
    have:u5=none:=by simpa using hn
    subst this;unfold Abs.K8 at h;simp only [j5,if_false] at h;split at h
    .split at h
     .split at h
      .rename_i ht
       split at h
       .cases h
        obtain ⟨d,hd⟩:=Still.O7 (k:=k) (dst:=dst) (u5:=none) ht;exact ⟨_,hd.trans (Still.put _)⟩
       .cases h
      .cases h
     .cases h
    .cases h
 case clear sz zero x =>
  have:u5=none:=by simpa using hn
  subst this;exact Still.X6 h
 case call f xs =>
  have:u5=none:=by simpa using hn
  subst this;exact Still.D7 h
 case aD x xs =>
  have:u5=none:=by simpa using hn
  subst this;split at h
  .exact Still.D7 h
  .cases h
 case dw =>
  have:u5=none:=by simpa using hn
  subst this;exact Still.U1 h
 case defer x =>
  split at h
  .split at h
   .cases h;exact ⟨_,Still.put _⟩
   .cases h
  .cases h
theorem Still.G4 {aW6 :Option Nat}(h:u7 aW6 st k dst=some st'):∃ d,Still k dst u5 d st st' :=by
 rcases S0 h with ⟨_,rfl⟩|⟨s,p6,rfl,_,rfl,Hx⟩
 .exact ⟨_,Still.refl _ _ _ _⟩
 .have hx:=Still.E1 (k:=k) (dst:=some s) (u5:=u5) (st:=st) (.loc k)
  have key:∀ d,p6=d++st.p6->Still k (some s) u5 d st { (Abs.E1 st (.loc k)).2 with T:=st.T.set s (Abs.E1 st (.loc k)).1,p6 }:=by
   intro d hd;refine ⟨hx.L,hx.Gb,hx.Gt,fun s' hs=> ?_,hd,fun id _ hn=>hx.H id rfl hn,hx.LG,hx.iV,by simp⟩;simp_all
  rcases Hx with rfl|⟨rfl,_⟩
  .exact ⟨[.slot s],key _ rfl⟩
  .exact ⟨[],key _ rfl⟩
theorem Still.y8 {E:Env}{l6:List p9}{i:p9}{rs:List Nat}(hk:G8 st i.op=false)(hn:u5.isSome=i.op.B4)(h:y8 E l6 u5 k i st=some (st',rs)):∃ d,Still k i.dst u5 d st st' :=by
 unfold Abs.y8 at h;split at h
 .split at h
  .rename_i st1 rs1 hW
   split at h
   .rename_i st2 hts
    cases h;have h1:∃ d,Still k i.dst u5 d st st1:=by
     unfold Abs.E5 at hW;split at hW
     .split at hW
      .rename_i he
       cases hW;exact Still.E7 hk hn he
      .cases hW
     .split at hW
      .cases hW
       exact ⟨_,(Still.E1 _).trans (Still.put _)⟩
      .split at hW
       .cases hW
        exact ⟨_,Still.put _⟩
       .cases hW
    obtain ⟨d1,h1⟩:=h1;obtain ⟨d2,h2⟩:=Still.G4 (u5:=u5) hts;exact ⟨_,h1.trans h2⟩
   .cases h
  .cases h
 .split at h
  .rename_i hts
   cases h;obtain ⟨d2,h2⟩:=Still.G4 (u5:=u5) hts;exact ⟨_,(Still.put _).trans h2⟩
  .cases h
 .cases h
theorem Still.G9 (h:Still k dst u5 d st st'){x:u9}(hl:k ∉ x.cF)(ht:∀ s,s ∈ x.slots->dst≠some s):G9 st'.T st'.L x=G9 st.T st.L x:=by
 cases x with
 |loc j =>
  exact h.L j (fun e=>hl (by simp [u9.cF,e]))
 |slot s =>
  exact h.T s (ht s (by simp [u9.slots]))
 |const v=>rfl
def Still.wanted (h:Still k dst u5 d st st'){g:Option (Nat×Bool)}(hg:∀ j b,g=some (j,b)->j≠k):z7 st'.L g=z7 st.L g:=by
 cases g with
 |none=>rfl
 |some p =>
  obtain ⟨j,want⟩:=p;have hj:=hg j want rfl;have h1:=h.Gb j hj;have h2:=h.Gt j hj
  grind [z7,absurd]
theorem Still.Hp {E:Env}{i:p9}{rs:List Nat}(h:Still k dst u5 d st st'):(dN E i u5 st st' rs).Hp=lZ u5++d:=by
 simp only [dN,h.p6];simp
def Still.reads {E:Env}{i:p9}{rs:List Nat}(h:Still k dst u5 d st st'){ids:List Nat}(hh:K4 (dN E i u5 st st' rs).Hp ids=false){id:Nat}(hid:id ∈ ids):R5 st'.H[id]? st.H[id]? :=by
 rw [h.Hp] at hh;unfold K4 at hh;have hno:∀ t,t ∈ (lZ u5++d:List Touch)->t.J3 id=false:=by
  grind
 refine h.H id ?_ ?_
 all_goals grind [List.any_eq_false,lZ,Touch.J3]
end
end Go.Abs
namespace Go.Abs
variable [D5]
section
variable {E:Env} {l6:List p9} {u5:Option Nat} {k q:Nat} {v:j3} {st st1 st2 st' :F4}
theorem pJ {x:u9}(h:q ∉ x.cF):G9 (put st q v).T (put st q v).L x=G9 st.T st.L x:=by
 simp_all [G9,put,u9.cF]<;>grind
theorem put_comm (h:q≠k)(u:j3):put (put st q v) k u=put (put st k u) q v:=by
 simp_all [put,List.set_comm]
theorem mg {l:List j3}{q j:Nat}(h:q≠j)(v:j3):(l.set q v)[j]? =l[j]? :=y9 h
def Bo {x:u9}(h:q ∉ x.cF):E1 (put st q v) x=((E1 st x).1,put (E1 st x).2 q v):=by
 cases x with
 |loc j =>
  grind [u9.cF,E1,put,mg,G9,List.getD,List.set_comm]
 |slot s=>rfl
 |const c=>rfl
theorem dP (o:x9):F0 (put st q v) u5 o=put (F0 st u5 o) q v:=by cases u5<;>rfl
theorem iC:newId (put st q v) u5=newId st u5:=rfl
def Dl {x:u9}(h:q ∉ x.cF):aY (put st q v) x=aY st x:=by
 simp_all [u9.cF,aY,put]<;>grind
def Jd {l:F2}{sz:Nat}{op:z6}(h:q ∉ op.Q0.flatMap u9.cF):W6 l (put st q v) sz op=(W6 l st sz op).map fun p=>(p.1,p.2.1,put p.2.2 q v):=by
 unfold W6;split
 .have e1:(put st q v).p6=st.p6:=rfl
  have e2:(put st q v).T=st.T:=rfl;simp [e1,e2];split
  .rfl
  .split
   .split
    all_goals rfl
   .rfl
 .rename_i x
  have hx:q ∉ x.cF:=fun e=>h (by simp [z6.Q0,e])
  rw [Dl hx];have e1:(put st q v).p6=st.p6:=rfl;have e2:(put st q v).H=st.H:=rfl;split
  .simp [e1,e2]
   split
   .rfl
   .split
    .split
     .split
      all_goals rfl
     .rfl
    .rfl
  .rfl
 .rfl
def wN {l:F2}{sz:Nat}{x:u9}(h:q ∉ x.cF)(h2:∀ j a,x= .loc j->l6[j]? =some a->q ∉ a.op.Q0.flatMap u9.cF) :
  O7 l l6 (put st q v) sz x=(O7 l l6 st sz x).map fun p=>(p.1,p.2.1,put p.2.2 q v):=by
 cases x with
 |const c =>
  unfold O7;cases c<;>first|rfl|skip
  simp_all
 |slot s=>rfl
 |loc j =>
  have hj:q≠j:=fun e=>h (by simp [u9.cF,e])
  have e:(put st q v).L[j]? =st.L[j]? :=by simp_all [put,mg]
  simp [O7];rw [e];cases hl:st.L[j]? with
  |none=>rfl
  |some b =>
   cases b with
   |own z len cells =>
    grind [put,List.set_comm]
   |d x =>
    cases x with
    |slice n c =>
     cases ha:l6[j]? with
     |none=>rfl
     |some a=>simp_all [Jd]
    |_=>rfl
   |_=>rfl
def vK (h:q≠k){f:FuncId}{args:List j3}:D7 E k f args (put st q v)=(D7 E k f args st).map fun s=>put s q v:=by
 have e1:(put st q v).H=st.H:=rfl;have e2:(put st q v).p6=st.p6:=rfl;have key:∀ (H:q8) (t:List Touch) (u:j3),put { put st q v with H:=H,p6:=t } k u=put (put { st with H:=H,p6:=t } k u) q v:=by
  simp_all [put,List.set_comm]
 unfold D7;simp [e1];split
 .split
  all_goals simp_all
 .split
  .split
   .split
    all_goals simp_all
   .split
    all_goals simp_all
   .split
    all_goals simp_all
  .rfl
def FQ (h:q≠k){n:Nat}{a:j3}{x:u9}(hx:q ∉ x.cF):Q6 E k n (put st q v) a x=(Q6 E k n st a x).map fun s=>put s q v:=by
 unfold Q6;simp [Bo hx];cases a with
 |ptr id off =>
  simp only;split
  .split
   .have e:(put (E1 st x).2 q v).H=(E1 st x).2.H:=rfl
    split
    all_goals simp_all [put,E2,List.set_comm]
   .rfl
  .rfl
 |_=>rfl
def Ey (h:q≠k){sz:Nat}{zero:List j3}{a:j3}:X6 E k sz zero (put st q v) a=(X6 E k sz zero st a).map fun s=>put s q v:=by
 have e:(put st q v).H=st.H:=rfl;unfold X6;split
 .split
  .split
   all_goals grind [put,List.set_comm]
  .rfl
 all_goals grind [put_comm]
def Cc (h:q≠k){kk:KK}{m key x:j3}:U1 E k kk (put st q v) m key x=(U1 E k kk st m key x).map fun s=>put s q v:=by
 have e:(put st q v).H=st.H:=rfl;unfold U1;split
 .rw [e]
  split
  .split
   .split
    .split
     .simp only [put,E2]
      congr 2
      exact List.set_comm _ _ h
     .rfl
    .rfl
   .rfl
  .rfl
 .rfl
theorem LQ {l:F2}{op:z6}(h:q ∉ op.Q0.flatMap u9.cF):oa l (put st q v) op=oa l st op:=by
 unfold oa;split
 .rfl
 .rename_i x
  have hx:q ∉ x.cF:=fun e=>h (by simp [z6.Q0,e])
  rw [Dl hx];rfl
 .rfl
def QK {l:F2}{x:u9}(h:q ∉ x.cF)(h2:∀ j a,x= .loc j->l6[j]? =some a->q ∉ a.op.Q0.flatMap u9.cF):isNil l l6 (put st q v) x=isNil l l6 st x:=by
 cases x with
 |const c=>cases c<;>rfl
 |slot s=>rfl
 |loc j =>
  grind [u9.cF,put,mg,isNil,LQ]
def qq (h:q≠k){sz bytes:Nat}{ob:Bool}{x:u9}{y:j3}(hx:q ∉ x.cF)(h2:∀ j a,x= .loc j->l6[j]? =some a->q ∉ a.op.Q0.flatMap u9.cF) :
  K8 E l6 u5 k sz bytes ob (put st q v) x y=(K8 E l6 u5 k sz bytes ob st x y).map fun s=>put s q v:=by
 have e:(put st q v).H=st.H:=rfl;unfold K8;rw [e,QK hx h2,wN hx h2];split
 .split
  .grind [put_comm,dP,iC]
  .split
   all_goals grind [O7,put_comm]
 .rfl
theorem O2 {i:p9}{x:u9}(hx:x ∈ i.op.Q0)(h:q ∉ cN l6 i):q ∉ x.cF:=by
 simp_all [cN,A9,M1,List.mem_flatMap]
def de {i:p9}{g:Nat}{b:Bool}(hg:i.guard=some (g,b))(h:q ∉ cN l6 i):g≠q:=by
 grind [cN]
def Ce {i:p9}{sz bytes:Nat}{ob:Bool}{x y:u9}(hop:i.op= .append sz bytes ob x y)(h:q ∉ cN l6 i):∀ j a,x= .loc j->l6[j]? =some a->q ∉ a.op.Q0.flatMap u9.cF:=by
 grind [cN,List.mem_append_right]
def zV {i:p9}{sz bytes:Nat}{x y:u9}(hop:i.op= .ep sz bytes x y)(h:q ∉ cN l6 i):∀ j a,x= .loc j->l6[j]? =some a->q ∉ a.op.Q0.flatMap u9.cF:=by
 rintro j a rfl ha hq;apply h;unfold cN;rw [hop];simp only [ha];exact List.mem_append_right _ hq
def zW {i:p9}{sz:Nat}{x:u9}(hop:i.op= .own sz x)(h:q ∉ cN l6 i):∀ j a,x= .loc j->l6[j]? =some a->q ∉ a.op.Q0.flatMap u9.cF:=by
 rintro j a rfl ha hq;apply h;unfold cN;rw [hop];simp only [ha];exact List.mem_append_right _ hq
def BO (h:q≠k){sz bytes id lo len:Nat}{y:j3}:Z0 E u5 k sz bytes (put st q v) id lo len y=(Z0 E u5 k sz bytes st id lo len y).map fun s=>put s q v:=by
 unfold Z0;split
 .have e1:(put st q v).H=st.H:=rfl
  rw [e1];split
  .split
   .simp only [E2,Option.some.injEq]
    rw [<- put_comm h];cases u5<;>rfl
   .rfl
  .rfl
 .rfl
def Gm (st:F4)(op:z6)(v:j3):Prop:=∀ sz Sj ob x y id z lo n,op= .append sz Sj ob x y->G9 st.T st.L x= .B6 id z lo n->v.kill id=v
def Gm.of {op:z6}(h:G8 st op=false):Gm st op v:=fun _ _ _ _ _ _ _ _ _ e hx=>by subst e;simp [G8,hx] at h
theorem CW (id:Nat):∀ (l:List j3) (j:Nat) (x:j3),N4 id (l.set j x)=(N4 id l).set j (x.kill id)
 |[],_,_=>rfl
 |a::l,0,x=>rfl
 |a::l,j+1,x=>by simp only [y6,N4,CW id l j x]
def BP (h:q≠k){sz bytes id lo len:Nat}{y:j3}(hv:v.kill id=v):V6 E k sz bytes (put st q v) id lo len y=(V6 E k sz bytes st id lo len y).map fun s=>put s q v:=by
 unfold V6;split
 .have e1:(put st q v).H=st.H:=rfl
  rw [e1];split
  .split
   .simp only [E2,Option.some.injEq]
    rw [<- put_comm h];simp only [put,CW,hv]
   .rfl
  .rfl
 .rfl
def Qk {i:p9}(h:q≠k)(hu:q ∉ cN l6 i)(hk:Gm st i.op v):E7 E l6 u5 k (put st q v) i.op=(E7 E l6 u5 k st i.op).map fun s=>put s q v:=by
 have hρ:∀ x,x ∈ i.op.Q0->G9 (put st q v).T (put st q v).L x=G9 st.T st.L x:=fun x hx=>pJ (O2 hx hu)
 cases hop:i.op<;>simp only [hop,z6.Q0] at hρ<;>simp only [E7]<;>try rfl
 case alloc zero=>simp only [dP,iC,put_comm h,E2]
 case box x =>
  rw [hρ x (by simp)];split
  .simp only [dP,iC,put_comm h,E2]
  .rfl
 case makeMap=>simp only [dP,iC,put_comm h,E2]
 case qh x=>simp only [put_comm h,E2]
 case mL sz zero x y =>
  rw [hρ x (by simp),hρ y (by simp)];split
  .simp only [dP,iC,put_comm h,E2]
  .rfl
 case A2 sz len zero parts ob =>
  cases ob
  .rfl
  .have e:(parts.map fun x=>(x.1,x.2.1,G9 (put st q v).T (put st q v).L x.2.2))=(parts.map fun x=>(x.1,x.2.1,G9 st.T st.L x.2.2)):=jy hρ
   simp only [e];cases bA zero (parts.map fun x=>(x.1,x.2.1,G9 st.T st.L x.2.2)) with
   |none=>rfl
   |some cs =>
    simp only;split
    .simp only [dP,iC,put_comm h,E2]
    .rfl
 case store n a x =>
  rw [hρ a (by simp)];exact FQ h (O2 (by simp [hop,z6.Q0]) hu)
 case append sz bytes ob x y =>
  rw [hρ x (by simp),hρ y (by simp)];split
  .rename_i hx
   split
   .exact BP h (hk _ _ _ _ _ _ _ _ _ hop hx)
   .rfl
  .exact qq h (O2 (by simp [hop,z6.Q0]) hu) (Ce hop hu)
 case ep sz bytes x y =>
  rw [hρ x (by simp),hρ y (by simp)];split
  .split
   .exact BO h
   .rfl
  .exact qq h (O2 (by simp [hop,z6.Q0]) hu) (zV hop hu)
 case own sz x =>
  rw [wN (O2 (by simp [hop,z6.Q0]) hu) (zW hop hu)];cases O7 E.lim l6 st sz x with
  |none=>rfl
  |some p =>
   obtain ⟨len,cells,s1⟩:=p;simp only [E2,put_comm h]
 case clear sz zero x =>
  rw [hρ x (by simp)];exact Ey h
 case call f xs =>
  rw [ah hρ];exact vK h
 case aD x xs =>
  rw [hρ x (by simp),ah (l:=xs) fun y hy=>hρ y (by simp [hy])];split
  .exact vK h
  .rfl
 case dw kk m key x =>
  rw [hρ m (by simp),hρ key (by simp),hρ x (by simp)];exact Cc h
 case defer x =>
  rw [hρ x (by simp)];split
  .split
   .simp only [put_comm h,E2]
   .rfl
  .rfl
def AX (h:q≠k){dst:Option Nat}:u7 u5 (put st q v) k dst=(u7 u5 st k dst).map fun s=>put s q v:=by
 have hx:q ∉ (u9.loc k).cF:=by grind [u9.cF]
 have e1:(put st q v).T=st.T:=rfl;have e2:(put st q v).p6=st.p6:=rfl;cases u5<;>cases dst<;>simp [u7,G4,W7,Bo hx,e1]<;>first|rfl|(split<;>rfl)
def wanted_put {g:Option (Nat×Bool)}(h:∀ j b,g=some (j,b)->j≠q):z7 (put st q v).L g=z7 st.L g:=by
 cases g with
 |none=>rfl
 |some p =>
  grind [z7,put,mg]
def iD {i:p9}(h:q≠k)(hu:q ∉ cN l6 i)(hk:Gm st i.op v):y8 E l6 u5 k i (put st q v)=(y8 E l6 u5 k i st).map fun p=>(put p.1 q v,p.2):=by
 have hρ:∀ x,x ∈ i.op.Q0->G9 (put st q v).T (put st q v).L x=G9 st.T st.L x:=fun x hx=>pJ (O2 hx hu)
 have hW:E5 E l6 u5 k i.op (put st q v)=(E5 E l6 u5 k i.op st).map fun p=>(put p.1 q v,p.2):=by
  unfold E5;split
  .rw [Qk h hu hk]
   cases E7 E l6 u5 k st i.op<;>rfl
  .cases hop:i.op with
   |R2 x =>
    simp only [Bo (O2 (x:=x) (by simp [hop,z6.Q0]) hu),put_comm h,E2]
   |_ =>
    simp only;rw [<- hop,mc hρ];have e:(put st q v).H=st.H:=rfl;rw [e];cases hp:o6 (G9 st.T st.L) st.H i.op with
    |none=>rfl
    |some p=>simp only [put_comm h,E2]
 unfold y8;rw [wanted_put (fun j b hg=>de hg hu),hW];split
 .cases hp:E5 E l6 u5 k i.op st with
  |none=>rfl
  |some p =>
   obtain ⟨s1,rs⟩:=p;simp only [E2];rw [AX h];cases u7 u5 s1 k i.dst<;>rfl
 .rw [put_comm h,AX h]
  cases u7 u5 (put st k (.tuple [])) k i.dst<;>rfl
 .rfl
def au (st:F4)(i:Nat)(o:x9):F4:={ st with H:=st.H.set i o }
theorem oz {H:q8}{n i:Nat}{o:x9}(h:n<=i):(H.set i o).take n=H.take n:=List.take_set_of_le h
theorem CX (H:q8)(s:Nat):∀ (j m:Nat),m<=E9 H s j m
 |0,m=>by simp [E9]
 |j+1,m=>by
  unfold E9;split
  .omega
  .simp only
   split
   .omega
   .exact B5 (Nat.le_max_left _ _) (CX H s j _)
theorem iK (H:q8)(s i:Nat)(o:x9):∀ (j n:Nat),E9 H s j n<=i->E9 (H.set i o) s j n=E9 H s j n
 |0,n,_=>rfl
 |j+1,n,h=>by
  have hn:n<=i:=B5 (CX H s (j+1) n) h;unfold E9 at h ⊢;split
  .rfl
  .rename_i ek
   rw [if_neg ek] at h;simp [oz hn] at h ⊢;split
   .rfl
   .rename_i hm
    rw [if_neg hm] at h;exact iK H s i o j _ h
def vO (H:q8)(s i:Nat)(o:x9)(j n:Nat)(h:E9 (H.set i o) s j n<=i):E9 H s j n=E9 (H.set i o) s j n:=by
 rcases s5 i H.length with hi|hi
 .have:=iK (H.set i o) s i H[i] j n h
  simp_all
 .rw [List.set_eq_of_length_le hi]
def FR {H:q8}{s n i:Nat}{o:x9}(h:n<=i):D8 (H.set i o) s n=D8 H s n:=by
 grind [D8,oz]
def GN {H:q8}{n i:Nat}{o:x9}(h:n<=i):(H.set i o).drop n=(H.drop n).set (i - n) o:=by
 apply List.ext_getElem?
 grind
theorem yD {A H:q8}{n i:Nat}{o:x9}(ha:A.length=n)(h:n<=i):A++(H.set i o).drop n=(A++H.drop n).set i o:=by
 simp_all [GN,List.set_append,if_neg]
theorem sD {f:FuncId}{args:List j3}{i:Nat}{o:x9}(hi:i<st.H.length)(hs:(if E.prom f then st.H.length else E9 st.H E.lim.strict 8 (B8 args))<=i) :
  D7 E k f args (au st i o)=(D7 E k f args st).map fun s=>au s i o:=by
 have e1:(au st i o).H=st.H.set i o:=rfl;have e2:(au st i o).p6=st.p6:=rfl;unfold D7;simp [e1]
 by_cases hp:E.prom f=true
 .grind
 .rw [if_neg hp] at hs
  rw [if_neg hp,if_neg hp,iK _ _ _ _ _ _ hs];simp [oz hs,FR hs,List.length_set];split
  .split
   .split
    all_goals simp_all [E2,put,au,yD]
   .split
    .split
     all_goals rfl
    .rfl
   .split
    all_goals grind [put,au,yD,B5]
  .rfl
theorem wO {dst:Option Nat}{i:Nat}{o:x9}:u7 u5 (au st i o) k dst=(u7 u5 st k dst).map fun s=>au s i o:=by
 have hx:E1 (au st i o) (.loc k)=((E1 st (.loc k)).1,au (E1 st (.loc k)).2 i o):=by
  grind [E1,au]
 have e1:(au st i o).T=st.T:=rfl;have e2:(au st i o).p6=st.p6:=rfl;cases u5<;>cases dst<;>simp [u7,G4,W7,hx,e1]<;>first|rfl|(split<;>rfl)
def ru (i:p9):Bool:=match i.op with
 | .call .. =>true
 | .aD .. =>true
 |_=>false
def Mv {i:p9}{m:Nat}{o:x9}(hc:ru i=true)(hi:m<st.H.length)(hs:K6 E st i.op<=m):y8 E l6 u5 k i (au st m o)=(y8 E l6 u5 k i st).map fun p=>(au p.1 m o,p.2):=by
 have hW:E5 E l6 u5 k i.op (au st m o)=(E5 E l6 u5 k i.op st).map fun p=>(au p.1 m o,p.2):=by
  unfold ru at hc;unfold E5;have e:∀ x,G9 (au st m o).T (au st m o).L x=G9 st.T st.L x:=fun _=>rfl
  split at hc
  .rename_i f xs hop
   rw [hop] at hs ⊢;simp [z6.E3,E7];have:D7 E k f (xs.map (G9 (au st m o).T (au st m o).L)) (au st m o)=(D7 E k f (xs.map (G9 st.T st.L)) st).map fun s=>au s m o:=sD hi hs
   grind
  .rename_i x xs hop
   rw [hop] at hs ⊢;simp [z6.E3,E7];rw [e x];simp [K6] at hs;cases hx:G9 st.T st.L x with
   |func f first caps =>
    grind [D7,G9,au,sD]
   |_=>rfl
  .cases hc
 unfold y8;have e3:z7 (au st m o).L i.guard=z7 st.L i.guard:=rfl;rw [e3,hW];split
 .grind [E5,wO,u7]
 .have e4:put (au st m o) k (.tuple [])=au (put st k (.tuple [])) m o:=rfl
  grind [wO,u7,put]
 .rfl
def Rr {i:p9}{m:Nat}{o:x9}(hs:K6 E (au st m o) i.op<=m):K6 E st i.op=K6 E (au st m o) i.op:=by
 have e:∀ x,G9 (au st m o).T (au st m o).L x=G9 st.T st.L x:=fun _=>rfl
 have e1:(au st m o).H=st.H.set m o:=rfl;cases hop:i.op<;>rw [hop] at hs<;>simp [K6] at hs ⊢
 case call f xs =>
  by_cases hp:E.prom f=true
  .simp_all
  .rw [if_neg hp] at hs ⊢
   rw [if_neg hp];exact vO _ _ _ _ _ _ hs
 case aD x xs =>
  simp [e x,e1] at hs ⊢;split at hs
  .rename_i f first caps hx
   by_cases hp:E.prom f=true
   .simp_all
   .rw [if_neg hp] at hs ⊢
    rw [if_neg hp];exact vO _ _ _ _ _ _ hs
  .rfl
def bw (s:F4)(dst:Option Nat)(u:j3):F4:=match dst with
 |none=>s
 |some t=>{ s with T:=s.T.set t u }
def Mk (s:F4)(dst:Option Nat)(u:j3):(bw s dst u).L=s.L:=by cases dst<;>rfl
def Mj (s:F4)(dst:Option Nat)(u:j3):(bw s dst u).H=s.H:=by cases dst<;>rfl
def Vc (s:F4)(dst:Option Nat)(u:j3):(bw s dst u).p6=s.p6:=by cases dst<;>rfl
def Du (s:F4)(dst:Option Nat)(u:j3):(bw s dst u).T.length=s.T.length:=by cases dst<;>simp [bw]
theorem tw {s:F4}{dst:Option Nat}{u:j3}{x:u9}(h:∀ t,dst=some t->t ∉ x.slots):G9 (bw s dst u).T (bw s dst u).L x=G9 s.T s.L x:=by
 simp_all [G9,bw,u9.slots]<;>grind
def sE {f:FuncId}{args:List j3}{dst:Option Nat}{u:j3}:D7 E k f args (bw st dst u)=(D7 E k f args st).map fun s=>bw s dst u:=by
 cases dst with
 |none=>grind [bw,D7]
 |some t =>
  unfold D7;have e1:(bw st (some t) u).H=st.H:=rfl;have e2:(bw st (some t) u).p6=st.p6:=rfl;simp [e1];split
  .split
   .split<;>rfl
   .rfl
  .split
   .split
    .split
     .split<;>rfl
     .rfl
    .split
     .split<;>rfl
     .rfl
    .split
     .split<;>rfl
     .rfl
   .rfl
def wP {dst dst' :Option Nat}{u:j3}(h:∀ s,dst=some s->dst' ≠some s):u7 u5 (bw st dst' u) k dst=(u7 u5 st k dst).map fun s=>bw s dst' u:=by
 cases dst' with
 |none=>simp_all [bw,u7]
 |some t =>
  have hx:E1 (bw st (some t) u) (.loc k)=((E1 st (.loc k)).1,bw (E1 st (.loc k)).2 (some t) u):=by
   simp [E1,bw];cases st.L[k]? with
   |none=>rfl
   |some a=>cases a<;>rfl
  have e2:(bw st (some t) u).p6=st.p6:=rfl;have e3:(bw st (some t) u).T.length=st.T.length:=Du _ _ _;cases dst with
  |none=>cases u5<;>rfl
  |some s =>
   have hne:t≠s:=fun e=>h s rfl (by rw [e])
   have e4:∀ x,(bw st (some t) u).T.set s x=(st.T.set s x).set t u:=fun x=>List.set_comm _ _ hne
   cases u5<;>simp [u7,G4,W7,hx,e2,e3,e4]<;>split<;>rfl
def BR (i:p9):Bool:= !i.op.E3&&(match i.op with
 | .R2 _=>false
 |_=>true)
def AN {op:z6}(h:op.E3=false)(hm:∀ y,op≠ .R2 y):E5 E l6 u5 k op st=(o6 (G9 st.T st.L) st.H op).map fun p=>(put st k p.1,p.2):=by
 unfold E5;rw [h];cases op<;>first
  |exact (hm _ rfl).elim
  |(simp only [j5,if_false]
    generalize o6 _ _ _=r;cases r<;>rfl)
def MW {i:p9}(h:BR i=true):i.op.E3=false/\∀ y,i.op≠ .R2 y:=by
 simp only [BR,c9,o8] at h;refine ⟨h.1,fun y e=> ?_⟩;rw [e] at h;cases h.2
def kA {i:p9}(h:BR i=true)(st:F4):G8 st i.op=false:=by
 have h1:=(MW h).1;cases hop:i.op<;>rw [hop] at h1<;>first|rfl|(cases h1)
def AM {i:p9}{dst:Option Nat}{u:j3}(hc:ru i=true\/BR i=true)(hu:∀ t,dst=some t->t ∉ ff i)(hd:∀ s,i.dst=some s->dst≠some s) :
  y8 E l6 u5 k i (bw st dst u)=(y8 E l6 u5 k i st).map fun p=>(bw p.1 dst u,p.2):=by
 have hρ:∀ x,x ∈ i.op.Q0->G9 (bw st dst u).T (bw st dst u).L x=G9 st.T st.L x:=by
  intro x hx;refine tw fun t ht hs=>hu t ht ?_
  unfold ff;exact List.mem_flatMap.2 ⟨x,hx,hs⟩
 have hW:E5 E l6 u5 k i.op (bw st dst u)=(E5 E l6 u5 k i.op st).map fun p=>(bw p.1 dst u,p.2):=by
  rcases A7 (BR i) with hd1|hd1
  .obtain ⟨h1,h2⟩:=MW hd1
   rw [AN h1 h2,AN h1 h2,mc hρ,Mj];have e4:∀ v,put (bw st dst u) k v=bw (put st k v) dst u:=fun v=>by cases dst<;>rfl
   cases o6 (G9 st.T st.L) st.H i.op with
   |none=>rfl
   |some p=>simp only [E2,e4]
  replace hc:ru i=true:=hc.resolve_right (by rw [hd1];simp)
  unfold ru at hc;unfold E5;split at hc
  .rename_i f xs hop
   rw [hop] at hρ ⊢;simp only [z6.E3,if_true,E7];rw [ah (l:=xs) fun y hy=>hρ y (by simp [z6.Q0,hy]),sE];cases D7 E k f (xs.map (G9 st.T st.L)) st<;>rfl
  .rename_i x xs hop
   rw [hop] at hρ ⊢;simp only [z6.E3,if_true,E7];rw [hρ x (by simp [z6.Q0]),ah (l:=xs) fun y hy=>hρ y (by simp [z6.Q0,hy])];cases hx:G9 st.T st.L x with
   |func f first caps =>
    simp only;rw [sE];cases D7 E k f (first++xs.map (G9 st.T st.L)++caps) st<;>rfl
   |_=>rfl
  .cases hc
 unfold y8;rw [Mk,hW];split
 .cases hp:E5 E l6 u5 k i.op st with
  |none=>rfl
  |some p =>
   obtain ⟨s1,rs⟩:=p;simp only [E2];rw [wP hd];cases u7 u5 s1 k i.dst<;>rfl
 .have e4:put (bw st dst u) k (.tuple [])=bw (put st k (.tuple [])) dst u:=by cases dst<;>rfl
  rw [e4,wP hd];cases u7 u5 (put st k (.tuple [])) k i.dst<;>rfl
 .rfl
end
end Go.Abs
namespace Go.Abs
variable [D5]
def yW (i:p9):Bool:= !i.op.E3&&i.dst.isNone&&(match i.op with
 | .R2 (.loc _)=>false
 |_=>true)
def qg (i:p9):Bool:=match i.op with
 | .qh _=>true
 | .alloc _=>true
 | .box _=>true
 | .makeMap=>true
 | .mL .. =>true
 | .A2 _ _ _ _ b=>b
 |_=>false
section
variable {E:Env} {l6:List p9} {u5:Option Nat} {k q:Nat} {st st1 st2 st' :F4}
def fE {i:p9}(h:yW i=true)(st:F4):G8 st i.op=false:=by
 simp_all [yW,z6.E3,G8]<;>grind
def dJ {i:p9}(h:yW i=true)(st:F4):K6 E st i.op=0:=by
 simp_all [yW,z6.E3,K6]<;>grind
def bf {i:p9}(h:qg i=true)(st:F4):G8 st i.op=false:=by
 grind [qg,G8]
def dH {i:p9}(h:qg i=true)(st:F4):K6 E st i.op=0:=by
 grind [qg,K6]
def fD {i:p9}(h:qg i=true):i.op.B4=true:=by
 grind [qg,z6.B4]
def ir {i:p9}(h:ru i=true)(st:F4):G8 st i.op=false:=by
 grind [ru,G8]
theorem jF {s:F4}{dst:Option Nat}(h:dst.isNone=true):u7 u5 s k dst=some s:=by
 cases dst with
 |none=>cases u5<;>rfl
 |some _=>simp at h
def Eo {i:p9}(hP:yW i=true){rs:List Nat}(h:y8 E l6 u5 k i st=some (st',rs)) :
  ∃ v,st' =put st k v/\∀ s2:F4,(∀ x,x ∈ i.op.Q0->G9 s2.T s2.L x=G9 st.T st.L x)->z7 s2.L i.guard=z7 st.L i.guard->(∀ id,id ∈ rs->R5 s2.H[id]? st.H[id]?) ->
   y8 E l6 u5 k i s2=some (put s2 k v,rs):=by
 simp only [yW,c9,o8] at hP;obtain ⟨⟨h1,h2⟩,h3⟩:=hP;unfold y8 at h;split at h
 .rename_i hw
  split at h
  .rename_i s1 rs1 hW
   rw [jF h2] at h;cases h;unfold E5 at hW;rw [h1] at hW;simp [j5,if_false] at hW;have other:∀ {v:j3},(∀ x,i.op≠ .R2 x)->o6 (G9 st.T st.L) st.H i.op=some (v,rs)->st' =put st k v->∃ v,st' =put st k v/\∀ s2:F4,(∀ x,x ∈ i.op.Q0->G9 s2.T s2.L x=G9 st.T st.L x)->z7 s2.L i.guard=z7 st.L i.guard->(∀ id,id ∈ rs->R5 s2.H[id]? st.H[id]?) ->
     y8 E l6 u5 k i s2=some (put s2 k v,rs):=by
    intro v hm hp e;refine ⟨v,e,fun s2 hρ hwd hr=> ?_⟩;unfold y8;rw [hwd,hw];have:E5 E l6 u5 k i.op s2=some (put s2 k v,rs):=by
     unfold E5;have hp2:o6 (G9 s2.T s2.L) s2.H i.op=some (v,rs):=Is (by simp_all [mc]) hr;simp_all
    simp_all [jF]
   split at hW
   .rename_i x hop
    cases hW;refine ⟨(E1 st x).1,?_,fun s2 hρ hwd hr=> ?_⟩
    .cases x with
     |loc j=>simp_all
     |slot s=>rfl
     |const c=>rfl
    .unfold y8
     have e1:E1 s2 x=((E1 st x).1,s2):=by
      simp_all [z6.Q0,E1]<;>grind
     simp_all [E5,z6.E3,j5,if_false,jF]
   grind
  .cases h
 all_goals grind [jF,y8]
def mU (s:F4)(n:Nat):Option x9->F4
 |some o=>au s n o
 |none=>s
inductive NF (k n:Nat) (dst:Option Nat):(F4->F4)->Prop where
 |mk (o:Option x9) (v u:j3):NF k n dst (fun s=>bw (put (mU s n o) k v) dst u)
inductive NF0 (k:Nat) (dst:Option Nat):(F4->F4)->Prop where
 |mk (v u:j3):NF0 k dst (fun s=>bw (put s k v) dst u)
structure Alike (i:p9)(st s2:F4):Prop where
 T:s2.T.length=st.T.length
 L:s2.L.length=st.L.length
 p6:∀ s,i.dst=some s->s2.p6.any (Touch.T4 s)=true
def Je {s:F4}{v:j3}{dst:Option Nat}(hv:∀ z n c,v≠ .own z n c){s' :F4}(h:W7 (put s k v) k dst=some s') :
  ∃ u,s' =bw (put s k v) dst u/\∀ s2:F4,s2.T.length=s.T.length->s2.L.length=s.L.length->(∀ t,dst=some t->s2.p6.any (Touch.T4 t)=true)->W7 (put s2 k v) k dst=some (bw (put s2 k v) dst u):=by
 cases dst with
 |none=>cases h;exact ⟨.any,rfl,fun s2 _ _ _=>rfl⟩
 |some t =>
  have hx:∀ s:F4,E1 (put s k v) (.loc k)=((if k<s.L.length then v.MX else .any),put s k v):=by
   simp_all [E1,put,G9,List.getD,j3.I7,j3.MX,absurd]<;>grind
  simp only [W7,hx] at h;split at h
  .rename_i hc
   simp [c9,decide_eq_true_eq] at hc;cases h;refine ⟨_,rfl,fun s2 h1 h2 h3=> ?_⟩;simp only [W7,hx];have:(decide (t<(put s2 k v).T.length)&&(put s2 k v).p6.any (Touch.T4 t))=true:=by
    simp_all [c9,decide_eq_true_eq,put]
   rw [if_pos this,h2];rfl
  .cases h
def FB (s:F4)(n:Nat)(o:Option x9):(mU s n o).T=s.T:=by cases o<;>rfl
def Aw (s:F4)(n:Nat)(o:Option x9):(mU s n o).L=s.L:=by cases o<;>rfl
def IL (s:F4)(n:Nat)(o:Option x9):(mU s n o).p6=s.p6:=by cases o<;>rfl
def Em {i:p9}{n:Nat}(hN:qg i=true){rs:List Nat}(h:y8 E l6 (some n) k i st=some (st',rs)) :
  rs=[]/\∃ f,NF k n i.dst f/\(i.op.makes=false->NF0 k i.dst f)/\st' =f st/\∀ s2:F4,(∀ x,x ∈ i.op.Q0->G9 s2.T s2.L x=G9 st.T st.L x)->z7 s2.L i.guard=z7 st.L i.guard->Alike i st s2->y8 E l6 (some n) k i s2=some (f s2,[]):=by
 unfold qg at hN;have h3:=hN;have bs5:i.op.E3=true:=by
  grind [z6.E3]
 have slot:∀ (o:Option x9) (v:j3),(i.op.makes=false->o=none)->(∀ z n c,v≠ .own z n c)->(∀ s2:F4,(∀ x,x ∈ i.op.Q0->G9 s2.T s2.L x=G9 st.T st.L x)->z7 s2.L i.guard=z7 st.L i.guard->y8 E l6 (some n) k i s2=(W7 (put (mU s2 n o) k v) k i.dst).map fun s=>(s,[])) ->
   rs=[]/\∃ f,NF k n i.dst f/\(i.op.makes=false->NF0 k i.dst f)/\st' =f st/\∀ s2:F4,(∀ x,x ∈ i.op.Q0->G9 s2.T s2.L x=G9 st.T st.L x)->z7 s2.L i.guard=z7 st.L i.guard->Alike i st s2->y8 E l6 (some n) k i s2=some (f s2,[]):=by
  intro o v ho hv hs;rw [hs st (fun _ _=>rfl) rfl] at h;cases ht:W7 (put (mU st n o) k v) k i.dst with
  |none=>simp_all
  |some s' =>
   rw [ht] at h;obtain ⟨rfl,rfl⟩:=h;obtain ⟨u,h4,h5⟩:=Je hv ht;refine ⟨rfl,_,NF.mk o v u,fun hm=>by rw [ho hm];exact NF0.mk v u,h4,fun s2 hρ hw ha=> ?_⟩;rw [hs s2 hρ hw,h5 (mU s2 n o) (by rw [FB,FB];exact ha.T) (by rw [Aw,Aw];exact ha.L) (fun t ht=>by rw [IL];exact ha.p6 t ht)];rfl
 obtain ⟨wd,hw⟩:∃ wd,z7 st.L i.guard=wd:=⟨_,rfl⟩;cases wd with
 |none=>simp_all [y8]
 |some b =>
  cases b with
  |false =>
   refine slot none (.tuple []) (fun _=>rfl) (by simp) fun s2 hρ hwd=> ?_
   unfold y8
   grind [u7,mU,W7,put]
  |true =>
   by_cases WO:∃ x,i.op= .qh x
   .obtain ⟨x,hx⟩:=WO
    refine slot none (.d x) (fun _=>rfl) (by simp) fun s2 hρ hwd=> ?_
    grind [y8,E5,z6.E3,E7,u7,mU,W7,put]
   have hmk:i.op.makes=true:=by
    cases hop:i.op<;>rw [hop] at h3<;>first|exact h3|simp_all|simp_all|rfl
   have key:∀ (o:x9) (v:j3),(∀ z n c,v≠ .own z n c)->(∀ s2:F4,(∀ x,x ∈ i.op.Q0->G9 s2.T s2.L x=G9 st.T st.L x)->E7 E l6 (some n) k s2 i.op=some (put (au s2 n o) k v)) ->
     rs=[]/\∃ f,NF k n i.dst f/\(i.op.makes=false->NF0 k i.dst f)/\st' =f st/\∀ s2:F4,(∀ x,x ∈ i.op.Q0->G9 s2.T s2.L x=G9 st.T st.L x)->z7 s2.L i.guard=z7 st.L i.guard->Alike i st s2->y8 E l6 (some n) k i s2=some (f s2,[]):=by
    intro o v hv h5;refine slot (some o) v (fun h=>by simp_all) hv fun s2 hρ hwd=> ?_
    unfold y8
    grind [E5,put,au,u7,mU,W7]
   obtain ⟨op,hop⟩:∃ op,i.op=op:=⟨_,rfl⟩;have he:∃ s1,E7 E l6 (some n) k st i.op=some s1:=by
    grind [y8,E5]
   obtain ⟨s1,he⟩:=he;have aR7 :∀ x,op≠ .qh x:=fun x e=>WO ⟨x,hop.trans e⟩
   cases op<;>(try (exact absurd rfl (aR7 _)))<;>rw [hop] at h3<;>simp at h3<;>(try (cases h3;done))<;>rw [hop] at he<;>simp only [E7] at he
   .rename_i zero
    refine key (.cells zero) (.ptr n 0) (by simp) (fun s2 _=> ?_);rw [hop];rfl
   .rename_i x
    split at he
    .rename_i l hl
     refine key (.cells l) (.ptr n 0) (by simp) (fun s2 hρ=> ?_);rw [hop];simp only [E7];rw [hρ x (by simp [hop,z6.Q0]),hl];rfl
    .cases he
   .rename_i sz len zero parts ob
    subst h3;simp only at he;split at he
    .rename_i cs hcs
     split at he
     .rename_i hl
      refine key (.cells cs) (.B6 n sz 0 len) (by simp) (fun s2 hρ=> ?_);rw [hop];simp only [E7];have e:(parts.map fun x=>(x.1,x.2.1,G9 s2.T s2.L x.2.2))=(parts.map fun x=>(x.1,x.2.1,G9 st.T st.L x.2.2)):=jy (fun x hx=>hρ x (by grind [z6.Q0]));have nK :bA zero (parts.map fun x=>(x.1,x.2.1,G9 st.T st.L x.2.2))=some cs:=hcs;simp only [e,nK,if_pos hl];rfl
     .cases he
    .cases he
   .refine key (.map []) (.map n) (by simp) (fun s2 _=> ?_)
    rw [hop];rfl
   .rename_i sz zero x y
    split at he
    .rename_i m hm
     refine key (.cells (j4 m zero).flatten) (.B6 n sz 0 m) (by simp) (fun s2 hρ=> ?_);rw [hop];simp only [E7];rw [hρ x (by simp [hop,z6.Q0]),hρ y (by simp [hop,z6.Q0]),hm];rfl
    .cases he
end
end Go.Abs
namespace Go.Abs
variable [D5]
def Xj (i:p9):Bool:=match i.op with
 | .qh _=>true
 |_=>false
def uG {i:p9}(h:Xj i=true):qg i=true/\i.op.makes=false:=by
 unfold Xj at h;unfold qg;cases hop:i.op<;>rw [hop] at h<;>first|exact ⟨rfl,rfl⟩|(cases h)
def Fl (l6:List p9)(j:Nat)(a:p9)(i:Nat)(b:p9):Bool :=
 !(cN l6 b).contains j&& !(cN l6 a).contains i &&
 (match b.dst with|some s=> !(ff a).contains s&&a.dst != some s|none=>true)&&(match a.dst with|some s=> !(ff b).contains s|none=>true) &&
 ((yW a&&(yW b||a.bT.contains i))||(yW b&&b.bT.contains j)||(qg a&&qg b)||(qg a&&ru b&&a.bT.contains i)||(ru a&&qg b&&b.bT.contains j)||(Xj a&&BR b)||(BR a&&Xj b))
def MO (E:Env)(l6:List p9)(V5:Nat->Option Nat)(lg:Nat->kg)(k:Nat)(st st' :F4):Prop :=
 ∃ i,l6[k]? =some i/\jD E l6 (V5 k) k i st=some (st',lg k)
structure PY (l6:List p9)(V5:Nat->Option Nat):Prop where
 alloc:∀ (k:Nat) i,l6[k]? =some i->(V5 k).isSome=i.op.B4
 inj:∀ j k n,V5 j=some n->V5 k=some n->j=k
def MN (l6:List p9)(lg:Nat->kg):Prop :=
 ∀ (k:Nat) i e,l6[k]? =some i->e ∈ i.bT->K4 (lg e).Hp (lg k).reads=false/\(i.op.makes=true->(lg e).Fz<=(lg k).id)
section
variable {E:Env} {l6:List p9} {u5:Option Nat} {k q:Nat} {v:j3} {st st1 st2 st' :F4}
def bp {i:p9}{l:kg}:jD E l6 u5 k i st=some (st',l)↔(G8 st i.op&&l6.any fun a=>a.bT.contains k&& !calm st i.op a)=false/\∃ rs,y8 E l6 u5 k i st=some (st',rs)/\l=dN E i u5 st st' rs:=by
 grind [jD]
def cM {i:p9}{l:kg}(h:G8 st i.op=false/\∃ rs,y8 E l6 u5 k i st=some (st',rs)/\l=dN E i u5 st st' rs):jD E l6 u5 k i st=some (st',l) :=
 bp.2 ⟨by rw [h.1];rfl,h.2⟩
def Nw {j:Nat}{i b:p9}{q:Nat}(h:(G8 st i.op&&l6.any fun a=>a.bT.contains j&& !calm st i.op a)=false)(hk:G8 st i.op=true)(hb:l6[q]? =some b)(hu:j ∈ b.bT):calm st i.op b=true:=by
 grind
def GA {op:z6}{a:p9}(h:calm st op a=true):∃ sz Sj ob x y s id z lo n j o,op= .append sz Sj ob x y/\a.op= .R2 (.slot s)/\a.dst=none/\a.guard=none/\G9 st.T st.L x= .B6 id z lo n/\st.T[s]? =some (.ptr j o)/\j≠id:=by
 unfold calm at h;split at h
 .rename_i sz Sj ob x y s ho
  simp [c9,Option.isNone_iff_eq_none] at h;obtain ⟨⟨h1,h2⟩,h3⟩:=h;split at h3
  .rename_i id z lo n j o h4 h5
   exact ⟨_,_,_,_,_,_,_,_,_,_,_,_,rfl,ho,h1,h2,h4,h5,fun e=>by simp_all⟩
  .cases h3
 .cases h
def yP {s2:F4}{op:z6}{a:p9}(h:∀ x,x ∈ op.Q0->G9 s2.T s2.L x=G9 st.T st.L x)(hT:s2.T=st.T):calm s2 op a=calm st op a:=by
 unfold calm
 grind [z6.Q0]
def GB {sz Sj :Nat}{ob:Bool}{x y:u9}{id z lo n j o:Nat}(h:G9 st.T st.L x= .B6 id z lo n)(hj:j≠id):Gm st (.append sz Sj ob x y) (.ptr j o):=fun _ _ _ x' _ id' _ _ _ e hx=>by
 simp_all [j3.kill]
def tc {a:p9}{s j o:Nat}(h1:a.op= .R2 (.slot s))(h2:a.dst=none)(h3:a.guard=none)(h:st.T[s]? =some (.ptr j o)):y8 E l6 u5 k a st=some (put st k (.ptr j o),[]):=by
 have e:(E1 st (.slot s))=(.ptr j o,st):=by simp [E1,G9,h,j3.I7]
 simp [y8,h3,E5,h1,e,h2];cases u5<;>rfl
def Gs {i:p9}{sz Sj :Nat}{ob:Bool}{x y:u9}{id z lo n s j o:Nat}{rs:List Nat}(hop:i.op= .append sz Sj ob x y)(hx:G9 st.T st.L x= .B6 id z lo n)(h:y8 E l6 u5 k i st=some (st',rs))(hs:i.dst≠some s)(hT:st.T[s]? =some (.ptr j o))(hj:j≠id):st'.T[s]? =some (.ptr j o):=by
 have slot:∀ s1 s2:F4,u7 u5 s1 k i.dst=some s2->s1.T[s]? =some (.ptr j o)->s2.T[s]? =some (.ptr j o):=by
  intro s1 s2 h h1;cases hd:i.dst with
  |none=>rw [hd] at h;cases u5<;>cases h<;>exact h1
  |some t =>
   cases u5<;>simp only [u7,G4,W7] at h<;>split at h<;>first|grind|grind
 unfold y8 at h;split at h
 .split at h
  .rename_i s1 rs1 h1
   split at h
   .rename_i s2 h2
    cases h;refine slot _ _ h2 ?_;simp [E5,hop,z6.E3,if_true,E7,hx] at h1;split at h1
    .rename_i s3 h3
     cases h1;split at h3
     .unfold V6 at h3
      split at h3
      .split at h3
       .split at h3
        .cases h3
         have e:∀ (l:List j3) (s:Nat),l[s]? =some (.ptr j o)->(N4 id l)[s]? =some (.ptr j o):=by
          intro l
          induction l with
          |nil=>simp_all
          |cons a l ih =>
           grind [N4,j3.kill]
         exact e _ _ hT
        .cases h3
       .cases h3
      .cases h3
     .cases h3
    .cases h1
   .cases h
  .cases h
 .split at h
  .rename_i s2 h2
   cases h;exact slot _ _ h2 hT
  .cases h
 .cases h
def fT {s2:F4}{op:z6}(h:∀ x,x ∈ op.Q0->G9 s2.T s2.L x=G9 st.T st.L x):G8 s2 op=G8 st op:=by
 cases op<;>simp [G8];simp_all [z6.Q0]
def fJ {s2:F4}{op:z6}(h:∀ x,x ∈ op.Q0->G9 s2.T s2.L x=G9 st.T st.L x)(hH:s2.H=st.H):K6 E s2 op=K6 E st op:=by
 cases op<;>simp [K6,z6.Q0] at h ⊢
 all_goals simp_all [call,ah]
def V0 {i:p9}(hu:q ∉ cN l6 i):∀ x,x ∈ i.op.Q0->G9 (put st q v).T (put st q v).L x=G9 st.T st.L x :=
 fun _ hx=>pJ (O2 hx hu)
theorem NF.G9 {n:Nat}{dst:Option Nat}{f:F4->F4}(hf:NF k n dst f){x:u9}(h:k ∉ x.cF)(ht:∀ t,dst=some t->t ∉ x.slots)(s:F4):G9 (f s).T (f s).L x=G9 s.T s.L x:=by
 cases hf with
 |mk o v u =>
  simp_all [tw,pJ,FB,Aw]
def NF.wanted {n:Nat}{dst:Option Nat}{f:F4->F4}(hf:NF k n dst f){g:Option (Nat×Bool)}(h:∀ j b,g=some (j,b)->j≠k)(s:F4):z7 (f s).L g=z7 s.L g:=by
 cases hf with
 |mk o v u =>
  simp_all [Mk,wanted_put,Aw]
theorem NF.p6 {n:Nat}{dst:Option Nat}{f:F4->F4}(hf:NF k n dst f)(s:F4):(f s).p6=s.p6:=by
 cases hf with
 |mk o v u =>
  rw [Vc];exact IL _ _ _
def NF.V4 {n:Nat}{dst:Option Nat}{f:F4->F4}(hf:NF k n dst f)(s:F4):(f s).T.length=s.T.length:=by
 cases hf with
 |mk o v u =>
  rw [Du];show (mU s n o).T.length=_
  rw [FB]
def NF.iV {n:Nat}{dst:Option Nat}{f:F4->F4}(hf:NF k n dst f)(s:F4):(f s).L.length=s.L.length:=by
 cases hf with
 |mk o v u =>
  simp_all [Mk,put,Aw]
def NF.comm {n m j i:Nat}{d e:Option Nat}{f g:F4->F4}(hf:NF j n d f)(hg:NF i m e g)(hji:j≠i)(hnm:n≠m)(hde:∀ s,e=some s->d≠some s)(s:F4):f (g s)=g (f s):=by
 cases hf with
 |mk o v u =>
  cases hg with
  |mk o' v' u' =>
   have rL:∀ (l:List x9) (a b:x9),(l.set m b).set n a=(l.set n a).set m b:=fun l a b=>List.set_comm _ _ (fun e=>hnm e.symm)
   have hL:∀ (l:List j3) (a b:j3),(l.set i b).set j a=(l.set j a).set i b:=fun l a b=>List.set_comm _ _ (fun e=>hji e.symm)
   cases o<;>cases o' <;>cases d<;>cases e<;>simp [bw,mU,au,put,hL]
   all_goals grind [set,List.set_comm]
def Mi {i:p9}{m:Nat}{o:x9}(hs:K6 E st i.op<=m):K6 E (au st m o) i.op=K6 E st i.op:=by
 have e:∀ x,G9 (au st m o).T (au st m o).L x=G9 st.T st.L x:=fun _=>rfl
 have e1:(au st m o).H=st.H.set m o:=rfl;have e2:∀ xs,List.map (G9 (au st m o).T (au st m o).L) xs=List.map (G9 st.T st.L) xs:=fun _=>rfl
 cases hop:i.op<;>rw [hop] at hs<;>simp [K6] at hs ⊢
 case call f xs =>
  simp [e2]
  by_cases hp:E.prom f=true
  all_goals simp_all [if_pos,if_neg,iK]
 case aD x xs =>
  simp [e x,e2];split at hs
  .rename_i f first caps hx
   by_cases hp:E.prom f=true
   all_goals simp_all [if_true,if_neg,iK]
  .rfl
def NF.Fz {n j:Nat}{dst:Option Nat}{f:F4->F4}(hf:NF j n dst f){i:p9}(hu:j ∉ cN l6 i)(ht:∀ t,dst=some t->t ∉ ff i) :
  ∃ o:Option x9,K6 E (f st) i.op=K6 E (mU st n o) i.op:=by
 cases hf with
 |mk o v u =>
  refine ⟨o,?_⟩;refine fJ (fun x hx=> ?_) ?_
  .grind [tw,pJ,O2,ff]
  .simp [Mj]
   rfl
def au6 {i:p9}{n j:Nat}{dst:Option Nat}{f:F4->F4}(hf:NF j n dst f)(hC:ru i=true)(hjk:j≠k)(hu:j ∉ cN l6 i)(ht:∀ t,dst=some t->t ∉ ff i)(hd:∀ s,i.dst=some s->dst≠some s)(hn:n<st.H.length)(hs:K6 E st i.op<=n) :
  y8 E l6 u5 k i (f st)=(y8 E l6 u5 k i st).map (fun p=>(f p.1,p.2))/\K6 E (f st) i.op=K6 E st i.op:=by
 refine ⟨?_,?_⟩
 .cases hf with
  |mk o v u =>
   have h1:=AM (E:=E) (l6:=l6) (u5:=u5) (k:=k) (st:=put (mU st n o) j v) (u:=u) (.inl hC) ht hd;have h2:=iD (E:=E) (u5:=u5) (v:=v) (st:=mU st n o) hjk hu (.of (ir hC _));have h3:y8 E l6 u5 k i (mU st n o)=(y8 E l6 u5 k i st).map (fun p=>(mU p.1 n o,p.2)):=by
    cases o with
    |none=>simp only [mU];cases y8 E l6 u5 k i st<;>rfl
    |some o=>exact Mv hC hn hs
   simp only;rw [h1,h2,h3];cases y8 E l6 u5 k i st<;>rfl
 .obtain ⟨o,ho⟩:=hf.Fz (E:=E) (st:=st) hu ht
  rw [ho];cases o with
  |none=>rfl
  |some o=>exact Mi hs
def Zk {i:p9}{j:Nat}{dst:Option Nat}{f:F4->F4}(hf:NF0 j dst f)(hC:ru i=true\/BR i=true)(hjk:j≠k)(hu:j ∉ cN l6 i)(ht:∀ t,dst=some t->t ∉ ff i)(hd:∀ s,i.dst=some s->dst≠some s) :
  y8 E l6 u5 k i (f st)=(y8 E l6 u5 k i st).map (fun p=>(f p.1,p.2))/\K6 E (f st) i.op=K6 E st i.op:=by
 cases hf with
 |mk v u =>
  have h1:=AM (E:=E) (l6:=l6) (u5:=u5) (k:=k) (st:=put st j v) (u:=u) hC ht hd;have h2:=iD (E:=E) (u5:=u5) (v:=v) (st:=st) hjk hu (.of (hC.elim (fun h=>ir h _) (fun h=>kA h _)));refine ⟨?_,?_⟩
  .simp only
   rw [h1,h2];cases y8 E l6 u5 k i st<;>rfl
  .refine fJ (fun x hx=> ?_) (by rw [Mj];rfl)
   rw [tw (fun t ht' =>fun hs=>ht t ht' (by unfold ff;exact List.mem_flatMap.2 ⟨x,hx,hs⟩)),pJ (O2 hx hu)]
def PR {i:p9}{n j:Nat}{dst:Option Nat}{f:F4->F4}(hf:NF j n dst f)(hu:j ∉ cN l6 i)(ht:∀ t,dst=some t->t ∉ ff i)(hs:K6 E (f st) i.op<=n):K6 E st i.op=K6 E (f st) i.op:=by
 obtain ⟨o,ho⟩:=hf.Fz (E:=E) (st:=st) hu ht;rw [ho] at hs ⊢;cases o with
 |none=>rfl
 |some o=>exact Rr hs
def kI {i:p9}{s s2 s' s2' :F4}{rs:List Nat}(h1:s2.p6=s.p6)(h2:s2'.p6=s'.p6)(h3:K6 E s2 i.op=K6 E s i.op):dN E i u5 s2 s2' rs=dN E i u5 s s' rs:=by
 simp_all [dN]
def dO {i:p9}{s s2 s' s2' :F4}{rs:List Nat}(h1:s2'.p6.take (s2'.p6.length - s2.p6.length)=s'.p6.take (s'.p6.length - s.p6.length))(h3:K6 E s2 i.op=K6 E s i.op):dN E i u5 s2 s2' rs=dN E i u5 s s' rs:=by
 simp_all [dN]
def Still.Fv {i b:p9}{d:List Touch}{xH:Option Nat}{kb:Nat}(h:Still kb b.dst xH d st st')(hl:kb ∉ cN l6 i)(ht:∀ s,b.dst=some s->s ∉ ff i):∀ x,x ∈ i.op.Q0->Abs.G9 st'.T st'.L x=Abs.G9 st.T st.L x:=by
 intro x hx;refine h.G9 (O2 hx hl) fun s hs e=>ht s e ?_
 simp_all [ff,List.mem_flatMap]
def Still.qa {i b:p9}{d:List Touch}{xH:Option Nat}{kb:Nat}(h:Still kb b.dst xH d st st')(hl:kb ∉ cN l6 i):z7 st'.L i.guard=z7 st.L i.guard :=
 h.wanted fun _ _ hg=>de hg hl
def iF (l6:List p9)(st:F4):Prop:=∀ (k:Nat) i s,l6[k]? =some i->i.op.B4=true->i.dst=some s->st.p6.any (Touch.T4 s)=true
def Still.marked {kb:Nat}{dst xH:Option Nat}{d:List Touch}(h:Still kb dst xH d st st')(hm:iF l6 st):iF l6 st' :=by
 intro k i s hi ha hd;rw [h.p6,List.any_append,hm k i s hi ha hd];simp
def vq {i:p9}{rs:List Nat}(hn:u5.isSome=i.op.B4)(h:y8 E l6 u5 k i st=some (st',rs)):st.H.length<=st'.H.length/\∃ d,st'.p6=d++st.p6:=by
 cases hk:G8 st i.op with
 |false =>
  obtain ⟨d,hd⟩:=Still.y8 hk hn h;exact ⟨hd.LG,d,hd.p6⟩
 |true =>
  have slot:∀ {s s2:F4} {dst:Option Nat},u7 u5 s k dst=some s2->s.H.length=s2.H.length/\∃ d,s2.p6=d++s.p6:=by
   intro s s2 dst h;have hx:(E1 s (.loc k)).2.H=s.H/\(E1 s (.loc k)).2.p6=s.p6:=by
    simp only [E1];split<;>exact ⟨rfl,rfl⟩
   cases dst with
   |none=>cases u5<;>simp only [u7,G4,W7,Option.some.injEq] at h<;>subst h<;>exact ⟨rfl,[],rfl⟩
   |some t =>
    cases u5<;>simp only [u7,G4,W7] at h
    .split at h
     .cases h;exact ⟨by simp only [hx.1],[_],rfl⟩
     .cases h
    .split at h
     .cases h;exact ⟨by simp only [hx.1],[],by simp only [hx.2];rfl⟩
     .cases h
  have ba4:∀ {v:j3} {s2:F4},u7 u5 (put st k v) k i.dst=some s2->st.H.length<=s2.H.length/\∃ d,s2.p6=d++st.p6:=by
   intro v s2 h;obtain ⟨h1,d,h2⟩:=slot h;exact ⟨Nat.le_of_eq h1,d,h2⟩
  simp only [y8] at h;split at h
  .split at h
   .rename_i s1 rs1 h1
    split at h
    .rename_i s2 h2
     cases h;obtain ⟨e1,d,e2⟩:=slot h2;have hw:st.H.length<=s1.H.length/\∃ d,s1.p6=d++st.p6:=by
      cases hop:i.op<;>rw [hop] at hk h1<;>simp only [G8,j5] at hk
      .rename_i sz bytes ob x y
       simp only [E5,z6.E3,if_true] at h1;split at h1
       .rename_i s3 h3
        cases h1;simp only [E7] at h3;split at hk
        .rename_i id z lo len hr
         rw [hr] at h3;simp only at h3;split at h3
         .simp only [V6] at h3
          split at h3
          .split at h3
           .split at h3
            .cases h3
             refine ⟨by simp [put];omega,[_],rfl⟩
            .cases h3
           .cases h3
          .cases h3
         .cases h3
        .cases hk
       .cases h1
     obtain ⟨e3,d2,e4⟩:=hw;exact ⟨by omega,d++d2,by rw [e2,e4,A9]⟩
    .cases h
   .cases h
  .split at h
   .rename_i s2 h2
    cases h;exact ba4 h2
   .cases h
  .cases h
def iF.ext (hm:iF l6 st)(h:∃ d,st'.p6=d++st.p6):iF l6 st' :=by
 obtain ⟨d,h⟩:=h;intro k i s hi ha hd;rw [h,List.any_append,hm k i s hi ha hd];simp
def swap {V5:Nat->Option Nat}{lg:Nat->kg}(hn:PY l6 V5)(XJ:MN l6 lg){j i:Nat}{a b:p9}(hp:Fl l6 j a i b=true)(ha:l6[j]? =some a)(hb:l6[i]? =some b)(hji:j≠i)
  (hin:∀ k n,V5 k=some n->n<st.H.length) (vZ:iF l6 st) (h1:MO E l6 V5 lg j st st1) (h2:MO E l6 V5 lg i st1 st2):∃ IU,MO E l6 V5 lg i st IU /\MO E l6 V5 lg j IU st2:=by
 obtain ⟨a',ha',h1⟩:=h1;rw [ha] at ha';cases ha';obtain ⟨b',hb',h2⟩:=h2;rw [hb] at hb';cases hb';obtain ⟨ka0,rsa,sa,la⟩:=bp.1 h1;obtain ⟨kb0,rsb,sb,lb⟩:=bp.1 h2;simp only [Fl,c9,o8,List.contains_eq_mem,decide_eq_false_iff_not] at hp;obtain ⟨⟨⟨⟨u1,u2⟩,t1⟩,t2⟩,ec⟩:=hp;have t1' :∀ s,b.dst=some s->s ∉ ff a:=by
  intro s hs;rw [hs] at t1;simp at t1;exact t1.1
 have t3:∀ s,b.dst=some s->a.dst≠some s:=by
  intro s hs;rw [hs] at t1;simp at t1;exact t1.2
 have t4:∀ s,a.dst=some s->b.dst≠some s:=fun s hs h=>t3 s h hs
 have t2' :∀ s,a.dst=some s->s ∉ ff b:=by
  intro s hs;rw [hs] at t2;simpa using t2
 have Ue:=hn.alloc j a ha;have xH:=hn.alloc i b hb;simp only [L5,c9,decide_eq_true_eq] at ec;cases kb:G8 st1 b.op with
 |true =>
  have hu:yW a=true/\i ∈ a.bT:=by
   rcases ec with (((((h|h)|h)|h)|h)|h)|h
   .rcases h.2 with h2|h2
    .rw [fE h2] at kb;cases kb
    .exact ⟨h.1,h2⟩
   .rw [fE h.1] at kb;cases kb
   .rw [bf h.2] at kb;cases kb
   .rw [ir h.1.2] at kb;cases kb
   .rw [bf h.1.2] at kb;cases kb
   .rw [kA h.2] at kb;cases kb
   .rw [bf (uG h.2).1] at kb;cases kb
  obtain ⟨sz,Sj,ob,x,y,s,id,z,lo,n,jd,o,hop,WQ,hd,hg,hx,hT,hne⟩:=GA (Nw kb0 kb ha hu.2);obtain ⟨v,e0,_⟩:=Eo hu.1 sa;have hT0:st.T[s]? =some (.ptr jd o):=by rw [e0] at hT;exact hT
  rw [tc WQ hd hg hT0] at sa;obtain ⟨rfl,rfl⟩:put st j (.ptr jd o)=st1/\[]=rsa:=by simpa using sa
  have hx0:G9 st.T st.L x= .B6 id z lo n:=by rw [<- V0 u1 x (by simp [hop,z6.Q0])];exact hx
  rw [iD hji u1 (by rw [hop];exact GB hx0 hne)] at sb;cases Gi:y8 E l6 (V5 i) i b st with
  |none=>rw [Gi] at sb;cases sb
  |some p =>
   obtain ⟨s',rs'⟩:=p;rw [Gi] at sb;simp only [E2,Option.some.injEq,Prod.mk.injEq] at sb;obtain ⟨rfl,rfl⟩:=sb;have hTs:=Gs hop hx0 Gi (fun e=>t1' s e (by simp [ff,WQ,z6.Q0,u9.slots])) hT0 hne;refine ⟨s',⟨b,hb,bp.2 ⟨?_,rs',Gi,?_⟩⟩,a,ha,bp.2 ⟨by rw [fE hu.1];rfl,[],tc WQ hd hg hTs,?_⟩⟩
   .rw [<- kb0,fT (V0 u1)]
    simp only [yP (V0 u1) (show (put st j (.ptr jd o)).T=st.T from rfl)]
   .rw [lb];exact kI rfl rfl (fJ (V0 u1) rfl)
   .rw [la];exact (dO (by simp [put]) (by rw [dJ hu.1,dJ hu.1])).symm
 |false =>
 cases ka:G8 st a.op with
 |true =>
  have hu:yW b=true/\j ∈ b.bT:=by
   rcases ec with (((((h|h)|h)|h)|h)|h)|h
   .rw [fE h.1] at ka;cases ka
   .exact ⟨h.1,h.2⟩
   .rw [bf h.1] at ka;cases ka
   .rw [bf h.1.1] at ka;cases ka
   .rw [ir h.1.1] at ka;cases ka
   .rw [bf (uG h.1).1] at ka;cases ka
   .rw [kA h.1] at ka;cases ka
  obtain ⟨sz,Sj,ob,x,y,s,id,z,lo,n,jd,o,hop,WQ,hd,hg,hx,hT,hne⟩:=GA (Nw ka0 ka hb hu.2);have hT1:=Gs hop hx sa (fun e=>t2' s e (by simp [ff,WQ,z6.Q0,u9.slots])) hT hne;rw [tc WQ hd hg hT1] at sb;obtain ⟨rfl,rfl⟩:put st1 i (.ptr jd o)=st2/\[]=rsb:=by simpa using sb
  refine ⟨put st i (.ptr jd o),⟨b,hb,bp.2 ⟨by rw [fE hu.1];rfl,[],tc WQ hd hg hT,?_⟩⟩,a,ha,bp.2 ⟨?_,rsa,?_,?_⟩⟩
  .rw [lb];exact dO (by simp [put]) (by rw [dJ hu.1,dJ hu.1])
  .rw [<- ka0,fT (V0 u2)]
   simp only [yP (V0 u2) (show (put st i (.ptr jd o)).T=st.T from rfl)]
  .rw [iD (fun e=>hji e.symm) u2 (by rw [hop];exact GB hx hne),sa]
   rfl
  .rw [la];exact (kI (s:=st) (s2:=put st i (.ptr jd o)) (s' :=st1) (s2' :=put st1 i (.ptr jd o)) rfl rfl (fJ (V0 u2) rfl)).symm
 |false =>
 obtain ⟨da,stA⟩:=Still.y8 ka Ue sa;have XU:qg a=true->(ru b=true\/BR b=true)->(a.op.makes=true->ru b=true/\i ∈ a.bT)->∃ IU,MO E l6 V5 lg i st IU /\MO E l6 V5 lg j IU st2:=by
  intro RR hCD Tv;have hkb:∀ s,G8 s b.op=false:=fun s=>hCD.elim (fun h=>ir h s) (fun h=>kA h s)
  have zD:=fD RR;rw [zD] at Ue;obtain ⟨n,ZD⟩:=E8.1 Ue;rw [ZD] at sa;obtain ⟨rfl,f,hf,hf0,rfl,Ta⟩:=Em RR sa;obtain ⟨hs1,hs2⟩:y8 E l6 (V5 i) i b (f st)=(y8 E l6 (V5 i) i b st).map (fun p=>(f p.1,p.2))/\K6 E (f st) b.op=K6 E st b.op:=by
   cases hmk:a.op.makes with
   |true =>
    have XN:K6 E (f st) b.op<=n:=by
     have:=(XJ j a i ha (Tv hmk).2).2 hmk;rw [lb,la] at this;simpa [dN,ZD] using this
    have az5:=PR hf u1 t2' XN;exact au6 (E:=E) (l6:=l6) (u5:=V5 i) hf (Tv hmk).1 hji u1 t2' t3 (hin j n ZD) (by rw [az5];exact XN)
   |false=>exact Zk (hf0 hmk) hCD hji u1 t2' t3
  rw [hs1] at sb;cases Gi:y8 E l6 (V5 i) i b st with
  |none=>rw [Gi] at sb;cases sb
  |some p =>
   obtain ⟨s',rs'⟩:=p;rw [Gi] at sb;simp only [E2,Option.some.injEq,Prod.mk.injEq] at sb;obtain ⟨rfl,rfl⟩:=sb;obtain ⟨db,YS⟩:=Still.y8 (hkb st) xH Gi;refine ⟨s',⟨b,hb,cM ⟨hkb _,rs',Gi,?_⟩⟩,a,ha,cM ⟨bf RR _,[],?_,?_⟩⟩
   .rw [lb]
    exact kI (hf.p6 _) (hf.p6 _) hs2
   .rw [ZD]
    exact Ta s' (YS.Fv u2 t1') (YS.qa u2) ⟨YS.V4,YS.iV,fun s hs=>YS.marked vZ j a s ha zD hs⟩
   .rw [la]
    refine dO ?_ ?_
    .simp [hf.p6]
    .rw [dH RR,dH RR]
 have XV:qg b=true->(ru a=true\/BR a=true)->(b.op.makes=true->ru a=true/\j ∈ b.bT)->∃ IU,MO E l6 V5 lg i st IU /\MO E l6 V5 lg j IU st2:=by
  intro RS hCD Tv;have hka:∀ s,G8 s a.op=false:=fun s=>hCD.elim (fun h=>ir h s) (fun h=>kA h s)
  have zD:=fD RS;rw [zD] at xH;obtain ⟨m,ZB⟩:=E8.1 xH;rw [ZB] at sb;obtain ⟨rfl,g,hg,hg0,rfl,Tb⟩:=Em RS sb;obtain ⟨hs1,hs2⟩:y8 E l6 (V5 j) j a (g st)=(y8 E l6 (V5 j) j a st).map (fun p=>(g p.1,p.2))/\K6 E (g st) a.op=K6 E st a.op:=by
   cases hmk:b.op.makes with
   |true =>
    have XN:K6 E st a.op<=m:=by
     have:=(XJ i b j hb (Tv hmk).2).2 hmk;rw [lb,la] at this;simpa [dN,ZB] using this
    exact au6 (E:=E) (l6:=l6) (u5:=V5 j) hg (Tv hmk).1 (fun e=>hji e.symm) u2 t1' t4 (hin i m ZB) XN
   |false=>exact Zk (hg0 hmk) hCD (fun e=>hji e.symm) u2 t1' t4
  have sb0:y8 E l6 (some m) i b st=some (g st,[]) :=
   Tb st (fun x hx=>(stA.Fv u1 t2' x hx).symm) (stA.qa u1).symm ⟨stA.V4.symm,stA.iV.symm,fun s hs=>vZ i b s hb zD hs⟩
  refine ⟨g st,⟨b,hb,cM ⟨bf RS _,[],by rw [ZB];exact sb0,?_⟩⟩,a,ha,cM ⟨hka _,rsa,?_,?_⟩⟩
  .rw [lb]
   refine dO ?_ ?_
   .simp [hg.p6]
   .rw [dH RS,dH RS]
  .rw [hs1,sa];rfl
  .rw [la]
   exact (kI (hg.p6 _) (hg.p6 _) hs2).symm
 rcases ec with (((((ec|ec)|ec)|ec)|ec)|ec)|ec
 ·
  obtain ⟨hPa,ec⟩:=ec;obtain ⟨v,rfl,Ta⟩:=Eo hPa sa;have kb' :G8 st b.op=false:=by rw [<- fT (V0 u1)];exact kb
  have hs:=iD (E:=E) (u5:=V5 i) (v:=v) hji u1 (.of kb');rw [hs] at sb;cases Gi:y8 E l6 (V5 i) i b st with
  |none=>rw [Gi] at sb;cases sb
  |some p =>
   obtain ⟨s',rs'⟩:=p;rw [Gi] at sb;simp only [E2,Option.some.injEq,Prod.mk.injEq] at sb;obtain ⟨rfl,rfl⟩:=sb;have lb' :lg i=dN E b (V5 i) st s' rs' :=by rw [lb];exact kI rfl rfl (fJ (V0 u1) rfl)
   obtain ⟨db,YS⟩:=Still.y8 kb' xH Gi;refine ⟨s',⟨b,hb,cM ⟨kb',rs',Gi,lb'⟩⟩,a,ha,cM ⟨fE hPa _,rsa,?_,?_⟩⟩
   .refine Ta s' (YS.Fv u2 t1') (YS.qa u2) fun id hid=> ?_
    rcases ec with hPb|hun
    .obtain ⟨u,rfl,_⟩:=Eo hPb Gi
     exact R5.refl _
    .have:=(XJ j a i ha hun).1
     rw [lb',la] at this;exact YS.reads (E:=E) (i:=b) (rs:=rs') this hid
   .rw [la]
    refine (dO ?_ ?_).symm
    .simp [put]
    .rw [dJ hPa,dJ hPa]
 ·
  obtain ⟨hPb,hun⟩:=ec;obtain ⟨v,rfl,Tb⟩:=Eo hPb sb;have sb0:y8 E l6 (V5 i) i b st=some (put st i v,rsb):=by
   refine Tb st (fun x hx=>(stA.Fv u1 t2' x hx).symm) (stA.qa u1).symm fun id hid=> ?_
   have:=(XJ i b j hb hun).1;rw [la,lb] at this;exact (stA.reads (E:=E) (i:=a) (rs:=rsa) this hid).symm
  refine ⟨put st i v,⟨b,hb,cM ⟨fE hPb _,rsb,sb0,?_⟩⟩,a,ha,cM ⟨by rw [fT (V0 u2)];exact ka,rsa,?_,?_⟩⟩
  .rw [lb]
   refine (dO ?_ ?_)
   .simp [put]
   .rw [dJ hPb,dJ hPb]
  .rw [iD (fun e=>hji e.symm) u2 (.of ka),sa]
   rfl
  .rw [la]
   exact (kI (s:=st) (s2:=put st i v) (s' :=st1) (s2' :=put st1 i v) rfl rfl (fJ (V0 u2) rfl)).symm
 ·
  obtain ⟨RR,RS⟩:=ec;rw [fD RR] at Ue;rw [fD RS] at xH;obtain ⟨n,ZD⟩:=E8.1 Ue;obtain ⟨m,ZB⟩:=E8.1 xH;rw [ZD] at sa;rw [ZB] at sb;obtain ⟨rfl,f,hf,hf0,rfl,Ta⟩:=Em RR sa;obtain ⟨rfl,g,hg,hg0,rfl,Tb⟩:=Em RS sb;have hnm:n≠m:=by
   rintro rfl;exact hji (hn.inj j i n ZD ZB)
  have ut:∀ {c:p9} {x:u9} {t:Nat},x ∈ c.op.Q0->t ∉ ff c->t ∉ x.slots:=by
   intro c x t hx ht h;apply ht;unfold ff;exact List.mem_flatMap.2 ⟨x,hx,h⟩
  have sb0:y8 E l6 (some m) i b st=some (g st,[]) :=
   Tb st (fun x hx=>(hf.G9 (O2 hx u1) (fun t ht=>ut hx (t2' t ht)) st).symm) (hf.wanted (fun _ _ h=>de h u1) st).symm ⟨(hf.V4 st).symm,(hf.iV st).symm,fun s hs=>vZ i b s hb (fD RS) hs⟩
  have sa0:y8 E l6 (some n) j a (g st)=some (f (g st),[]) :=
   Ta (g st) (fun x hx=>hg.G9 (O2 hx u2) (fun t ht=>ut hx (t1' t ht)) st) (hg.wanted (fun _ _ h=>de h u2) st) ⟨hg.V4 st,hg.iV st,fun s hs=>by rw [hg.p6];exact vZ j a s ha (fD RR) hs⟩
  refine ⟨g st,⟨b,hb,cM ⟨bf RS _,[],by rw [ZB];exact sb0,?_⟩⟩,a,ha,cM ⟨bf RR _,[],by rw [ZD,sa0,hf.comm hg hji hnm t3],?_⟩⟩
  .rw [lb]
   refine dO ?_ ?_
   .simp [hf.p6,hg.p6]
   .rw [dH RS,dH RS]
  .rw [la]
   refine (dO ?_ ?_)
   .simp [hf.p6,hg.p6]
   .rw [dH RR,dH RR]
 .exact XU ec.1.1 (.inl ec.1.2) fun _=>⟨ec.1.2,ec.2⟩
 .exact XV ec.1.2 (.inl ec.1.1) fun _=>⟨ec.1.1,ec.2⟩
 .exact XU (uG ec.1).1 (.inr ec.2) fun h=>by rw [(uG ec.1).2] at h;cases h
 .exact XV (uG ec.2).1 (.inr ec.1) fun h=>by rw [(uG ec.2).2] at h;cases h
end
end Go.Abs
namespace Go.Abs
variable [D5]
inductive sj (E:Env) (l6:List p9) (V5:Nat->Option Nat) (lg:Nat->kg):List Nat->F4->F4->Prop where
 |nil (st:F4):sj E l6 V5 lg [] st st
 |cons {k:Nat} {ks:List Nat} {st st1 st2:F4}:MO E l6 V5 lg k st st1->sj E l6 V5 lg ks st1 st2->sj E l6 V5 lg (k::ks) st st2
section
variable {E:Env} {l6:List p9} {V5:Nat->Option Nat} {lg:Nat->kg} {st st1 st2 fin:F4}
theorem MO.len (hn:PY l6 V5){k:Nat}(h:MO E l6 V5 lg k st st1):st.H.length<=st1.H.length:=by
 obtain ⟨i,hi,h⟩:=h;obtain ⟨hk,rs,hs,_⟩:=bp.1 h;exact (vq (hn.alloc k i hi) hs).1
def MO.marked (hn:PY l6 V5){k:Nat}(h:MO E l6 V5 lg k st st1)(hm:iF l6 st):iF l6 st1:=by
 obtain ⟨i,hi,h⟩:=h;obtain ⟨hk,rs,hs,_⟩:=bp.1 h;exact hm.ext (vq (hn.alloc k i hi) hs).2
theorem sj.front (hn:PY l6 V5)(XJ:MN l6 lg){i:Nat}{b:p9}(hb:l6[i]? =some b){rest:List Nat} :
  ∀ (js:List Nat) (st:F4),(∀ j,j ∈ js->j≠i/\∃ a,l6[j]? =some a/\Fl l6 j a i b=true)->(∀ k n,V5 k=some n->n<st.H.length)->iF l6 st->sj E l6 V5 lg (js++i::rest) st fin ->
   ∃ st',MO E l6 V5 lg i st st' /\sj E l6 V5 lg (js++rest) st' fin
 |[],st,_,_,_,h=>by
  cases h with
  |cons h1 h2=>grind
 |j::js,st,hj,hin,vZ,h=>by
  cases h with
  |cons h1 h2 =>
   obtain ⟨s2,g1,g2⟩:=sj.front hn XJ hb js _ (fun j' hj' =>hj j' (by simp [hj'])) (fun k n hk=>Nat.lt_of_lt_of_le (hin k n hk) (h1.len hn)) (h1.marked hn vZ) h2;obtain ⟨hne,a,ha,hp⟩:=hj j (by simp);obtain ⟨s1,e1,e2⟩:=swap hn XJ hp ha hb hne hin vZ h1 g1;exact ⟨s1,e1,sj.cons e2 g2⟩
end
def direct (o:Oper):List Nat:=(o.after.toList.filter (Region.binds .any)).map (·.on)
def KN:List Oper->List (List Nat)->List (List Nat)
 |[],acc=>acc
 |o::os,acc=>KN os (acc++[((direct o).flatMap fun e=>e::acc.getD e []).eraseDups])
def Ia (jE:List (List Nat))(k:Nat)(o:Oper):Bool :=
 (jE.getD k []).all fun j=>(direct o).contains j||(direct o).any fun e=>(jE.getD e []).contains j
def yT (l6:List p9)(jE:List (List Nat))(i:Nat)(b:p9):Bool :=
 (List.range i).all fun j=>(jE.getD i []).contains j||(match l6[j]? with
  |some a=>Fl l6 j a i b
  |none=>false)
def nq (X:Cx)(l6:List p9)(jE:List (List Nat)):List p9->Nat->Bool
 |[],k=>X.ops.size==k
 |i::is,k=>(match X.ops[k]? with
  |some o=>Ia jE k o&&(direct o).all (fun e=>decide (e<k))&&rj X (fun j=>(jE.getD k []).contains j) o i&&yT l6 jE k i
  |none=>false)&&nq X l6 jE is (k+1)
theorem yR {X:Cx}{l6:List p9}{jE:List (List Nat)}:∀ (is:List p9) (k:Nat),l6.drop k=is->nq X l6 jE is k=true->∀ (m:Nat) b,k<=m->l6[m]? =some b ->
  ∃ o,X.ops[m]? =some o/\Ia jE m o=true/\(∀ e,e ∈ direct o->e<m)/\rj X (fun j=>(jE.getD m []).contains j) o b=true/\yT l6 jE m b=true
 |[],k,hd,_,m,b,hkm,hb=>by
  simp_all [List.length]<;>grind
 |i::is,k,hd,h,m,b,hkm,hb=>by
  simp only [nq,c9] at h
  by_cases e:m=k
  .subst e
   have hi:l6[m]? =some i:=by
    have:(l6.drop m)[0]? =some i:=by rw [hd];rfl
    grind
   grind
  .have hd' :l6.drop (k+1)=is:=by
    have:=congrArg (List.drop 1) hd
    grind [List.drop_drop]
   exact yR is (k+1) hd' h.2 m b (by omega) hb
theorem nr {X:Cx}{l6:List p9}{jE:List (List Nat)}:∀ (is:List p9) (k:Nat),nq X l6 jE is k=true->X.ops.size=k+is.length
 |[],k,h=>by grind [nq]
 |i::is,k,h=>by
  simp [nq,c9] at h;have:=nr is (k+1) h.2
  grind
def RX (X:Cx)(S:Nat->Prop):Prop:=∀ (k:Nat) o,S k->X.ops[k]? =some o->∀ e,e ∈ direct o->S e
def KO {X:Cx}{jE:List (List Nat)}{S:Nat->Prop}(hc:RX X S)(hok:∀ (k:Nat) o,X.ops[k]? =some o->Ia jE k o=true/\∀ e,e ∈ direct o->e<k)(hout:∀ k,X.ops.size<=k->jE.getD k []=[]) :
  ∀ (n k:Nat),k<=n->∀ o,X.ops[k]? =some o->(∀ e,e ∈ direct o->S e)->∀ j,j ∈ jE.getD k []->S j:=by
 intro n
 induction n with
 |zero =>
  grind [Ia]
 |succ n ih =>
  intro k hk o ho hd j hj;obtain ⟨h1,h2⟩:=hok k o ho;have:=L1.1 h1 j hj;simp [L5,List.contains_eq_mem,decide_eq_true_eq,List.any_eq_true] at this
  rcases this with h|⟨e,he,hej⟩
  .exact hd j h
  .have hlt:=h2 e he
   cases hoe:X.ops[e]? with
   |none =>
    simp_all
   |some oe=>exact ih e (by omega) oe hoe (hc e oe (hd e he) hoe) j hej
def cI (n:Nat)(listed:Array Bool):List Nat:=(List.range n).filter fun j=> !listed.getD j false
def IB {n i:Nat}{listed:Array Bool}(hi:i<n)(hu:listed.getD i false=false)(hs:listed.size=n) :
  ∃ js rest,cI n listed=js++i::rest/\cI n (listed.setIfInBounds i true)=js++rest/\∀ j,j ∈ js->j<i/\listed.getD j false=false:=by
 refine ⟨(List.range i).filter fun j=> !listed.getD j false,(List.range' (i+1) (n - i - 1)).filter fun j=> !listed.getD j false,?_,?_,?_⟩
 .unfold cI
  have:List.range n=List.range i++i::List.range' (i+1) (n - i - 1):=by
   have h:=List.range'_append_1 (s:=0) (m:=i) (n:=n - i - 1+1)
   grind [List.range_eq_range',List.range'_succ]
  simp_all
 .unfold cI
  have:List.range n=List.range i++i::List.range' (i+1) (n - i - 1):=by
   have h:=List.range'_append_1 (s:=0) (m:=i) (n:=n - i - 1+1)
   grind [List.range_eq_range',List.range'_succ]
  rw [this,List.filter_append,List.filter_cons];have e1:(!(listed.setIfInBounds i true).getD i false)=false:=by simp [hs,hi]
  rw [e1]
  congr 1
  .refine List.filter_congr fun j hj=> ?_
   simp_all<;>grind
  .refine List.filter_congr fun j hj=> ?_
   simp_all<;>grind
 simp_all
section
variable {X:Cx} {l6:List p9} {E:Env} {nt:Nat} {V5:Nat->Option Nat} {lg:Nat->kg} {fin:F4} {jE:List (List Nat)}
def Qe (hst:Stat X nt)(Nl:mZ X.P E.cf E.prom)(eY:∀ f args H lm r,E.cf f args H lm=some r->T3 X.P f=true)(hs:E.lim.strict<=E.lim.base)(hbe:E.lim.base<=E.entry)(Q:Exit->Act->World->Prop)
  (Hj:nq X l6 jE l6 0=true) (hout:∀ k,X.ops.size<=k->jE.getD k []=[]) (hn:PY l6 V5) (hne:∀ k n,V5 k=some n->E.entry<=n) (XJ:MN l6 lg) :
  ∀ (fuel:Nat) (listed:Array Bool) (st:F4) (a:Act) (w:World) (G:Gh) (I:Q9) (N:Nat->Prop),Rg X l6 E nt (fun j=>listed.getD j false=true) st a w G I N->listed.size=l6.length->RX X (fun j=>listed.getD j false=true) ->
   (∀ k n,V5 k=some n->n<st.H.length)->iF l6 st->(∀ k n,V5 k=some n->listed.getD k false=false->¬ N n)->sj E l6 V5 lg (cI l6.length listed) st fin->(cI l6.length listed).length<=fuel ->
   (∀ a' w' G' I' N',Fin X l6 E nt st w G I N fin a' w' G' I' N' ->Q .normal a' w')->wpAny X.P .any X.ops Q fuel listed a w:=by
 have hsize:X.ops.size=l6.length:=by grind [nr]
 have xD:=fun (m:Nat) b hb=>yR l6 0 (by simp) Hj m b (N6 _) hb
 have Tx:∀ (k:Nat) o,X.ops[k]? =some o->Ia jE k o=true/\∀ e,e ∈ direct o->e<k:=by
  intro k o ho;have hk:k<l6.length:=by
   grind
  obtain ⟨o',h1,h2,h3,_⟩:=xD k l6[k] (l5 hk);simp_all
 have hdone:∀ (listed:Array Bool),listed.size=l6.length->Region.ready .any X.ops listed=[]->cI l6.length listed=[]:=by
  intro listed hls hr;cases Lt:cI l6.length listed with
  |nil=>rfl
  |cons i rest =>
   exfalso;have hi:i<l6.length/\listed.getD i false=false/\∀ j,j<i->listed.getD j false=true:=by
    have hm:i ∈ cI l6.length listed:=by simp_all
    unfold cI at hm;simp only [List.mem_filter,List.mem_range,o8] at hm;refine ⟨hm.1,hm.2,fun j hj=> ?_⟩;cases hlj:listed.getD j false with
    |true=>rfl
    |false =>
     have hjm:j ∈ cI l6.length listed:=by
      grind [cI,o8]
     have aM5:(cI l6.length listed).Pairwise (·<·):=List.Pairwise.filter _ List.pairwise_lt_range
     grind [List.pairwise_cons]
   obtain ⟨o,ho,_,hlt,_⟩:=xD i l6[i] (l5 hi.1);have:i ∈ Region.ready .any X.ops listed:=by
    grind [mem_ready,direct]
   simp_all
 have hend:∀ (listed:Array Bool) (st:F4) (a:Act) (w:World) (G:Gh) (I:Q9) (N:Nat->Prop),Rg X l6 E nt (fun j=>listed.getD j false=true) st a w G I N->listed.size=l6.length->sj E l6 V5 lg (cI l6.length listed) st fin->cI l6.length listed=[] ->
   Fin X l6 E nt st w G I N fin a w G I N:=by
  intro listed st a w G I N hR hls hrun Lt;rw [Lt] at hrun;cases hrun;refine ⟨hR.congr fun j=> ?_,aA.refl _ _ _ _ _ _⟩;constructor
  .grind
  simp_all [cI,List.mem_filter,List.mem_range,o8]
 intro fuel
 induction fuel with
 |zero =>
  intro listed st a w G I N hR hls hcl hin vZ hfr hrun hfl hQ;have Lt:cI l6.length listed=[]:=List.length_eq_zero_iff.1 (by omega);refine ⟨?_,hQ _ _ _ _ _ (hend listed st a w G I N hR hls hrun Lt)⟩;cases hr:Region.ready .any X.ops listed with
  |nil=>rfl
  |cons i rest =>
   exfalso;have:i ∈ Region.ready .any X.ops listed:=by rw [hr];simp
   obtain ⟨h0,o,ho,_⟩:=mem_ready.1 this;have hi:i<l6.length:=by grind
   have BY:i<listed.size:=by omega
   have:i ∈ cI l6.length listed:=by
    grind [cI,o8]
   grind
 |succ fuel ih =>
  intro listed st a w G I N hR hls hcl hin vZ hfr hrun hfl hQ;refine ⟨fun hr=>hQ _ _ _ _ _ (hend listed st a w G I N hR hls hrun (hdone listed hls hr)),fun i hi=> ?_⟩;obtain ⟨h0,o,ho,hall⟩:=mem_ready.1 hi;have hia:i<l6.length:=by grind
  have BY:i<listed.size:=by omega
  have hun:listed.getD i false=false:=by
   grind
  obtain ⟨b,hb⟩:∃ b,l6[i]? =some b:=⟨_,l5 hia⟩;obtain ⟨o',ho',hoa,hlt,hci,gI⟩:=xD i b hb;rw [ho] at ho';cases ho';have aS0:∀ e,e ∈ direct o->listed.getD e false=true:=by
   grind [direct]
  have aR2:=KO hcl Tx hout i i (o5 _) o ho aS0;obtain ⟨js,rest,hr1,WS,hjs⟩:=IB hia hun hls;rw [hr1] at hrun;obtain ⟨st1,aT7,bh1⟩:=sj.front hn XJ hb js st (fun j hj=>by
   obtain ⟨hji,hju⟩:=hjs j hj
   grind [yT]) hin vZ hrun
  obtain ⟨b',hb',hD⟩:=aT7;rw [hb] at hb';cases hb';obtain ⟨hk,rs,hstep,bt6⟩:=bp.1 hD;have hstill:=(vq (hn.alloc i b hb) hstep).2;refine wM hst Nl eY hs hbe hR (D:=fun j=>(jE.getD i []).contains j) (fun j hj=>aR2 j (by simpa using hj)) (by grind) ho hb hci (u5:=V5 i) (fun zD=> ?_) (fun n hni=>⟨hne i n hni,hin i n hni⟩) hstep _ _ ?_
  .have:=hn.alloc i b hb
   rw [zD] at this;obtain ⟨n,hni⟩:=E8.1 this;rw [hni];have h1:=hne i n hni;exact ⟨hfr i n hni hun,(fun m hm=>by grind),by grind [newId],by grind [newId]⟩
  .intro a' w' G' I' N' hdn
   have rL:∀ j,(listed.setIfInBounds i true).getD j false=true↔(listed.getD j false=true\/j=i):=by
    intro j
    by_cases e:j=i
    .subst e;simp [BY]
    .rw [Go.getD_set_ne false (fun h=>e h.symm)]
     simp [e]
   refine ih (listed.setIfInBounds i true) st1 a' w' G' I' N' (hdn.rg.congr fun j=>(rL j).symm) (by simp [hls]) ?_ (fun k n hk=>Nat.lt_of_lt_of_le (hin k n hk) hdn.len) (vZ.ext hstill) ?_ (by grind) ?_ ?_
   .intro k ok hk hok e he
    rw [rL] at hk ⊢
    rcases hk with hk|rfl
    .exact Or.inl (hcl k ok hk hok e he)
    grind
   .intro k n hk hku hN
    have aS6 :listed.getD k false=false/\k≠i:=by
     grind
    rcases hdn.old n (hin k n hk) hN with h|h
    .grind
    .exact aS6.2 (hn.inj k i n hk h)
   .grind
   .intro a'' w'' G'' I'' N'' hf
    exact hQ _ _ _ _ _ ⟨hf.rg,hdn.since.trans hf.since⟩
def qI (l6:List p9)(base:Nat)(k:Nat):Option Nat :=
 match l6[k]? with
 |some i=>if i.op.B4 then some (base+((l6.take k).filter (·.op.B4)).length) else none
 |none=>none
def Yf (l6:List p9)(base:Nat):PY l6 (qI l6 base):=by
 refine ⟨fun k i hi=> ?_,fun j k n hj hk=> ?_⟩
 .grind [qI]
 .have key:∀ a b n,a<b->qI l6 base a=some n->qI l6 base b=some n->False:=by
   intro a b n hab ha hb;unfold qI at ha hb;split at ha
   .split at ha
    .split at hb
     .split at hb
      .have h1:((l6.take (a+1)).filter (·.op.B4)).length=((l6.take a).filter (·.op.B4)).length+1:=by
        simp_all [List.take_add_one,List.filter_append]
       grind [List.Sublist.length_le,List.Sublist.filter,List.take_sublist_take_left]
      .cases hb
     .cases hb
    .cases ha
   .cases ha
  grind
theorem wG {base:Nat}:∀ (is:List p9) (k:Nat) (na:Nat) (st st2:F4) (LH:List kg) (lgf:Nat->kg),l6.drop k=is->na=base+((l6.take k).filter (·.op.B4)).length->R9 E l6 is k na st=some (st2,LH) ->
  (∀ m,m<is.length->lgf (k+m)=LH.getD m ⟨[],[],0,0⟩)->LH.length=is.length/\sj E l6 (qI l6 base) lgf (List.range' k is.length) st st2
 |[],k,na,st,st2,LH,lgf,hd,hna,h,hl=>by
  cases h;exact ⟨rfl,sj.nil _⟩
 |i::is,k,na,st,st2,LH,lgf,hd,hna,h,hl=>by
  have hi:l6[k]? =some i:=by
   have:(l6.drop k)[0]? =some i:=by rw [hd];rfl
   grind
  have hd' :l6.drop (k+1)=is:=by
   have:=congrArg (List.drop 1) hd
   grind [List.drop_drop]
  simp [R9] at h;split at h
  .rename_i st1 l hstep
   split at h
   .rename_i st3 lg3 hrun
    cases h;have aS9 :(if i.op.B4=true then na+1 else na)=base+((l6.take (k+1)).filter (·.op.B4)).length:=by
     grind
    obtain ⟨g1,g2⟩:=wG is (k+1) _ st1 st2 lg3 lgf hd' aS9 hrun (fun m hm=>by
     simp_all<;>grind)
    refine ⟨by simp [g1],?_⟩;refine sj.cons ⟨i,hi,?_⟩ g2
    grind [qI]
   .cases h
  .cases h
def QZ {LH:List kg}(hlen:LH.length=l6.length)(h:wu l6 LH=true):MN l6 (fun k=>LH.getD k ⟨[],[],0,0⟩):=by
 intro k i e hi he;unfold wu at h;have hk:=r9 hi;have hz:(i,LH.getD k ⟨[],[],0,0⟩) ∈ l6.zip LH:=by
  refine List.mem_of_getElem? (i:=k) ?_;simp_all
 grind
end
end Go.Abs
namespace Go.Abs
variable [D5]
structure Cd (P:Program)(names:List Tmp)(E:Env)(nt:Nat)(st:St)(a:Act)(w:World)(G:Gh)(I:Q9)(N:Nat->Prop):Prop where
 T:∀ (s:Nat) t,names[s]? =some t->VR G I N w (.slot s) (st.T.getD s .any) (a.tmps.getD t undef)
 H:HR G I N w st.H
 wf:WF G w
 U7:PT E.lim st.H
 V4:st.T.length=names.length
 bt:∀ id,N id->id<st.H.length
 KB:E.entry<=st.H.length
 size:a.tmps.size=nt
 idle:∀ d,d ∈ a.defers->Gn P E.idle d
def rE (names:List Tmp):List (Option Tmp)->Bool
 |[]=>true
 |none::r=>rE names r
 |some d::r=>(names.contains d|| !r.contains (some d))&&rE names r
def jw:List Tmp->Bool
 |[]=>true
 |x::xs=> !xs.contains x&&jw xs
theorem qH:∀ (l:List Tmp),jw l=true->∀ (s s' :Nat) t,l[s]? =some t->l[s']? =some t->s=s'
 |[],_,s,s',t,h,_=>by simp at h
 |x::xs,hok,s,s',t,h,h' =>by
  simp only [jw,c9,o8,List.contains_eq_mem,decide_eq_false_iff_not] at hok;cases s with
  |zero =>
   simp at h;subst h;cases s' with
   |zero=>rfl
   |succ s' =>exact absurd (List.mem_of_getElem? (by simpa using h')) hok.1
  |succ s =>
   cases s' with
   |zero =>
    simp at h';subst h';exact absurd (List.mem_of_getElem? (by simpa using h)) hok.1
   |succ s' =>rw [qH xs hok.2 s s' t (by simpa using h) (by simpa using h')]
theorem sN (names:List Tmp):∀ (l:List (Option Tmp)),rE names l=true->∀ (i j:Nat) d,l[i]? =some (some d)->l[j]? =some (some d)->names.contains d=false->i=j
 |[],_,i,j,d,h,_,_=>by simp at h
 |x::xs,hok,i,j,d,h,h',hn=>by
  have sV:rE names xs=true:=by
   cases x with
   |none=>exact hok
   |some d' =>simp only [rE,c9] at hok;exact hok.2
  have hnot:x=some d->some d ∉ xs:=by
   rintro rfl;simp only [rE,c9,L5,o8,List.contains_eq_mem,decide_eq_false_iff_not] at hok
   rcases hok.1 with h1|h1
   .simp at hn;simp at h1;exact absurd h1 hn
   .exact h1
  cases i with
  |zero =>
   simp at h;cases j with
   |zero=>rfl
   |succ j=>exact absurd (List.mem_of_getElem? (by simpa using h')) (hnot h)
  |succ i =>
   cases j with
   |zero =>
    simp at h';exact absurd (List.mem_of_getElem? (by simpa using h)) (hnot h')
   |succ j=>rw [sN names xs sV i j d (by simpa using h) (by simpa using h') hn]
def dG (P:Program)(names:List Tmp)(nt:Nat)(ops:Array Oper)(l6:List p9)(draw:Bool):Bool :=
 rE names (ops.toList.map (·.dst))&&(ops.toList.all fun o=>match o.dst with|some d=>decide (d<nt)|none=>true) &&
 (if draw then
   let jE:=KN ops.toList []
   decide (jE.length<=ops.size)&&nq ⟨P,names,ops⟩ l6 jE l6 0&&P.follows .mixedOrders
  else lE ⟨P,names,ops⟩ l6 0)
def YT {P:Program}{names:List Tmp}{nt:Nat}{ops:Array Oper}{l6:List p9}{draw:Bool}(hn:jw names=true)(h:dG P names nt ops l6 draw=true):Stat ⟨P,names,ops⟩ nt:=by
 simp only [dG,c9] at h;obtain ⟨⟨h1,h2⟩,_⟩:=h;have get:∀ (i:Nat) d,(ops[i]?).bind (·.dst)=some d->(ops.toList.map (·.dst))[i]? =some (some d):=by
  intro i d hd;rw [List.getElem?_map];cases ho:ops[i]? with
  |none=>rw [ho] at hd;cases hd
  |some o =>
   rw [ho] at hd;have:ops.toList[i]? =some o:=by simpa using ho
   rw [this];simpa using hd
 refine ⟨fun i j d hi hj hc=>sN names _ h1 i j d (get i d hi) (get j d hj) hc,fun i d hd=> ?_,fun s s' t=>qH names hn s s' t⟩;cases ho:ops[i]? with
 |none=>simp only [ho] at hd;cases hd
 |some o =>
  simp only [ho] at hd;have hm:o ∈ ops.toList:=List.mem_of_getElem? (i:=i) (by simpa using ho);have:=L1.1 h2 o hm;have hd' :o.dst=some d:=hd;rw [hd'] at this;simpa using this
section
variable {P:Program} {names:List Tmp} {E:Env} {nt:Nat} {st:St} {a:Act} {w:World} {G:Gh} {I:Q9} {N:Nat->Prop} {ops:Array Oper} {l6:List p9}
def Cd.start (h:Cd P names E nt st a w G I N)(X:Cx)(hX:X=⟨P,names,ops⟩){S:Nat->Prop}(hS:∀ j,¬ S j){H' :q8}(ext:q8)(hH:H' =st.H++ext)(ax4:∀ o,o ∈ ext->o= .dead){L:List j3}(hL:L.length=l6.length)(p6:List Touch) :
  Rg X l6 E nt S ⟨st.T,H',L,p6⟩ a w G I N:=by
 subst hX;subst hH;have get:∀ (id:Nat) o,(st.H++ext)[id]? =some o->st.H[id]? =some o\/o= .dead:=by
  intro id o ho
  rcases s5 id st.H.length with hlt|hge
  .rw [q7 hlt] at ho;exact Or.inl ho
  .rw [p7 hge] at ho
   exact Or.inr (ax4 o (List.mem_of_getElem? ho))
 refine ⟨⟨h.T,fun j hj=>absurd hj (hS j),fun id o ho=> ?_,h.wf,fun id o ho=> ?_⟩,⟨fun j _ _ _ _ hj=>absurd hj (hS j),fun j _ _ _ _ _ _ hj=>absurd hj (hS j)⟩,fun j _ _ hj=>absurd hj (hS j),h.V4,hL,fun id hid=> ?_,?_,h.size,h.idle⟩
 .rcases get id o ho with h1|rfl
  .exact h.H id o h1
  .simp [OR]
 .rcases get id o ho with h1|rfl
  .exact h.U7 id o h1
  .simp [x9.L7]
 .have:=h.bt id hid;simp;omega
 .have:=h.KB;simp;omega
theorem Cd.drew (h:Cd P names E nt st a w G I N)(n:Nat)(hn:w.drawn<=n):Cd P names E nt st a { w with drawn:=n } G I N/\aA E st.H w G I N st.H { w with drawn:=n } G I N:=by
 have hx:Ext G w G { w with drawn:=n }:=(Ext.refl G w).drew n hn;have hk:∀ pl,aK pl G w G { w with drawn:=n }:=fun _ _ _ h=>⟨h,rfl⟩
 refine ⟨⟨fun s t ht=>VR.mono hx (fun _ _=>rfl) (fun _ h=>h) _ _ _ (Or.inr (hk _)) (h.T s t ht),fun id o ho=>OR.mono (w:=w) hx.sub (fun _ _=>rfl) (fun _ h=>h) id o (fun h=>⟨h,rfl⟩) (fun _=>hk _) (h.H id o ho),h.wf,h.U7,h.V4,h.bt,h.KB,h.size,h.idle⟩,?_⟩;exact ⟨hx,fun id _=>⟨fun _ h=>⟨h,rfl⟩,fun _=>hk _⟩,fun _ _ _=>rfl,fun _ _ h=>h,fun _ _ h=>h,fun _ o _ h=>Or.inr ⟨o,h,o5 _⟩⟩
def Cd.done {X:Cx}(hX:X=⟨P,names,ops⟩){S:Nat->Prop}{r:F4}(h:Rg X l6 E nt S r a w G I N):Cd P names E nt ⟨r.T,r.H⟩ a w G I N:=by
 subst hX;exact ⟨h.ri.T,h.ri.H,h.ri.wf,h.ri.U7,h.V4,h.bt,h.KB,h.size,h.idle⟩
structure MM (P:Program)(E:Env):Prop where
 cf:mZ P E.cf E.prom
 can:∀ f args H lm r,E.cf f args H lm=some r->T3 P f=true
 strict:E.lim.strict<=E.lim.base
 base:E.lim.base<=E.entry
def aA.aP5 {H0 ext H:q8}{w0 w:World}{G0 G:Gh}{I0 I:Q9}{N0 N:Nat->Prop}(hb:E.lim.base<=H0.length)(h:aA E (H0++ext) w0 G0 I0 N0 H w G I N):aA E H0 w0 G0 I0 N0 H w G I N:=by
 refine ⟨h.ext,h.eE,h.inj,h.mono,h.old,fun id o' hid ho=> ?_⟩
 rcases h.hle id o' hid ho with h1|⟨o,h1,h2⟩
 .exact Or.inl h1
 .rw [q7 (by omega)] at h1
  exact Or.inr ⟨o,h1,h2⟩
def tv (hE:MM P E)(hn:jw names=true){draw:Bool}(hc:dG P names nt ops l6 draw=true)(h:Cd P names E nt st a w G I N){r:F4}(hr:Q5 E l6 draw st.T st.H=some r)(id:Nat)(Q:Exit->Act->World->Prop)
  (hQ:∀ a' w' G' I' N',Rg ⟨P,names,ops⟩ l6 E nt (fun j=>j<l6.length) r a' w' G' I' N' ->aA E st.H w G I N r.H w' G' I' N' ->Q .normal a' w'):(Code.region id ops draw).wp P Q a w:=by
 have hst:=YT hn hc;simp only [dG,c9] at hc;obtain ⟨_,hc⟩:=hc;unfold Q5 at hr;cases draw with
 |false =>
  simp only [j5,if_false] at hr hc;refine wp_region ?_;have hsz:ops.size=l6.length:=by
   have:∀ (is:List p9) (k:Nat),lE ⟨P,names,ops⟩ is k=true->ops.size=k+is.length:=by
    intro is
    induction is with
    |nil=>intro k h;simpa [lE] using h
    |cons i is ih =>
     intro k h;simp only [lE,c9] at h;have:=ih (k+1) h.2;simp only [q6];omega
   simpa using this l6 0 hc
  rw [hsz,List.range_eq_range'];have hR:Rg ⟨P,names,ops⟩ l6 E nt (fun j=>j<0) ⟨st.T,st.H,j4 l6.length .any,[]⟩ a w G I N :=
   h.start _ rfl (fun j=>by simp) [] (by simp) (by simp) (by simp) []
  refine Fw (X:=⟨P,names,ops⟩) hst hE.cf hE.can hE.strict hE.base Q l6 0 (by simp) (by simp) hc _ a w G I N r hR hr ?_;intro a' w' G' I' N' hf;exact hQ a' w' G' I' N' hf.rg hf.since
 |true =>
  simp only [if_true,c9,decide_eq_true_eq] at hr hc;obtain ⟨⟨bv1,aw8⟩,aS8⟩:=hc;split at hr
  .rename_i r' LH hrun
   split at hr
   .rename_i hok
    cases hr;refine wp_region_any aS8 ?_;obtain ⟨h2,ai0⟩:=h.drew (w.drawn+1) (Nat.le_succ _);have hR:Rg ⟨P,names,ops⟩ l6 E nt (fun j=>(Array.replicate ops.size false).getD j false=true) ⟨st.T,st.H++aB l6,j4 l6.length .any,slotsOf l6⟩ a { w with drawn:=w.drawn+1 } G I N :=
     h2.start _ rfl (fun j=>by
      rcases s5 j ops.size with h|h
      .simp [h]
      .simp [h]) (aB l6) rfl (by
      intro o ho;unfold aB at ho;simp at ho;exact ho.2.symm) (by simp) (slotsOf l6)
    have ay4:iF l6 ⟨st.T,st.H++aB l6,j4 l6.length .any,slotsOf l6⟩:=by
     intro k i s hi ha hd;rw [List.any_eq_true];refine ⟨.slot s,?_,by simp [Touch.T4]⟩;show Touch.slot s ∈ slotsOf l6
     unfold slotsOf;exact List.mem_filterMap.2 ⟨i,List.mem_of_getElem? hi,by simp [ha,hd]⟩
    have hsize:ops.size=l6.length:=by
     have:=nr (X:=⟨P,names,ops⟩) l6 0 aw8;simpa using this
    obtain ⟨hlen,aQ8⟩:=wG (base:=st.H.length) l6 0 st.H.length _ r LH (fun k=>LH.getD k ⟨[],[],0,0⟩) (by simp) (by simp) hrun (fun m _=>by simp);have Lt:cI l6.length (Array.replicate ops.size false)=List.range' 0 l6.length:=by
     unfold cI;rw [List.filter_eq_self.2 ?_,List.range_eq_range'];intro j hj;simp at hj;simp [hsize,hj]
    have hlt:∀ k n,qI l6 st.H.length k=some n->st.H.length<=n/\n<(st.H++aB l6).length:=by
     intro k n hk;unfold qI at hk;split at hk
     .rename_i i hi
      split at hk
      .rename_i zD
       cases hk;refine ⟨by omega,?_⟩;have h1:((l6.take (k+1)).filter (·.op.B4)).length=((l6.take k).filter (·.op.B4)).length+1:=by
        rw [List.take_add_one,hi];simp [List.filter_append,zD]
       have h2:((l6.take (k+1)).filter (·.op.B4)).length<=(l6.filter (·.op.B4)).length :=
        List.Sublist.length_le (List.Sublist.filter _ (List.take_sublist _ _))
       simp [aB];omega
      .cases hk
     .cases hk
    refine Qe (X:=⟨P,names,ops⟩) (jE:=KN ops.toList []) (V5:=qI l6 st.H.length) (lg:=fun k=>LH.getD k ⟨[],[],0,0⟩) (fin:=r) hst hE.cf hE.can hE.strict hE.base Q aw8 (fun k hk=> ?_) (Yf l6 _) (fun k n hk=> ?_) (QZ hlen hok)
     ops.size (Array.replicate ops.size false) _ a _ G I N hR (by simp [hsize]) ?_ (fun k n hk=>(hlt k n hk).2) ay4 (fun k n hk _ hN=> ?_) (by rw [Lt];exact aQ8) (by rw [Lt];simp [hsize]) ?_
    .rw [List.getD,H6 (by simp only at hk;omega)];rfl
    .have:=(hlt k n hk).1;have:=h.KB;omega
    .intro k o hk
     exfalso
     rcases s5 k ops.size with h|h
     .simp [h] at hk
     .simp [h] at hk
    .have h1:=h.bt n hN;have:=(hlt k n hk).1;omega
    .intro a' w' G' I' N' hf
     have hb:E.lim.base<=st.H.length:=B5 hE.base h.KB;exact hQ a' w' G' I' N' hf.rg (ai0.trans (hf.since.aP5 hb))
   .cases hr
  .cases hr
end
end Go.Abs
namespace Go.Abs
variable [D5]
section
variable {P:Program} {names:List Tmp} {E:Env} {nt:Nat} {st st' :St} {a:Act} {w:World} {G:Gh} {I:Q9} {N:Nat->Prop}
theorem wF:∀ (cs:List j3) (k i id sz lo len:Nat),dQ cs k=some (i,id,sz,lo,len)->∃ j,i=k+j/\cs[j]? =some (.B6 id sz lo len)
 |[],_,_,_,_,_,_,h=>by simp [dQ] at h
 |c::cs,k,i,id,sz,lo,len,h=>by
  cases c
  case B6 id' sz' lo' len' =>
   simp_all [dQ,Option.some.injEq,Prod.mk.injEq]
  all_goals
   obtain ⟨j,h1,h2⟩:=wF cs (k+1) i id sz lo len (by simp_all [dQ]);simp_all<;>grind
def Lc {pl:Place}{v:j3}{d:Data}{x:Value}(hd:v.data? =some d)(h:VR G I N w pl v x):DR G w d x:=by
 have h2:VR G I N w pl v.I7 x:=h.I7;cases v<;>simp [j3.data?] at hd<;>first|cases hd|skip
 all_goals simp_all [j3.I7,VR]
theorem SI (b:Nat)(ah4:∀ o,gJ G b o):∀ (vs:List j3) (xs:List Data) (o:Nat),M5 vs=some xs->(∀ j v,vs[j]? =some v->∃ u,w.cell? (ad b (o+j))=some u/\∀ d,v.data? =some d->DR G w d u)->eo G w b o xs
 |[],xs,o,h,_=>by simp_all [M5,eo]
 |v::vs,xs,o,h,hv=>by
  unfold M5 at h;cases hd:v.data? with
  |none=>simp_all
  |some d =>
   rw [hd] at h;cases hds:M5 vs with
   |none=>simp_all
   |some ds =>
    rw [hds] at h;cases h;obtain ⟨u,h1,h2⟩:=hv 0 v rfl;refine ⟨ah4 o,⟨u,by omega,h2 d hd⟩,SI b ah4 vs ds (o+1) hds fun j v' hj=> ?_⟩;obtain ⟨u',g1,g2⟩:=hv (j+1) v' (by simp_all)
    grind
def Tl (h:Cd P names E nt st a w G I N){s:Nat}(hr:vU E.lim E.entry s st=some st'):∃ G' N',Cd P names E nt st' a w G' I N' /\aA E st.H w G I N st'.H w G' I N' :=by
 unfold vU at hr;split at hr
 .rename_i b hT
  split at hr
  .rename_i cs hb
   split at hr
   .rename_i i id sz lo len aT4
    split at hr
    .rename_i vs hvs
     split at hr
     .rename_i xs hxs
      split at hr
      .rename_i aV
       cases hr;obtain ⟨hbase,QC,hmay,hbb,hne⟩:=aV;obtain ⟨j,hj,hcj⟩:=wF cs 0 i id sz lo len aT4;obtain rfl:i=j:=by omega
       obtain ⟨old,hold,hlen,aU9⟩:∃ old,st.H[id]? =some (.cells old)/\lo+len * sz<=old.length/\vs=(old.drop lo).take (len * sz):=by
        grind [rd]
       have hO:=h.H id _ hold;simp only [OR] at hO;obtain ⟨hN,c,e,f,g1,g2,g3,g4,g5⟩:=hO;have hlt:(I id).1<w.heap.size:=by
        grind
       have ah3:=r9 hold;have hx:Ext G w (fV G (I id).1 .jj) w:=by
        refine ⟨rfl,rfl,rfl,fun _=>o5 _,o5 _,fun b' o hi=>⟨?_,rfl⟩,fun b' hb' =>⟨?_,rfl⟩,fun _ c _ _ hc=>⟨c,hc,rfl⟩⟩
        all_goals grind [gJ,oC,G5]
       have hkp:∀ q,aK q G w (fV G (I id).1 .jj) w:=fun q b' n hb' =>⟨by grind [G5],rfl⟩
       have XK:∀ id',id' ≠id->∀ b',G b' = .obj id' ->(fV G (I id).1 .jj) b' = .obj id' /\w.heap[b']? =w.heap[b']? :=fun id' hid b' hb' =>⟨by grind [G5],rfl⟩
       have vr:∀ {pl:Place} {v:j3} {u:Value},VR G I N w pl v u->VR (fV G (I id).1 .jj) I (fun i=>N i/\i≠id) w pl (v.kill id) u :=
        fun hv=>VR.mono hx (fun _ _=>rfl) (fun _ h=>h) _ _ _ (Or.inr (hkp _)) (VR.kill id _ _ _ hv)
       have rL:∀ (id' :Nat) (o' :x9),(((st.H.take E.lim.base++(st.H.drop E.lim.base).map (x9.kill id)).set id .dead).set b (.cells ((N4 id cs).set i (.d (.slice len xs)))))[id']? =some o' ->
         (id' =b/\o' = .cells ((N4 id cs).set i (.d (.slice len xs))))\/(id' ≠b/\id' =id/\o' = .dead)\/(id' ≠b/\id' ≠id/\id' <E.lim.base/\st.H[id']? =some o')\/(id' ≠b/\id' ≠id/\E.lim.base<=id' /\∃ o1,st.H[id']? =some o1/\o' =o1.kill id):=by
        intro id' o' ho'
        by_cases e1:id' =b
        .grind
        .rw [y9 (fun e=>e1 e.symm)] at ho'
         grind
       have rJ:B8 ((N4 id cs).set i (.d (.slice len xs)))<=B8 cs:=B5 (lD _ _ _) (dD id cs);refine ⟨fV G (I id).1 .jj,fun i=>N i/\i≠id,⟨?_,?_,?_,?_,?_,?_,?_,h.size,h.idle⟩,⟨hx,?_,fun _ _ _=>rfl,?_,fun _ _ hn=>hn.1,?_⟩⟩
       .intro s' t ht
        simp only [uN];exact vr (h.T s' t ht)
       .intro id' o' ho'
        rcases rL id' o' ho' with ⟨rfl,rfl⟩|⟨_,rfl,rfl⟩|⟨e1,e2,e3,e4⟩|⟨e1,e2,e3,o1,e4,rfl⟩
        .have hk:=OR.kill id (fun e=>hne e.symm) _ (h.H id' _ hb)
         have hk:=OR.mono hx (fun _ _=>rfl) (fun _ h=>h) id' _ (fun hb' =>XK id' (fun e=>hne e.symm) _ hb') (fun _=>hkp _) hk;simp only [x9.kill,OR] at hk ⊢;obtain ⟨k0,c2,e2,f2,k1,k2,k3,k4,k5⟩:=hk;refine ⟨k0,c2,e2,f2,k1,k2,k3,by grind,fun i' x' hx' => ?_⟩
         by_cases ei:i' =i
         .subst ei
          have BY:i' <(N4 id cs).length:=by grind
          rw [J8 BY] at hx';cases hx';have hOb:=h.H id' _ hb;simp only [OR] at hOb;obtain ⟨_,c3,e3,f3,m1,_,_,_,m5⟩:=hOb;rw [k1] at m1;cases m1;obtain ⟨u,u1,u2⟩:=m5 i' _ hcj;refine ⟨u,u1,?_⟩;simp only [VR] at u2 ⊢;obtain ⟨_,cap,rfl,u3,_⟩:=u2;simp only [DR];refine Or.inr ⟨(I id).1,(I id).2+lo,cap,rfl,u3,SI _ (fun o=>by grind [gJ,oC]) vs xs _ hxs fun j v hj=> ?_⟩;subst aU9;have hj2:j<len * sz/\old[lo+j]? =some v:=by
           grind
          obtain ⟨y,y1,y2⟩:=g5 _ _ hj2.2;refine ⟨y,?_,fun d hd=>DR.mono hx.jj _ _ (Lc hd y2)⟩
          grind [World.cell?,Nat.add_assoc]
         grind
        .simp [OR]
        .have Tt:=OR.low (n:=E.lim.base) e3 o' ((h.U7 id' o' e4).2 e3) (h.H id' o' e4)
         exact OR.mono hx (fun _ _=>rfl) (fun i hi=>⟨hi.1,by omega⟩) id' o' (fun hb' =>XK id' e2 _ hb') (fun _=>hkp _) Tt
        .exact OR.mono hx (fun _ _=>rfl) (fun _ h=>h) id' _ (fun hb' =>XK id' e2 _ hb') (fun _=>hkp _) (OR.kill id e2 o1 (h.H id' o1 e4))
       .intro b' hb'
        rw [G5 (by omega)];exact h.wf b' hb'
       .intro id' o' ho'
        rcases rL id' o' ho' with ⟨rfl,rfl⟩|⟨_,rfl,rfl⟩|⟨e1,e2,e3,e4⟩|⟨e1,e2,e3,o1,e4,rfl⟩
        .obtain ⟨d1,d2⟩:=h.U7 id' _ hb
         grind [x9.L7,B5]
        .simp_all [x9.L7]
        .exact h.U7 id' o' e4
        .obtain ⟨d1,d2⟩:=h.U7 id' o1 e4
         grind [Dd,B5]
       .rw [S5];exact h.V4
       .intro id' hn
        have:=h.bt id' hn.1
        grind
       .grind
       .intro id' hm
        grind
       all_goals grind
      .cases hr
     .cases hr
    .cases hr
   .cases hr
  .cases hr
 .cases hr
def Cq (E:Env)(H:q8)(w:World)(G:Gh)(I:Q9)(N:Nat->Prop)(H' :q8)(w' :World)(G' :Gh)(I' :Q9)(N' :Nat->Prop):Prop :=
 ∀ H0 w0 G0 I0 N0,(E.entry=0->∀ b n pl,G0 b≠ .grow n pl)->aA E H0 w0 G0 I0 N0 H w G I N->aA E H0 w0 G0 I0 N0 H' w' G' I' N'
def aA.trn {E:Env}{H H' :q8}{w w' :World}{G G' :Gh}{I I' :Q9}{N N' :Nat->Prop}(h:aA E H w G I N H' w' G' I' N'):Cq E H w G I N H' w' G' I' N' :=
 fun _ _ _ _ _ _ h0=>h0.trans h
theorem Cq.refl (E:Env)(H:q8)(w:World)(G:Gh)(I:Q9)(N:Nat->Prop):Cq E H w G I N H w G I N:=fun _ _ _ _ _ _ h=>h
theorem Cq.trans {E:Env}{H0 H1 H2:q8}{w0 w1 w2:World}{G0 G1 G2:Gh}{I0 I1 I2:Q9}{N0 N1 N2:Nat->Prop}
  (h:Cq E H0 w0 G0 I0 N0 H1 w1 G1 I1 N1) (k:Cq E H1 w1 G1 I1 N1 H2 w2 G2 I2 N2):Cq E H0 w0 G0 I0 N0 H2 w2 G2 I2 N2 :=
 fun H w G I N hg hs=>k H w G I N hg (h H w G I N hg hs)
theorem gm:∀ l:List j3,(R1 l).length=l.length
 |[]=>rfl
 |_::l=>by simp [R1,gm l]
theorem nI:∀ (l:List j3) (i:Nat),(R1 l)[i]? =(l[i]?).map j3.forget
 |[],_=>by rfl
 |_::_,0=>by rfl
 |_::l,i+1=>by simpa [R1] using nI l i
def vW (l:List j3)(s:Nat):(R1 l).getD s .any=(l.getD s .any).forget:=by
 grind [nI,j3.forget]
section
variable {G' :Gh} {I' :Q9} {N' :Nat->Prop}
mutual
theorem VR.forget (hI:∀ id,N id->I' id=I id)(hN:∀ id,N id->N' id):∀ (pl:Place) (v:j3) (u:Value),VR G I N w pl v u->VR G' I' N' w pl v.forget u
 |_,.any,_,_=>by simp [j3.forget,VR]
 |_,.d x,_,h=>by
  cases x
  case slice n cells =>
   cases cells with
   |nil =>
    simp_all [j3.forget,VR,DR,eo]
   |cons c cs=>simp [j3.forget,VR]
  all_goals simp_all [j3.forget,VR,DR]
 |_,.ptr id off,_,h=>by
  simp_all [j3.forget,VR]
 |_,.S9 _,_,_=>by simp [j3.forget,VR]
 |_,.B6 id sz lo len,_,h=>by
  simp_all [j3.forget,VR]
 |_,.own _ _ _,_,_=>by simp [j3.forget,VR]
 |_,.P5,_,h=>by simp_all [j3.forget,VR]
 |_,.agg l,_,h=>by
  obtain ⟨cs,h1,h2⟩:=h;exact ⟨cs,h1,H8.forget hI hN l _ h2⟩
 |_,.tuple l,_,h=>by
  obtain ⟨cs,h1,h2⟩:=h;exact ⟨cs,h1,H8.forget hI hN l _ h2⟩
 |_,.func f a b,_,h=>by
  obtain ⟨x,y,h1,h2,h3⟩:=h;exact ⟨x,y,h1,H8.forget hI hN a _ h2,H8.forget hI hN b _ h3⟩
 |_,.map id,_,h=>by
  simp_all [j3.forget,VR]
theorem H8.forget (hI:∀ id,N id->I' id=I id)(hN:∀ id,N id->N' id):∀ (l:List j3) (vs:List Value),H8 G I N w l vs->H8 G' I' N' w (R1 l) vs
 |[],_,h=>by grind [R1,H8]
 |a::as,vs,h=>by
  obtain ⟨x,xs,h1,h2,h3⟩:=h;exact ⟨x,xs,h1,VR.forget hI hN .none a x h2,H8.forget hI hN as xs h3⟩
end
theorem ER.forget (hI:∀ id,N id->I' id=I id)(hN:∀ id,N id->N' id):∀ (l:List (Key×j3)) (es:List MapEntry),ER G I N w l es->ER G' I' N' w (l.map fun p=>(p.1,p.2.forget)) es
 |[],_,h=>by grind [ER]
 |(k,v)::r,es,h=>by
  obtain ⟨e,es',h1,h2,h3,h4⟩:=h;exact ⟨e,es',h1,h2,VR.forget hI hN _ _ _ h3,ER.forget hI hN r es' h4⟩
theorem OR.forget (hI:∀ id,N id->I' id=I id)(hN:∀ id,N id->N' id)(hG:∀ b id,G b= .obj id->G' b= .obj id)(id:Nat)(o:x9)(h:OR G I N w id o):OR G' I' N' w id o.forget:=by
 cases o with
 |dead=>simp [x9.forget,OR]
 |cells l =>
  simp [x9.forget,OR] at h ⊢
  grind [gm,nI,VR.forget]
 |map es =>
  grind [x9.forget,OR,ER.forget]
end
theorem wB:∀ (cs:List j3) (k i sz len:Nat) (xs:List Data),wA cs k=some (i,sz,len,xs)->∃ j,i=k+j/\cs[j]? =some (.own sz len xs)
 |[],_,_,_,_,_,h=>by simp [wA] at h
 |c::cs,k,i,sz,len,xs,h=>by
  cases c
  case own sz' len' xs' =>
   simp_all [wA,Option.some.injEq,Prod.mk.injEq]
  all_goals
   obtain ⟨j,h1,h2⟩:=wB cs (k+1) i sz len xs (by simp_all [wA]);simp_all<;>grind
theorem EG {b:Nat}:∀ (xs:List Data) (o i:Nat) (d:Data),eo G w b o xs->xs[i]? =some d->∃ x,w.cell? (ad b (o+i))=some x/\DR G w d x
 |[],_,_,_,_,h=>by simp at h
 |c::cs,o,0,d,hd,h=>by
  simp_all [eo]
 |c::cs,o,i+1,d,hd,h=>by
  obtain ⟨x,h1,h2⟩:=EG cs (o+1) i d hd.2.2 (by simpa using h)
  grind
theorem Nc {G' :Gh}{d:Data}{x:Value}(hf:d.flat=true)(h:DR G w d x):DR G' w d x:=by
 cases d
 case slice n cs=>simp [Data.flat] at hf
 all_goals simp_all [DR]
theorem VB (_h:Cd P names E nt st a w G I N){b2 n2 m:Nat}{pl2:Place}(bl9:b2<w.heap.size)(k6:G b2= .grow n2 pl2)(hG:∀ b' id,G b' = .obj id->fV G b2 (.obj m) b' = .obj id)(QC:E.entry=0)(hbase:E.lim.base=0){H' :q8}{I' :Q9}{N' :Nat->Prop} :
  Cq E st.H w G I N H' w (fV G b2 (.obj m)) I' N' :=by
 intro H0 w0 G0 I0 N0 hg hs;have hne:∀ b',(gJ G0 b' =gJ G0 b')/\((G0 b' = .jj\/∃ n,G0 b' = .held n)->b' ≠b2):=fun b' =>⟨rfl,fun hi e=>by
  subst e;have:=(hs.ext.still b' hi).1;simp_all⟩
 have ah4:∀ b' o',gJ G0 b' o' ->G0 b' = .jj\/∃ n,G0 b' = .held n:=fun b' o' hi=>by
  grind [gJ,absurd]
 refine ⟨⟨hs.ext.os,hs.ext.tape,hs.ext.output,hs.ext.drawn,hs.ext.size,fun b' o' hi=> ?_,fun b' hi=> ?_,hs.ext.shape⟩,?_,?_,?_,?_,?_⟩
 .obtain ⟨q1,q2⟩:=hs.ext.jj b' o' hi
  grind [gJ,G5]
 .obtain ⟨q1,q2⟩:=hs.ext.still b' hi
  simp_all [G5]
 .intro id hm
  obtain ⟨p1,p2⟩:=hs.eE id hm;refine ⟨fun b' hb' => ?_,fun off b' n hb' =>absurd hb' (hg QC _ _ _)⟩;simp_all
 all_goals omega
def VA (h:Cd P names E nt st a w G I N){s:Nat}(hr:MA E.lim E.entry s st=some st'):∃ G' I' N',Cd P names E nt st' a w G' I' N' /\Cq E st.H w G I N st'.H w G' I' N' :=by
 unfold MA at hr;split at hr
 .rename_i b hT
  split at hr
  .rename_i cs hb
   split at hr
   .rename_i i sz len xs how
    split at hr
    .grind [Cq.refl]
    split at hr
    .rename_i hl0 aV
     cases hr;obtain ⟨QC,hbase,TC,Zz⟩:=aV;obtain ⟨j,hj,hcj⟩:=wB cs 0 i sz len xs how;obtain rfl:i=j:=by omega
     have hO:=h.H b _ hb;simp only [OR] at hO;obtain ⟨hN,c,e,f,g1,g2,g3,g4,g5⟩:=hO;obtain ⟨v,v1,v2⟩:=g5 i _ hcj;simp only [VR] at v2;obtain ⟨hlen,v2⟩:=v2
     rcases v2 with ⟨_,v2⟩|⟨_,b2,o,cap,c2,e2,f2,rfl,k2,k3,k4,k5,k6,k7⟩
     .omega
     have XF:b2<w.heap.size:=by
      grind
     have hbl:=r9 hb;have hI:∀ id,N id->(fun k=>if k=st.H.length then (b2,o) else I k) id=I id:=fun id hid=>by
      have:=h.bt id hid
      grind
     have hN' :∀ id,N id->(fun k=>N k\/k=st.H.length) id:=fun id hid=> .inl hid
     have hG:∀ b' id,G b' = .obj id->fV G b2 (.obj st.H.length) b' = .obj id:=fun b' id hb' =>by
      grind [G5]
     have rL:∀ (id' :Nat) (o' :x9),((st.H.map x9.forget).set b (.cells ((R1 cs).set i (.B6 st.H.length sz 0 len)))++[.cells (xs.map .d)])[id']? =some o' ->
       (id' =b/\o' = .cells ((R1 cs).set i (.B6 st.H.length sz 0 len)))\/(id' ≠b/\∃ o1,st.H[id']? =some o1/\o' =o1.forget)\/(id' =st.H.length/\o' = .cells (xs.map .d)):=by
      intro id' o' ho'
      rcases s5 id' st.H.length with hlt|hge
      .rw [q7 (by simpa using hlt)] at ho'
       by_cases e1:id' =b
       .grind
       grind
      .rw [p7 (by simpa using hge)] at ho'
       have h0:id' - ((st.H.map x9.forget).set b (.cells ((R1 cs).set i (.B6 st.H.length sz 0 len)))).length=0:=by
        grind
       grind
     have bh2:VR (fV G b2 (.obj st.H.length)) (fun k=>if k=st.H.length then (b2,o) else I k) (fun k=>N k\/k=st.H.length) w (.cell b i) (.B6 st.H.length sz 0 len) (.slice (some (ad b2 o)) len cap):=by
      simp only [VR,if_true,Nat.add_zero];exact ⟨.inr trivial,cap,rfl,k2,c2,e2,f2,k3,k4⟩
     refine ⟨fV G b2 (.obj st.H.length),fun k=>if k=st.H.length then (b2,o) else I k,fun k=>N k\/k=st.H.length,⟨?_,?_,?_,?_,?_,?_,?_,h.size,h.idle⟩,?_⟩
     .intro s' t ht
      simp only [vW];exact VR.forget hI hN' _ _ _ (h.T s' t ht)
     .intro id' o' ho'
      rcases rL id' o' ho' with ⟨rfl,rfl⟩|⟨_,o1,h1,rfl⟩|⟨rfl,rfl⟩
      .have hk:=OR.forget hI hN' hG id' _ (h.H id' _ hb)
       simp only [x9.forget,OR] at hk ⊢;obtain ⟨q0,c3,e3,f3,q1,q2,q3,q4,q5⟩:=hk;refine ⟨q0,c3,e3,f3,q1,q2,q3,by simpa using q4,fun i' x' hx' => ?_⟩
       by_cases ei:i' =i
       all_goals grind
      .exact OR.forget hI hN' hG id' _ (h.H id' o1 h1)
      .simp only [OR,if_true]
       refine ⟨.inr trivial,c2,e2,f2,k3,oC _ _ _,k5,?_,fun i' x' hx' => ?_⟩
       .have:=M3 sz k2
        grind
       .rw [List.getElem?_map] at hx'
        cases hd:xs[i']? with
        |none=>grind
        |some d =>
         grind [EG,World.cell?,VR,Nc,L1,List.mem_of_getElem?]
     .intro b' hb'
      rw [G5 (by omega)];exact h.wf b' hb'
     .intro id' o' ho'
      omega
     .rw [gm];exact h.V4
     .intro id' hn
      rcases hn with hn|rfl
      .have:=h.bt id' hn
       grind
      .simp
     all_goals grind [VB]
    .cases hr
   .cases hr
  .cases hr
 .rename_i sz len xs hT
  split at hr
  .grind [Cq.refl]
  split at hr
  .rename_i hl0 aV
   cases hr;obtain ⟨QC,hbase,TC,Zz⟩:=aV;have vZ:=r9 hT;have hlt:=h.V4;obtain ⟨t,ht⟩:∃ t,names[s]? =some t:=⟨_,l5 (by omega)⟩;have v2:=h.T s t ht;rw [List.getD_eq_getElem?_getD,hT,Option.getD_some] at v2;simp only [VR] at v2;obtain ⟨hlen,v2⟩:=v2
   rcases v2 with ⟨_,v2⟩|⟨_,b2,o,cap,c2,e2,f2,hv,k2,k3,k4,k5,k6,k7⟩
   .omega
   have XF:b2<w.heap.size:=by
    grind
   have hI:∀ id,N id->(fun k=>if k=st.H.length then (b2,o) else I k) id=I id:=fun id hid=>by
    have:=h.bt id hid
    grind
   have hN' :∀ id,N id->(fun k=>N k\/k=st.H.length) id:=fun id hid=> .inl hid
   have hG:∀ b' id,G b' = .obj id->fV G b2 (.obj st.H.length) b' = .obj id:=fun b' id hb' =>by
    grind [G5]
   refine ⟨fV G b2 (.obj st.H.length),fun k=>if k=st.H.length then (b2,o) else I k,fun k=>N k\/k=st.H.length,⟨?_,?_,?_,?_,?_,?_,?_,h.size,h.idle⟩,VB h XF k6 hG QC hbase⟩
   .intro s' t' ht'
    by_cases e:s' =s
    .simp_all [List.getD_eq_getElem?_getD,J8,gm,Option.getD_some,VR,if_true,Nat.add_zero,trivial]
    .rw [List.getD_eq_getElem?_getD,y9 (fun h=>e h.symm),<- List.getD_eq_getElem?_getD,vW]
     exact VR.forget hI hN' _ _ _ (h.T s' t' ht')
   .intro id' o' ho'
    rcases s5 id' st.H.length with hlt' |hge
    .rw [q7 (by simp_all),List.getElem?_map] at ho'
     cases h1:st.H[id']? with
     |none=>simp_all
     |some o1 =>
      rw [h1] at ho';cases ho';exact OR.forget hI hN' hG id' _ (h.H id' o1 h1)
    .rw [p7 (by simpa using hge)] at ho'
     have h0:id' - (st.H.map x9.forget).length=0:=by
      grind
     rw [h0] at ho';simp only [A1] at h0;simp only [List.getElem?_cons_zero,Option.some.injEq] at ho';obtain rfl:id' =st.H.length:=by omega
     subst ho';simp only [OR,if_true];refine ⟨.inr trivial,c2,e2,f2,k3,oC _ _ _,k5,?_,fun i' x' hx' => ?_⟩
     .have:=M3 sz k2
      grind
     .rw [List.getElem?_map] at hx'
      cases hd:xs[i']? with
      |none=>simp_all
      |some d =>
       grind [EG,World.cell?,VR,Nc,L1,List.mem_of_getElem?]
   .intro b' hb'
    rw [G5 (by omega)];exact h.wf b' hb'
   .intro id' o' ho'
    omega
   .simp_all [List.length_set,gm]
   .intro id' hn
    rcases hn with hn|rfl
    .have:=h.bt id' hn
     grind
    .simp
   omega
  .cases hr
 .cases hr
def af3 (h:Cd P names E nt st a w G I N){s:Nat}(hr:nJ E.lim E.entry s st=some st'):∃ G' I' N',Cd P names E nt st' a w G' I' N' /\Cq E st.H w G I N st'.H w G' I' N' :=by
 unfold nJ at hr;split at hr
 .rename_i r h1
  cases hr;obtain ⟨G',N',h2,h3⟩:=Tl h h1;exact ⟨G',I,N',h2,h3.trn⟩
 .exact VA h hr
end
end Go.Abs


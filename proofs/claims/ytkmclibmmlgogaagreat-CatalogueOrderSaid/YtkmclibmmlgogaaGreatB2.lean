/- Texts A16 A17 A18 A18b A19 A20 A21 A22 A23 (made short by a program) -/
import Derived.Test.YtkmclibmmlgogaaGreatB1
set_option linter.unusedVariables false
set_option linter.unusedSimpArgs false
open Bool renaming and_eq_true → b5, false_eq_true → b7, not_eq_true' → j9
open List renaming cons_append → G4, getElem?_append_left → p4, getElem?_append_right → p9, getElem?_eq_getElem → o7, getElem?_eq_none → q6, getElem?_set_ne → q9, getElem?_set_self → C9, length_append → C1, map_cons → G7, replicate → c9
open Nat renaming le_refl → l5, lt_or_ge → p7
open Option renaming map_some → E6
namespace Go.u7
mutual
theorem VR.kill {G:Gh}{I:Q9}{N:Nat->Prop}{w:World}(id:Nat):∀ (pl:Place) (a:b6) (x:Value),VR G I N w pl a x->VR G I (fun i=>N i/\i≠id) w pl (a.kill id) x
 |_,.any,_,_=>by simp [b6.kill,VR]
 |_,.d _,_,h=>by simpa [b6.kill,VR] using h
 |_,.ptr i o,x,h=>by
  unfold b6.kill;split
  ·simp [VR]
  ·rename_i hne
   simp only [VR] at h ⊢;exact ⟨⟨h.1,hne⟩,h.2⟩
 |_,.P9 _,_,h=>by simpa [b6.kill,VR] using h
 |_,.D0 i z lo n,x,h=>by
  unfold b6.kill;split
  ·simp [VR]
  ·rename_i hne
   simp only [VR] at h ⊢;exact ⟨⟨h.1,hne⟩,h.2⟩
 |_,.own _ _ _,_,h=>by simpa only [b6.kill,VR] using h
 |_,.I5,_,h=>by simpa only [b6.kill,VR] using h
 |_,.agg l,x,h=>by
  simp only [b6.kill,VR] at h ⊢;obtain ⟨cs,h1,h2⟩:=h;exact ⟨cs,h1,F1.kill id l _ h2⟩
 |_,.tuple l,x,h=>by
  simp only [b6.kill,VR] at h ⊢;obtain ⟨cs,h1,h2⟩:=h;exact ⟨cs,h1,F1.kill id l _ h2⟩
 |_,.func f a b,x,h=>by
  simp only [b6.kill,VR] at h ⊢;obtain ⟨u,v,h1,h2,h3⟩:=h;exact ⟨u,v,h1,F1.kill id a _ h2,F1.kill id b _ h3⟩
 |_,.map i,x,h=>by
  unfold b6.kill;split
  ·simp [VR]
  ·rename_i hne
   simp only [VR] at h ⊢;exact ⟨⟨h.1,hne⟩,h.2⟩
theorem F1.kill {G:Gh}{I:Q9}{N:Nat->Prop}{w:World}(id:Nat):∀ (l:List b6) (xs:List Value),F1 G I N w l xs->F1 G I (fun i=>N i/\i≠id) w (H7 id l) xs
 |[],_,h=>by simpa [H7,F1] using h
 |a::as,xs,h=>by
  simp only [H7,F1] at h ⊢;obtain ⟨x,xs',h1,h2,h3⟩:=h;exact ⟨x,xs',h1,VR.kill id _ a x h2,F1.kill id as xs' h3⟩
end
mutual
theorem VR.low {G:Gh}{I:Q9}{N:Nat->Prop}{w:World}(n:Nat):∀ (pl:Place) (a:b6) (x:Value),a.M3<=n->VR G I N w pl a x->VR G I (fun i=>N i/\i<n) w pl a x
 |_,.any,_,_,_=>by simp [VR]
 |_,.d _,_,_,h=>by simpa [VR] using h
 |_,.ptr i o,x,hb,h=>by simp only [b6.M3] at hb;simp only [VR] at h ⊢;exact ⟨⟨h.1,by omega⟩,h.2⟩
 |_,.P9 _,_,_,h=>by simpa [VR] using h
 |_,.D0 i z lo n',x,hb,h=>by simp only [b6.M3] at hb;simp only [VR] at h ⊢;exact ⟨⟨h.1,by omega⟩,h.2⟩
 |_,.own _ _ _,_,_,h=>by simpa only [VR] using h
 |_,.I5,_,_,h=>by simpa only [VR] using h
 |_,.agg l,x,hb,h=>by
  simp only [b6.M3] at hb;simp only [VR] at h ⊢;obtain ⟨cs,h1,h2⟩:=h;exact ⟨cs,h1,F1.low n l _ hb h2⟩
 |_,.tuple l,x,hb,h=>by
  simp only [b6.M3] at hb;simp only [VR] at h ⊢;obtain ⟨cs,h1,h2⟩:=h;exact ⟨cs,h1,F1.low n l _ hb h2⟩
 |_,.func f a b,x,hb,h=>by
  simp only [b6.M3] at hb;simp only [VR] at h ⊢;obtain ⟨u,v,h1,h2,h3⟩:=h;exact ⟨u,v,h1,F1.low n a _ (by omega) h2,F1.low n b _ (by omega) h3⟩
 |_,.map i,x,hb,h=>by simp only [b6.M3] at hb;simp only [VR] at h ⊢;exact ⟨⟨h.1,by omega⟩,h.2⟩
theorem F1.low {G:Gh}{I:Q9}{N:Nat->Prop}{w:World}(n:Nat):∀ (l:List b6) (xs:List Value),y9 l<=n->F1 G I N w l xs->F1 G I (fun i=>N i/\i<n) w l xs
 |[],_,_,h=>by simpa [F1] using h
 |a::as,xs,hb,h=>by
  simp only [y9] at hb;simp only [F1] at h ⊢;obtain ⟨x,xs',h1,h2,h3⟩:=h;exact ⟨x,xs',h1,VR.low n _ a x (by omega) h2,F1.low n as xs' (by omega) h3⟩
end
section
variable {P:Program} {X:Cx} {l:F9} {S:Nat->Prop} {st:E1} {a:Act} {w w' :World} {G:Gh} {I:Q9} {N:Nat->Prop} {D:Nat->Bool} {j4:List n8}
theorem ER.kill (id:Nat):∀ (es:List (Data×b6)) (xs:List MapEntry),ER G I N w es xs->ER G I (fun i=>N i/\i≠id) w (es.map fun p=>(p.1,p.2.kill id)) xs
 |[],_,h=>by simpa [ER] using h
 |(k,v)::r,xs,h=>by
  simp only [G7,ER] at h ⊢;obtain ⟨e,es',h1,h2,h3,h4⟩:=h;exact ⟨e,es',h1,h2,VR.kill id _ v _ h3,ER.kill id r es' h4⟩
theorem ER.low (n:Nat):∀ (es:List (Data×b6)) (xs:List MapEntry),y9 (es.map (·.2))<=n->ER G I N w es xs->ER G I (fun i=>N i/\i<n) w es xs
 |[],_,_,h=>by simpa [ER] using h
 |(k,v)::r,xs,hb,h=>by
  simp only [G7,y9] at hb;simp only [ER] at h ⊢;obtain ⟨e,es',h1,h2,h3,h4⟩:=h;exact ⟨e,es',h1,h2,VR.low n _ v _ (by omega) h3,ER.low n r es' (by omega) h4⟩
theorem dX (id:Nat):∀ (l:List b6) (i:Nat),(H7 id l)[i]? =(l[i]?).map (b6.kill id)
 |[],i=>by simp [H7]
 |v::vs,0=>by simp [H7]
 |v::vs,i+1=>by simp [H7,dX id vs i]
theorem L4 (id:Nat)(l:List b6):(H7 id l).length=l.length:=by
 induction l with
 |nil=>rfl
 |cons v vs ih=>simp [H7,ih]
theorem rI (id:Nat)(l:List b6)(i:Nat):(H7 id l).getD i .any=(l.getD i .any).kill id:=by
 simp only [List.getD,dX];cases l[i]? <;>simp [b6.kill]
mutual
theorem Cs (id:Nat):∀ (a:b6),(a.kill id).M3<=a.M3
 | .any=>by simp [b6.kill]
 | .d _=>by simp [b6.kill]
 | .ptr i o=>by unfold b6.kill;split<;>simp [b6.M3]
 | .P9 _=>by simp [b6.kill]
 | .D0 i z lo n=>by unfold b6.kill;split<;>simp [b6.M3]
 | .own _ _ _=>by simp [b6.kill]
 | .I5=>by simp [b6.kill]
 | .agg l=>by simp only [b6.kill,b6.M3];exact bZ id l
 | .tuple l=>by simp only [b6.kill,b6.M3];exact bZ id l
 | .func f a b=>by
  simp only [b6.kill,b6.M3];have:=bZ id a;have:=bZ id b;omega
 | .map i=>by unfold b6.kill;split<;>simp [b6.M3]
theorem bZ (id:Nat):∀ (l:List b6),y9 (H7 id l)<=y9 l
 |[]=>by simp [H7]
 |v::vs=>by
  simp only [H7,y9];have:=Cs id v;have:=bZ id vs;omega
end
theorem yD (id:Nat):∀ (es:List (Data×b6)),y9 ((es.map fun p=>(p.1,p.2.kill id)).map (·.2))<=y9 (es.map (·.2))
 |[]=>by simp
 |(k,v)::r=>by
  simp only [G7,y9];have:=Cs id v;have:=yD id r;omega
theorem zg (id:Nat)(o:u5):(o.kill id).M3<=o.M3:=by
 cases o with
 |dead=>simp [u5.kill]
 |cells l=>simpa [u5.kill,u5.M3] using bZ id l
 |map es=>simpa only [u5.kill,u5.M3] using yD id es
theorem OR.kill (id:Nat){id' :Nat}(hne:id' ≠id)(o:u5)(h:OR G I N w id' o):OR G I (fun i=>N i/\i≠id) w id' (o.kill id):=by
 cases o with
 |dead=>simp [u5.kill,OR]
 |cells l0 =>
  simp only [u5.kill,OR] at h ⊢;obtain ⟨hN,c,e,f,h1,h2,h3,h4,h5⟩:=h
  ·refine ⟨⟨hN,hne⟩,c,e,f,h1,h2,h3,by rw [L4];exact h4,fun i x hx=> ?_⟩
   rw [dX] at hx;cases hl:l0[i]? with
   |none=>simp [hl] at hx
   |some y =>
    simp [hl] at hx;subst hx;obtain ⟨v,g1,g2⟩:=h5 i y hl;exact ⟨v,g1,VR.kill id _ y v g2⟩
 |map es =>
  simp only [u5.kill,OR] at h ⊢;obtain ⟨hN,arr,Cz,h1,h2,h3⟩:=h;exact ⟨⟨hN,hne⟩,arr,Cz,h1,h2,ER.kill id es _ h3⟩
theorem oP:∀ (l:List b6) (i:Nat) (x:b6),l[i]? =some x->x.M3<=y9 l
 |[],_,_,h=>by simp at h
 |v::vs,0,x,h=>by simp at h;subst h;simp only [y9];omega
 |v::vs,i+1,x,h=>by have:=oP vs i x (by simpa using h);simp only [y9];omega
theorem OR.low {id n:Nat}(hn:id<n)(o:u5)(hb:o.M3<=n)(h:OR G I N w id o):OR G I (fun i=>N i/\i<n) w id o:=by
 cases o with
 |dead=>simp [OR]
 |cells l0 =>
  simp only [OR] at h ⊢;obtain ⟨hN,c,e,f,h1,h2,h3,h4,h5⟩:=h
  ·refine ⟨⟨hN,hn⟩,c,e,f,h1,h2,h3,h4,fun i x hx=> ?_⟩
   obtain ⟨v,g1,g2⟩:=h5 i x hx;exact ⟨v,g1,VR.low n _ x v (by simp only [u5.M3] at hb;exact Nat.le_trans (oP _ _ _ hx) hb) g2⟩
 |map es =>
  simp only [OR] at h ⊢;obtain ⟨hN,arr,Cz,h1,h2,h3⟩:=h;exact ⟨⟨hN,hn⟩,arr,Cz,h1,h2,ER.low n es _ (by simpa [u5.M3] using hb) h3⟩
end
section
variable {P:Program} {X:Cx} {l:F9} {S:Nat->Prop} {st:E1} {a:Act} {w w' :World} {G G' :Gh} {I I' :Q9} {N:Nat->Prop} {D:Nat->Bool} {j4:List n8}
def mT (H:o6)(base id:Nat)(o:u5):o6:=(H.take base++(H.drop base).map (u5.kill id)).set id o
theorem gJ {H:o6}{base id:Nat}{o:u5}(hid:id<H.length){id' :Nat}{o' :u5}(h:(mT H base id o)[id']? =some o') :
  (id' =id/\o' =o)\/(id' ≠id/\id' <base/\H[id']? =some o')\/(id' ≠id/\base<=id' /\∃ o0,H[id']? =some o0/\o' =o0.kill id):=by
 unfold mT at h;have hlen:(H.take base++(H.drop base).map (u5.kill id)).length=H.length:=by simp;omega
 by_cases he:id' =id
 ·subst he
  rw [C9 (by rw [hlen];exact hid)] at h;cases h;exact Or.inl ⟨rfl,rfl⟩
 ·rw [q9 (fun e=>he e.symm)] at h
  by_cases hb:id' <base
  ·by_cases hl:id' <H.length
   ·rw [p4 (by simp;omega),List.getElem?_take_of_lt hb] at h
    exact Or.inr (Or.inl ⟨he,hb,h⟩)
   ·rw [q6 (by rw [hlen];omega)] at h;cases h
  ·by_cases hl:base<=H.length
   ·rw [p9 (by simp;omega)] at h
    simp only [List.length_take,List.getElem?_map,List.getElem?_drop] at h;rw [show base+(id' - min base H.length)=id' from by omega] at h;cases h0:H[id']? with
    |none=>simp [h0] at h
    |some o0=>simp [h0] at h;exact Or.inr (Or.inr ⟨he,by omega,o0,rfl,h.symm⟩)
   ·rw [q6 (by rw [hlen];omega)] at h;cases h
theorem bX.MF (h:RI X l S st a w G I N){k:Nat}(hk:¬ S k)(Z1:k<st.L.length){entry id:Nat}{o0:u5}(h0:st.H[id]? =some o0)(hbase:l.base<=id)(am4:entry<=id)(hmay:l.may id=true)
  (hx:Ext G w G' w') (hkp:∀ q,ay q G w G' w') (ho:∀ id',id' ≠id->∀ b,G b= .obj id' ->G' b= .obj id' /\w'.heap[b]? =w.heap[b]?) (hwf:WF G' w') (hI:∀ i,i≠id->I' i=I i)
  {cs:List b6} (Qn:OR G' I' N w' id (.cells cs)) (kT:y9 cs<=max o0.M3 (id+1)) {v:b6} {x:Value} (hv:VR G' I' N w' (.loc k) v x) (n5:List Touch) (Bc:n5.any (Touch.J1 id)=true) :
  bX X l S entry st a w G I N (put { T:=H7 id st.T,H:=mT st.H l.base id (.cells cs),L:=H7 id st.L,n5 } k v) k x w' G' I' N:=by
 have hid:=n9 h0;have hI' :∀ i,(N i/\i≠id)->I' i=I i:=fun i hi=>hI i hi.2
 have hNN:∀ i,(N i/\i≠id)->N i:=fun i hi=>hi.1
 have vr:∀ {pl:Place} {b:b6} {u:Value},VR G I N w pl b u->VR G' I' N w' pl (b.kill id) u :=
  fun hb=>VR.mono hx hI' hNN _ _ _ (Or.inr (hkp _)) (VR.kill id _ _ _ hb)
 refine ⟨⟨?_,?_,?_,hwf,?_⟩,?_,hx,?_,?_,?_,fun _ h=>h,?_,?_⟩
 ·intro s t ht
  simp only [u7.put,rI];exact vr (h.T s t ht)
 ·intro j hj d hd hn
  have:k≠j:=by rintro rfl;exact hk hj
  simp only [u7.put];rw [F3 _ _ _ _ _ this,rI];exact vr (h.L j hj d hd hn)
 ·intro id' o' ho'
  simp only [u7.put] at ho'
  rcases gJ hid ho' with ⟨rfl,rfl⟩|⟨hne,hb,hold⟩|⟨hne,hb,o1,hold,rfl⟩
  ·exact Qn
  ·have Mr:=OR.low (n:=l.base) hb o' ((h.T9 id' o' hold).2 hb) (h.H id' o' hold)
   exact OR.mono hx (fun i hi=>hI i (by have:=hi.2;omega)) (fun i hi=>hi.1) id' o' (fun hb' =>ho id' hne _ hb') (fun _=>hkp _) Mr
  ·exact OR.mono hx hI' hNN id' _ (fun hb' =>ho id' hne _ hb') (fun _=>hkp _) (OR.kill id hne o1 (h.H id' o1 hold))
 ·intro id' o' ho'
  simp only [u7.put] at ho'
  rcases gJ hid ho' with ⟨rfl,rfl⟩|⟨hne,hb,hold⟩|⟨hne,hb,o1,hold,rfl⟩
  ·obtain ⟨d1,d2⟩:=h.T9 id' o0 h0
   refine ⟨fun hs=> ?_,fun hb=>by omega⟩;have:=d1 hs;simp only [u5.M3];omega
  ·exact h.T9 id' o' hold
  ·obtain ⟨d1,d2⟩:=h.T9 id' o1 hold
   have:=zg id o1;exact ⟨fun hs=>by have:=d1 hs;omega,fun hb=>by have:=d2 hb;omega⟩
 ·simp only [u7.put]
  rw [K6 _ _ _ _ (by rw [L4];exact Z1)];exact hv
 ·intro id' hm
  have hne:id' ≠id:=by rintro rfl;rw [hmay] at hm;cases hm
  exact ⟨ho id' hne,fun off=>hkp _⟩
 ·intro id' _ ht
  have hne:id' ≠id:=by rintro rfl;simp only [u7.put] at ht;rw [Bc] at ht;cases ht
  exact ⟨hI id' hne,ho id' hne⟩
 ·intro id' hlt _
  exact hI id' (by omega)
 ·simp only [u7.put,mT];simp;omega
 ·intro id' o' hb ho'
  simp only [u7.put] at ho'
  rcases gJ hid ho' with ⟨rfl,rfl⟩|⟨hne,hb',hold⟩|⟨hne,hb',o1,hold,rfl⟩
  ·omega
  ·exact Or.inr ⟨o',hold,l5 _⟩
  ·omega
theorem Dw {cs:List b6}{vs:List Value}(h:cs.all b6.one=true)(hv:F1 G I N w cs vs):GI vs:=jT _ _ h hv
theorem yf (h:RI X l S st a w G I N)(hD:∀ j,D j=true->S j){k:Nat}(hk:¬ S k)(Z1:k<st.L.length){o:Oper}{sz bytes:Nat}{ob:Bool}{x y:r8}
  (hc:fD P (X.ck D) o (.append sz bytes ob x y)=true) {E:Env} (hE:E.lim=l) {id lo len:Nat} (hx:F0 st.T st.L x= .D0 id sz lo len) {st' :E1} (he:V8 E k sz bytes st id lo len (F0 st.T st.L y)=some st') :
  ∃ v w' G' I',(execOp a.eval o).run P w= .ok (.value v) w' /\bX X l S E.entry st a w G I N st' k v w' G' I' N:=by
 obtain ⟨x0,y0,t,t2,e,i,z,hop,Xm,Xn,ht2,hsz,hu,hi,hsi,Qe,hz,hzs,Xk⟩:=eW hc;unfold V8 at he;rw [hE] at he;split at he
 ·rename_i ak
  split at he
  ·rename_i l0 m cs hl0 hcs
   split at he
   ·rename_i Gl
    obtain ⟨rfl,hlen,hroom,al6,hone,_⟩:=Gl;cases he;obtain ⟨vn,hl,hf,My,hcl⟩:=sg (P:=P) h.H (h.S2 hD _ _ Xn) hsz hcs;have hval:=h.S2 hD _ _ Xm;rw [hx] at hval;simp only [VR] at hval;obtain ⟨Qd,cap,hx0,hcap,c,e',f,hb,Ky⟩:=hval;have iY:(execOp a.eval o).run P w=((Builtin.append_ #[t,t2] o.type #[a.eval x0,a.eval y0]).run P w).andThen fun v w' => .ok (.value v) w' :=by
     obtain ⟨dst,bt,ty,pos,after,guard⟩:=o;simp only at hop;subst hop;simp [execOp,resolve,invoke,builtin]
    have sR:vn.length=m * sz:=by rw [F1.length _ _ My,hcl]
    subst hsi Qe;have hO:=h.H id _ hl0;simp only [OR] at hO;obtain ⟨_,c0,e0,f0,h1,Gn,hnf,aS8,h5⟩:=hO;rw [hb] at h1;cases h1;have kT:y9 (H7 id l0++cs)<=max (u5.cells l0).M3 (id+1):=by
     rw [bY];have:=bZ id l0;simp only [u5.M3];omega
    have Ms:=Dw hone My;have vrk:∀ {pl:Place} {b:b6} {u:Value},VR G I N w pl b u->VR G I N w pl (b.kill id) u :=
     fun hb=>VR.mono (Ext.refl _ _).sub (fun _ _=>rfl) (fun i hi=>hi.1) _ _ _ (Or.inr (fun _ _ h=>⟨h,rfl⟩)) (VR.kill id _ _ _ hb)
    by_cases hfit:len+m<=cap
    ·
     have hrun:=ew (P:=P) (w:=w) (ty:=o.type) hu hi ht2 (base:=some (ad (I id).1 ((I id).2+0))) (sLen:=len) (sCap:=cap) hl (hf w rfl) hfit;have hbig:(len+m) * i.size<=cap * i.size:=Nat.mul_le_mul_right _ hfit;rw [Nat.add_mul] at hbig;have ao1:(I id).2+len * i.size+vn.length<=c.size:=by omega
     have hst:=run_storeCells_at (P:=P) (I id).1 ((I id).2+0+len * i.size) e' f vn 0 c w hb hnf (by omega) Ms;have pI :(I id).2+0+len * i.size+vn.length<=c.toList.length:=by simp;omega
     have oq :(K0 c.toList ((I id).2+0+len * i.size) vn).toArray.size=c.size:=by rw [List.size_toArray,lX _ _ _ pI,Array.length_toList]
     have hw:=zK (G:=G) hb Gn oq;refine ⟨.slice (some (ad (I id).1 ((I id).2+0))) (len+m) cap,w.setRow (I id).1 (K0 c.toList ((I id).2+0+len * i.size) vn).toArray,G,I,?_,
      bX.MF h hk Z1 hl0 ak.1 ak.2.1 ak.2.2 hw.ext hw.keeps (fun id' hne=>hw.vP hne) (fun b' hb' =>h.wf b' (by rw [<- hw.size];exact hb')) (fun _ _=>rfl) ?_ kT ?_ (.obj id::st.n5) (by simp [Touch.J1])⟩
     ·rw [iY,hx0,hrun]
      simp only [Y8];simp only [Nat.add_zero] at hst ⊢;rw [hst];rfl
     ·simp only [OR]
      have mono:∀ {pl:Place} {b:b6} {u:Value},VR G I N w pl b u->VR G I N (w.setRow (I id).1 (K0 c.toList ((I id).2+0+len * i.size) vn).toArray) pl b u :=
       fun hq=>VR.mono hw.ext (fun _ _=>rfl) (fun _ h=>h) _ _ _ (Or.inr (hw.keeps _)) hq
      refine ⟨Qd,_,e',f,setRow_heap w _ c _ e' f hb,Gn,by rw [oq];exact hnf,?_,fun j b hj=> ?_⟩
      ·rw [oq,C1,L4,hcl];omega
      ·rw [show (K0 c.toList ((I id).2+0+len * i.size) vn).toArray[(I id).2+j]? =(K0 c.toList ((I id).2+0+len * i.size) vn)[(I id).2+j]? from by simp,gR _ _ _ pI]
       have hjl:=n9 hj;rw [C1,L4,hcl] at hjl
       by_cases RW:j<l0.length
       ·rw [p4 (by rw [L4];exact RW),dX] at hj
        rw [if_pos (by omega)];rw [o7 RW] at hj;simp at hj;subst hj;obtain ⟨v,g1,g2⟩:=h5 j _ (o7 RW);exact ⟨v,by simpa using g1,mono (vrk g2)⟩
       ·rw [p9 (by rw [L4];omega),L4] at hj
        rw [if_neg (by omega),if_pos (by omega)];obtain ⟨u,r1,r2⟩:=F1.get _ _ My (j - l0.length) b hj;exact ⟨u,by rw [show (I id).2+j - ((I id).2+0+len * i.size)=j - l0.length from by omega];exact r1,mono r2.place⟩
     ·simp only [VR]
      exact ⟨Qd,cap,rfl,hfit,_,e',f,setRow_heap w _ c _ e' f hb,by rw [oq];exact Ky⟩
    ·
     have hlt:cap<len+m:=by omega
     have XF:∃ vo:List Value,vo.length=len * i.size/\(∀ w2:World,w2.heap=w.heap->(Builtin.firstCells i.size len (.slice (some (ad (I id).1 ((I id).2+0))) len cap)).run P w2= .ok vo.toArray w2) /\
       (∀ (j:Nat) b,l0[j]? =some b->∃ v,vo[j]? =some v/\VR G I N w (.cell id j) b v):=by
      refine ⟨(List.range (len * i.size)).map (fun j=>(c[(I id).2+j]?).getD default),by simp,fun w2 HV=> ?_,fun j b hj=> ?_⟩
      ·have:=run_loadCells_list (P:=P) w2 (ad (I id).1 ((I id).2+0)) ((List.range (len * i.size)).map (fun j=>(c[(I id).2+j]?).getD default)) (fun j v hj=>by
        have hjn:j<len * i.size:=by
         rcases p7 j (len * i.size) with h|h
         ·exact h
         ·simp [h] at hj
        simp [hjn] at hj;rw [Y8,fC HV,R9 hb];have hlt:(I id).2+j<c.size:=by omega
        simp [hlt] at hj ⊢;exact hj)
       simpa [Builtin.firstCells] using this
      ·have hjn:j<len * i.size:=by have:=n9 hj;omega
       obtain ⟨u,g1,g2⟩:=h5 j b hj;exact ⟨u,by simp [hjn,g1],g2⟩
     obtain ⟨vo,ap7,ap8,ap9⟩:=XF;obtain ⟨gy,yS,hrun⟩:=gb (P:=P) (w:=w) (ty:=o.type) hu hi hz ht2 (base:=some (ad (I id).1 ((I id).2+0))) (sLen:=len) (sCap:=cap) hl (hf w.drew rfl) (ap8 w.drew rfl) hlt (Bw hroom Xk) (rR hroom hlt);have hnb:iI w (w.drew.alloc (.cells (vo.toArray++vn.toArray++Builtin.zeroCells z.cells (gy - (len+m))) e)) (.cells (vo.toArray++vn.toArray++Builtin.zeroCells z.cells (gy - (len+m))) e):=by
      have:=iI.alloc w.drew (.cells (vo.toArray++vn.toArray++Builtin.zeroCells z.cells (gy - (len+m))) e);exact ⟨this.os,this.tape,this.output,this.size,this.old,this.new⟩
     have hsize:(vo.toArray++vn.toArray++Builtin.zeroCells z.cells (gy - (len+m))).size=gy * i.size:=by
      simp only [Array.size_append,List.size_toArray,uC,hzs,ap7,sR];have:gy * i.size=(len+m) * i.size+(gy - (len+m)) * i.size:=by rw [<- Nat.add_mul];congr 1;omega
      rw [this,Nat.add_mul]
     refine ⟨.slice (some (ad w.heap.size 0)) (len+m) gy,_,kz G w.heap.size (.obj id),xu I id (w.heap.size,0),?_,
      bX.MF h hk Z1 hl0 ak.1 ak.2.1 ak.2.2 (hnb.ext h.wf _) (hnb.keeps h.wf _) (fun id' _=>hnb.vP h.wf _ id') (hnb.wf h.wf _) (fun i hi=>eg hi) ?_ kT ?_ (.obj id::st.n5) (by simp [Touch.J1])⟩
     ·rw [iY,hx0,hrun];rfl
     ·simp only [OR]
      have mono:∀ {pl:Place} {b:b6} {u:Value},VR G I N w pl b u->VR (kz G w.heap.size (.obj id)) (xu I id (w.heap.size,0)) N _ pl (b.kill id) u :=
       fun hq=>VR.mono (hnb.ext h.wf _).sub (fun i hi=>eg hi.2) (fun i hi=>hi.1) _ _ _ (Or.inr (hnb.keeps h.wf _ _)) (VR.kill id _ _ _ hq)
      refine ⟨Qd,_,e,(0,0),by rw [cA];exact hnb.new,by simp,qV _,?_,fun j b hj=> ?_⟩
      ·rw [hsize]
       simp only [cA,C1,L4,hcl];have:(len+m) * i.size<=gy * i.size:=Nat.mul_le_mul_right _ yS;rw [Nat.add_mul] at this;omega
      ·have hjl:=n9 hj
       rw [C1,L4,hcl] at hjl;simp only [cA,Nat.zero_add];rw [show (vo.toArray++vn.toArray++Builtin.zeroCells z.cells (gy - (len+m)))[j]? =(vo++vn++(Builtin.zeroCells z.cells (gy - (len+m))).toList)[j]? from by rw [<- Array.getElem?_toList];simp,
        p4 (by rw [C1];omega)]
       by_cases RW:j<l0.length
       ·rw [p4 (by rw [L4];exact RW),dX] at hj
        rw [p4 (by omega)];rw [o7 RW] at hj;simp at hj;subst hj;obtain ⟨v,g1,g2⟩:=ap9 j _ (o7 RW);exact ⟨v,g1,mono g2⟩
       ·rw [p9 (by rw [L4];omega),L4] at hj
        rw [p9 (by omega)];obtain ⟨u,r1,r2⟩:=F1.get _ _ My (j - l0.length) b hj;refine ⟨u,by rw [show j - vo.length=j - l0.length from by omega];exact r1,?_⟩;have hb' :b.M3<=id:=Nat.le_trans (oP _ _ _ hj) al6;exact (VR.mono (hnb.ext h.wf _).sub (fun i hi=>eg (by have:=hi.2;omega)) (fun i hi=>hi.1) _ _ _ (Or.inl rfl) (VR.low id _ _ _ hb' r2)).place
     ·simp only [VR]
      refine ⟨Qd,gy,by simp,yS,_,e,(0,0),by rw [cA];exact hnb.new,?_⟩;rw [hsize];simp
   ·cases he
  ·cases he
 ·cases he
end
section
variable {P:Program} {X:Cx} {l:F9} {S:Nat->Prop} {st:E1} {a:Act} {w w' :World} {G G' :Gh} {I I' :Q9} {N:Nat->Prop} {D:Nat->Bool} {j4:List n8}
def FX (P:Program)(ck:Operand->r8->Bool)(o:Oper)(op:s9):Bool :=
 match o.op,op with
 | .mapUpdate t m k v,.cQ kk m' k' v' =>ck m m' &&ck k k' &&ck v v' &&(match P.underlying t with
  |some (.map kt _)=>bp P kt kk
  |_=>false)
 |_,_=>false
theorem Gv {kk:CK}{a b:Data}(h:Data.X7 kk a b=some true):a=b:=by
 unfold Data.X7 at h;split at h
 ·split at h
  ·rename_i hk
   subst hk;simp at h;subst h;rfl
  ·cases h
 ·simp at h;subst h;rfl
 ·simp at h;subst h;rfl
 ·cases h
theorem Ia {kk:CK}{a:Data}{r:Bool}(h:Data.X7 kk a a=some r){u v:Value}(hu:DR G w a u)(hv:DR G w a v):u=v/\Instr.sameBits 10000 u v=true:=by
 unfold Data.X7 at h;split at h
 ·simp only [DR] at hu hv
  subst hu hv;exact ⟨rfl,by simp [Instr.sameBits]⟩
 ·simp only [DR] at hu hv
  subst hu hv;exact ⟨rfl,by simp [Instr.sameBits,beq_toListBytes]⟩
 ·simp only [DR] at hu hv
  subst hu hv;exact ⟨rfl,by simp [Instr.sameBits]⟩
 ·cases h
theorem Is {kk:CK}{t:TypeId}{d:TypeDesc}(ht:bp P t kk=true)(hd:P.underlying t=some d){key:Data}{u:Value}(hu:DR G w key u)(hkk:Data.X7 kk key key=some true){nv:b6}{x:Value}(hx:VR G I N w .none nv x) :
  ∀ (es:List (Data×b6)) (xs:List MapEntry) (i:Nat) (es' :List (Data×b6)),ER G I N w es xs->bM kk key nv es=some es' ->
   (Instr.findNow d u xs i=some none/\∀ born,ER G I N w es' (xs++[{ key:=u,val:=x,born }])) \/
   (∃ j v0,Instr.findNow d u xs i=some (some (i+j,v0))/\(∃ e0,xs[j]? =some e0/\e0.key=u)/\ER G I N w es' (xs.modify j fun e=>{ e with key:=u,val:=x }))
 |[],xs,i,es',hE,h=>by
  simp [ER] at hE;subst hE;simp [bM] at h;subst h;refine Or.inl ⟨rfl,fun born=> ?_⟩;simp only [List.nil_append,ER];exact ⟨_,[],rfl,hu,hx,rfl⟩
 |(k',v')::rest,xs,i,es',hE,h=>by
  simp only [ER] at hE;obtain ⟨e,ys,rfl,h2,h3,h4⟩:=hE;unfold bM at h;split at h
  ·rename_i hk
   simp at h;subst h;have he:=Gv hk;subst he;obtain ⟨huv,_⟩:=Ia hkk hu h2;refine Or.inr ⟨0,e.val,by simp [Instr.findNow,ja hk hu h2 ht hd],⟨e,rfl,huv.symm⟩,?_⟩;simp only [List.modify_zero_cons,ER];exact ⟨_,ys,rfl,hu,hx,h4⟩
  ·rename_i hk
   split at h
   ·rename_i r' hr
    simp at h;subst h
    rcases Is ht hd hu hkk hx rest ys (i+1) r' h4 hr with ⟨g1,g2⟩|⟨j,v0,g1,g2,g3⟩
    ·refine Or.inl ⟨by simp [Instr.findNow,ja hk hu h2 ht hd,g1],fun born=> ?_⟩
     simp only [G4,ER];exact ⟨e,_,rfl,h2,h3,g2 born⟩
    ·refine Or.inr ⟨j+1,v0,?_,by simpa using g2,?_⟩
     ·simp only [Instr.findNow,ja hk hu h2 ht hd,g1]
      rw [show i+1+j=i+(j+1) from by omega]
     ·simp only [List.modify_succ_cons,ER]
      exact ⟨e,_,rfl,h2,h3,g3⟩
   ·cases h
  ·cases h
theorem uM {kk:CK}{key:Data}{nv:b6}:∀ (es es' :List (Data×b6)),bM kk key nv es=some es' ->y9 (es'.map (·.2))<=max (y9 (es.map (·.2))) nv.M3
 |[],es',h=>by simp [bM] at h;subst h;simp [y9]
 |(k',v')::rest,es',h=>by
  unfold bM at h;split at h
  ·simp at h;subst h
   simp only [G7,y9];omega
  ·split at h
   ·rename_i r' hr
    simp at h;subst h;have:=uM rest r' hr;simp only [G7,y9];omega
   ·cases h
  ·cases h
theorem Gd (h:RI X l S st a w G I N)(hD:∀ j,D j=true->S j){k:Nat}(hk:¬ S k)(Z1:k<st.L.length)(entry:Nat){o:Oper}{kk:CK}{m ky v:r8}(hc:FX P (X.ck D) o (.cQ kk m ky v)=true){E:Env}(hE:E.lim=l)
  {st' :E1} (he:R6 E k kk st (F0 st.T st.L m) (F0 st.T st.L ky) (F0 st.T st.L v)=some st'):∃ w',(execOp a.eval o).run P w= .ok .skip w' /\bX X l S entry st a w G I N st' k undef w' G I N:=by
 obtain ⟨dst,bt,ty,pos,after,guard⟩:=o;cases bt<;>simp only [FX,b5] at hc<;>try (cases hc;done)
 rename_i t m' k' v';obtain ⟨⟨⟨hm,hky⟩,hv⟩,ht⟩:=hc;have h1:=h.S2 hD _ _ hm;have h2:=h.S2 hD _ _ hky;have h3:=h.S2 hD _ _ hv;split at ht
 ·rename_i kt et hu
  obtain ⟨dk,hdk⟩:∃ d,P.underlying kt=some d:=by
   cases hd:P.underlying kt with
   |none=>cases kk<;>simp [bp,hd] at ht
   |some d=>exact ⟨d,rfl⟩
  unfold R6 at he;split at he
  ·rename_i id kd hp hq
   rw [hp] at h1;rw [hq] at h2;simp only [VR] at h1 h2;split at he
   ·rename_i es RU
    split at he
    ·rename_i ak
     split at he
     ·rename_i hkk
      split at he
      ·rename_i es' Xs
       cases he;have hO:=h.H id _ RU;simp only [OR] at hO;obtain ⟨hN,arr,Cz,g1,g2,g3⟩:=hO;have TI:(getObj (I id).1).run P w= .ok (.map arr Cz) w:=by simp [getObj,Sem.run,g1]
       have hlt:(I id).1<w.heap.size:=by
        rcases p7 (I id).1 w.heap.size with h|h
        ·exact h
        ·rw [Array.getElem?_eq_none h] at g1;cases g1
       have kX:∀ ob:Obj,(setObj (I id).1 ob).run P w= .ok () { w with heap:=w.heap.setIfInBounds (I id).1 ob }:=by
        intro ob;simp [setObj,Sem.run,g1]
       have wrote:∀ ob:Obj,nx id (I id).1 w { w with heap:=w.heap.setIfInBounds (I id).1 ob } G:=by
        intro ob;refine ⟨g2,rfl,rfl,rfl,by simp,fun b' hne=> ?_,fun c e f hc=> ?_⟩
        ·simp [Array.getElem?_setIfInBounds_ne (fun e=>hne e.symm)]
        ·rw [g1] at hc;cases hc
       have kT:(u5.map es').M3<=max (u5.map es).M3 (id+1)\/(l.base<=id/\l.strict<=id):=by
        left;have:=uM es es' Xs;simp only [u5.M3];have:=ak.1;omega
       have fin:∀ (LM :Array MapEntry) (PM :Nat),ER G I N w es' LM.toList->bX X l S entry st a w G I N (put { st with H:=st.H.set id (.map es'),n5:= .obj id::st.n5 } k .any) k undef { w with heap:=w.heap.setIfInBounds (I id).1 (.map LM PM) } G I N:=by
        intro LM PM hER;have hw:=wrote (.map LM PM);refine bX.write h hk Z1 entry hw RU ?_ (by rw [<- hE];exact ak.2) kT (fun _=>Iff.rfl) (by simp [VR]) (.obj id::st.n5) (by simp [Touch.J1]);simp only [OR];exact ⟨hN,LM,PM,by simp [hlt],g2,ER.mono hw.ext (fun _ _=>rfl) (fun _ h=>h) _ _ hER⟩
       rcases Is (P:=P) ht hdk h2 hkk h3 es arr.toList 0 es' g3 Xs with ⟨f1,f2⟩|⟨j,v0,f1,⟨e0,f2,f2'⟩,f3⟩
       ·have RV:(Instr.findKey kt (a.eval k') arr.toList).run P w= .ok none w:=by simp [Instr.findKey,run_underlying hdk,f1]
        refine ⟨_,?_,fin (arr.push { key:=a.eval k',val:=a.eval v',born:=Cz }) (Cz+1) (by simpa using f2 Cz)⟩;simp [execOp,h1.2,Instr.mapUpdate,run_underlying hu,TI,aB ht,RV,kX]
       ·have RV:(Instr.findKey kt (a.eval k') arr.toList).run P w= .ok (some (0+j,v0)) w:=by simp [Instr.findKey,run_underlying hdk,f1]
        have hkeep:(Instr.keyThatStays (((arr[0+j]?).map (·.key)).getD (a.eval k')) (a.eval k')).run P w= .ok (a.eval k') w:=by
         have e1:arr[0+j]? =some e0:=by simpa using f2
         have LD:=(Ia hkk h2 h2).2;rw [e1];simp only [E6,Option.getD_some,f2',Instr.keyThatStays,LD,if_true,Sem.run_pure]
        refine ⟨_,?_,fin (arr.modify (0+j) fun e=>{ e with key:=a.eval k',val:=a.eval v' }) Cz (by simpa using f3)⟩;simp only [execOp,h1.2,Instr.mapUpdate,Sem.run_bind,run_underlying hu,Result.andThen_ok,TI,aB ht,RV,hkeep,kX,Sem.run_pure]
      ·cases he
     ·cases he
    ·cases he
   ·cases he
  ·cases he
 ·cases ht
end
section
variable {P:Program} {X:Cx} {l:F9} {S:Nat->Prop} {st:E1} {a:Act} {w w' :World} {G G' :Gh} {I I' :Q9} {N:Nat->Prop} {D:Nat->Bool} {j4:List n8}
theorem Dd (h:RI X l S st a w G I N)(hpv:PV X j4 S st a w I)(hT:st.T.length=X.names.length)(hD:∀ j,D j=true->S j){x:Operand}{y:r8}(hc:X.ck D x y=true)(hn:isNil l j4 st y=true) :
  a.eval x= .slice none 0 0:=by
 unfold isNil at hn;split at hn
 ·unfold Cx.ck at hc
  split at hc
  ·simp_all
  ·simp_all
  ·rename_i v' b heq
   cases heq;have:=aZ (G:=G) (I:=I) (N:=N) (w:=w) _ _ hc;simpa [VR,Act.eval] using this
  all_goals simp_all
 ·rename_i j
  have TK:∃ t,x= .tmp t/\D j=true/\(X.ops[j]?).bind (·.dst)=some t/\X.names.contains t=false:=by
   unfold Cx.ck at hc;split at hc
   ·simp_all
   ·rename_i t j' heq
    cases heq;simp only [b5,beq_iff_eq,j9] at hc;exact ⟨t,rfl,hc.1.1,hc.1.2,hc.2⟩
   all_goals simp_all
  obtain ⟨t,rfl,hDj,rL,CX⟩:=TK;have RT:=hD j hDj;simp only [Act.eval];split at hn
  ·rename_i hj
   have h1:=h.L j RT t rL CX;rw [W0 hj] at h1;simpa [VR] using h1
  ·rename_i n0 c0 hj
   split at hn
   ·rename_i ai hai
    unfold lH at hn;split at hn
    ·rename_i s hop
     simp only [b5,j9] at hn;obtain ⟨hun,hs⟩:=hn;split at hs
     ·rename_i hs'
      obtain ⟨ts,hts⟩:∃ ts,X.names[s]? =some ts:=by
       have:=n9 hs';exact ⟨_,o7 (by omega)⟩
      have h1:=h.T s ts hts;rw [W0 hs'] at h1;have he:=hpv.slot j ai s ts t RT (by rw [hj];simp) hai hop hts rL CX hun;rw [he];simpa [VR] using h1
     ·cases hs
    ·rename_i x' hop
     split at hn
     ·rename_i id off Mw
      simp only [b5,j9] at hn;obtain ⟨⟨hun,hmay⟩,hs⟩:=hn;split at hs
      ·rename_i cs hcs
       split at hs
       ·rename_i Qh
        have hO:=h.H id _ hcs;simp only [OR] at hO;obtain ⟨hN,c,e,f,g1,g2,g3,g4,g5⟩:=hO;obtain ⟨v,e1,e2⟩:=g5 off _ Qh;have he:=hpv.cell j ai x' id off t cs RT (by rw [hj];simp) hai hop Mw hcs (n9 Qh) hun rL CX;rw [R9 g1,e1] at he;rw [<- Option.some_inj.1 he];simpa [VR] using e2
       ·cases hs
      ·cases hs
     ·cases hn
    ·cases hn
   ·cases hn
  ·cases hn
 ·cases hn
theorem ye (h:RI X l S st a w G I N)(hpv:PV X j4 S st a w I)(hT:st.T.length=X.names.length)(hD:∀ j,D j=true->S j){k:Nat}(hk:¬ S k)(Z1:k<st.L.length)(entry:Nat){s5:Option Nat}(hid:Cm l st N s5){o:Oper}{sz bytes:Nat}{x y:r8}
  (hc:fD P (X.ck D) o (.append sz bytes true x y)=true) {E:Env} (hE:E.lim=l) {st' :E1} (he:J5 E j4 s5 k sz bytes true st x (F0 st.T st.L y)=some st') :
  (∃ v w' G',(execOp a.eval o).run P w= .ok (.value v) w' /\bX X l S entry st a w G I N st' k v w' G' I N) \/
  ∃ v w' G' I' N' ob av,(execOp a.eval o).run P w= .ok (.value v) w' /\st' =put (I4 st s5 ob) k av/\bX X l S entry st a w G I N st' k v w' G' I' N' /\(∀ i,N' i↔N i\/i=newId st s5):=by
 obtain ⟨x0,y0,t,t2,e,i,z,hop,Xm,Xn,ht2,hsz,hu,hi,hsi,Qe,hz,hzs,Xk⟩:=eW hc;have iY:(execOp a.eval o).run P w=((Builtin.append_ #[t,t2] o.type #[a.eval x0,a.eval y0]).run P w).andThen fun v w' => .ok (.value v) w' :=by
  obtain ⟨dst,bt,ty,pos,after,guard⟩:=o;simp only at hop;subst hop;simp [execOp,resolve,invoke,builtin]
 unfold J5 at he;rw [hE] at he;simp only [if_true] at he;split at he
 ·rename_i m cs hcs
  split at he
  ·rename_i ak
   obtain ⟨hnil,hroom,_⟩:=ak;have hx0:=Dd h hpv hT hD Xm hnil;obtain ⟨vn,hl,hf,My,hcl⟩:=sg (P:=P) h.H (h.S2 hD _ _ Xn) hsz hcs;have sR:vn.length=m * sz:=by rw [F1.length _ _ My,hcl]
   subst hsi Qe;split at he
   ·rename_i hm
    subst hm;cases he;have hrun:=ew (P:=P) (w:=w) (ty:=o.type) hu hi ht2 (base:=none) (sLen:=0) (sCap:=0) hl (hf w rfl) (l5 _);refine Or.inl ⟨.slice none 0 0,w,G,?_,bX.same h hk Z1 entry (by simp [VR])⟩;rw [iY,hx0,hrun];rfl
   ·rename_i hm
    cases he;have hlt:0<0+m:=by omega
    obtain ⟨gy,yS,hrun⟩:=gb (P:=P) (w:=w) (ty:=o.type) hu hi hz ht2 (base:=none) (sLen:=0) (sCap:=0) (old:= #[]) hl (hf w.drew rfl) (by simp [Builtin.firstCells]) hlt (by rw [Nat.zero_add];exact Bw hroom Xk) (by rw [Nat.zero_add];exact rR hroom (by omega));rw [Nat.zero_add] at yS hrun;have hnb:iI w (w.drew.alloc (.cells (#[]++vn.toArray++Builtin.zeroCells z.cells (gy - m)) e)) (.cells (#[]++vn.toArray++Builtin.zeroCells z.cells (gy - m)) e):=by
     have:=iI.alloc w.drew (.cells (#[]++vn.toArray++Builtin.zeroCells z.cells (gy - m)) e);exact ⟨this.os,this.tape,this.output,this.size,this.old,this.new⟩
    have hsize:(#[]++vn.toArray++Builtin.zeroCells z.cells (gy - m):Array Value).size=gy * i.size:=by
     simp only [Array.size_append,List.size_toArray,uC,hzs,sR,List.size_toArray,List.length_nil,Nat.zero_add];rw [<- Nat.add_mul];congr 1;omega
    refine Or.inr ⟨.slice (some (ad w.heap.size 0)) m gy,_,_,_,_,.cells cs,_,by rw [iY,hx0,hrun];rfl,rfl,bX.newObj h hk Z1 entry hid hnb (.cells cs) ?_ ?_,fun i=>Iff.rfl⟩
    ·simp only [OR]
     refine ⟨Or.inr trivial,_,e,(0,0),by rw [cA];exact hnb.new,by simp,qV _,?_,fun j b hj=> ?_⟩
     ·rw [hsize]
      simp only [cA,hcl,Nat.zero_add];exact Nat.mul_le_mul_right _ yS
     ·simp only [cA,Nat.zero_add]
      obtain ⟨u,r1,r2⟩:=F1.get _ _ My j b hj;have hjl:=n9 r1;refine ⟨u,?_,?_⟩
      ·rw [show (#[]++vn.toArray++Builtin.zeroCells z.cells (gy - m))[j]? =(vn++(Builtin.zeroCells z.cells (gy - m)).toList)[j]? from by rw [<- Array.getElem?_toList];simp,p4 hjl]
       exact r1
      ·exact (hnb.vr h.wf _ (fun j hj=>eg (by rintro rfl;exact hid.new hj)) (fun _ h=>Or.inl h) r2).place
    ·simp only [VR]
     refine ⟨Or.inr trivial,gy,by simp,yS,_,e,(0,0),by rw [cA];exact hnb.new,?_⟩;rw [hsize];simp
  ·cases he
 ·cases he
def uT (P:Program)(ck:Operand->r8->Bool)(o:Oper)(op:s9):Bool :=
 match o.op,op with
 | .call ⟨.builtin .clear,args,argTypes⟩,.clear sz zero y =>
  (match args.toList,argTypes.toList with
   |[x],[t]=>ck x y&&decide (0<sz)&&(match P.underlying t with
    |some (.slice e)=>(match P.info? e with
     |some i=>(match i.zero with|some z=>consts z.cells.toList zero&&z.cells.size==sz&&zero.all b6.one|none=>false)
     |none=>false)
    |_=>false)
   |_,_=>false)
 |_,_=>false
theorem CM {α:Type}(zero:List α):∀ (n i:Nat),((c9 n zero).flatten)[i]? =if i<n * zero.length then zero[i % zero.length]? else none
 |0,i=>by simp
 |n+1,i=>by
  rw [List.replicate_succ,List.flatten_cons]
  by_cases h:i<zero.length
  ·rw [p4 h,if_pos (by rw [Nat.succ_mul];omega),Nat.mod_eq_of_lt h]
  ·rw [p9 (by omega),CM zero n (i - zero.length)]
   by_cases h2:i - zero.length<n * zero.length
   ·rw [if_pos h2,if_pos (by rw [Nat.succ_mul];omega),Nat.mod_eq_sub_mod (a:=i) (b:=zero.length) (by omega)]
   ·rw [if_neg h2,if_neg (by rw [Nat.succ_mul];omega)]
theorem Cr {zero:List b6}(h:y9 zero=0):∀ n:Nat,y9 (c9 n zero).flatten=0
 |0=>by simp [y9]
 |n+1=>by rw [List.replicate_succ,List.flatten_cons,bY,h,Cr h n];rfl
theorem Km (h:RI X l S st a w G I N)(hD:∀ j,D j=true->S j){k:Nat}(hk:¬ S k)(Z1:k<st.L.length)(entry:Nat){o:Oper}{sz:Nat}{zero:List b6}{y:r8}
  (hc:uT P (X.ck D) o (.clear sz zero y)=true) {E:Env} (hE:E.lim=l) {st' :E1} (he:V9 E k sz zero st (F0 st.T st.L y)=some st') :
  ∃ w',(execOp a.eval o).run P w= .ok (.value (.tuple #[])) w' /\bX X l S entry st a w G I N st' k (.tuple #[]) w' G I N:=by
 unfold uT at hc;split at hc
 ·rename_i args argTypes sz' zero' y' hop heq
  cases heq;split at hc
  ·rename_i x t ha ht
   have e1:args= #[x]:=by apply Array.toList_inj.1;simpa using ha
   have e2:argTypes= #[t]:=by apply Array.toList_inj.1;simpa using ht
   subst e1 e2;simp only [b5,decide_eq_true_eq] at hc;obtain ⟨⟨hx,hsz⟩,hc⟩:=hc;split at hc
   ·rename_i e hu
    split at hc
    ·rename_i i hi
     split at hc
     ·rename_i z hz
      simp only [b5,beq_iff_eq] at hc;obtain ⟨⟨hcs,hzs⟩,hone⟩:=hc;have iY:(execOp a.eval o).run P w=((Builtin.clear_ #[t] o.type #[a.eval x]).run P w).andThen fun v w' => .ok (.value v) w' :=by
       obtain ⟨dst,bt,ty,pos,after,guard⟩:=o;simp only at hop;subst hop;simp [execOp,resolve,invoke,builtin]
      have hv:=h.S2 hD _ _ hx;unfold V9 at he;split at he
      ·rename_i id z' lo len hy
       rw [hy] at hv;simp only [VR] at hv;obtain ⟨hN,cap,hx0,hcap,_⟩:=hv;split at he
       ·rename_i ak
        obtain ⟨rfl,hzl,hzb,hmay⟩:=ak;split at he
        ·rename_i H' hw
         cases he;obtain ⟨l0,c,e',f,g1,g2,g3,g4,g5,g6,g7,g8,g9⟩:=h.H.wr hw;have hvz:=cI (G:=G) (I:=I) (N:=N) (w:=w) _ _ hcs
         by_cases hlen:len=0
         ·subst hlen
          have hH' :H' =st.H:=by
           rw [g2];simp only [List.replicate_zero,List.flatten_nil,splice,List.length_nil,Nat.add_zero,List.append_nil,List.take_append_drop];apply List.ext_getElem?;intro j
           by_cases hj:id=j
           ·subst hj;rw [C9 (n9 g1),g1]
           ·rw [q9 hj]
          have hM:=bX.write (D1:=N) h hk Z1 entry (w' :=w) (G:=G) (id:=id) (b:=(I id).1) ⟨g6,rfl,rfl,rfl,rfl,fun _ _=>rfl,fun c _ _ h=>⟨c,h,rfl⟩⟩ g1 (h.H id _ g1) (by rw [<- hE];exact hmay) (Or.inl (by omega)) (fun _=>Iff.rfl) (v:= .tuple []) (x:= .tuple #[]) (by simp only [VR];exact ⟨#[],rfl,by simp [F1]⟩) (.obj id::st.n5) (by simp [Touch.J1]);have kX:st.H.set id (.cells l0)=st.H:=by
           apply List.ext_getElem?;intro j
           by_cases hj:id=j
           ·subst hj;rw [C9 (n9 g1),g1]
           ·rw [q9 hj]
          rw [kX] at hM;refine ⟨w,?_,by rw [hH'];exact hM⟩;rw [iY,hx0];simp [Builtin.clear_,run_underlying hu]
         ·have hzc:(Builtin.zeroCells z.cells len).toList.length=len * z' :=by simp [uC,hzs]
          have hfl:((c9 len zero).flatten).length=len * z' :=by simp [hzl]
          have CQ:∀ (j:Nat) b,((c9 len zero).flatten)[j]? =some b->∃ u,(Builtin.zeroCells z.cells len).toList[j]? =some u/\VR G I N w .none b u:=by
           intro j b hj;rw [CM] at hj;split at hj
           ·rename_i hjl
            rw [hzl] at hj hjl;obtain ⟨u,r1,r2⟩:=F1.get _ _ hvz (j % z') b hj;refine ⟨u,?_,r2⟩;have hzj:z.cells[j % z']? =some u:=by simpa using r1
            have aq5 :z.cells[j % z.cells.size]! =u:=by
             rw [hzs,getElem!_def,hzj]
            have hjr:(Array.range (len * z.cells.size))[j]? =some j:=by
             rw [hzs];simp [hjl]
            rw [Array.getElem?_toList];unfold Builtin.zeroCells;rw [Array.getElem?_map,hjr];simp only [E6,aq5]
           ·cases hj
          obtain ⟨hO,hW⟩:=yB g4 g5 g6 g7 g8 g9 g3 (vs:=(Builtin.zeroCells z.cells len).toList) (by rw [hzc,hfl]) (fun j b hj=>by
           obtain ⟨u,r1,r2⟩:=CQ j b hj;exact ⟨u,r1,r2.place⟩)
          have Ms:GI (Builtin.zeroCells z.cells len).toList:=by
           intro u hu';obtain ⟨j,hj,rfl⟩:=List.getElem_of_mem hu';have hjl:j<((c9 len zero).flatten).length:=by rw [hfl,<- hzc];exact hj
           obtain ⟨u',r1,r2⟩:=CQ j _ (o7 hjl);rw [o7 hj] at r1;cases r1;have hmem:((c9 len zero).flatten)[j] ∈ zero:=by
            have:=List.getElem_mem hjl;simp only [List.mem_flatten,List.mem_replicate] at this;obtain ⟨q,hq,Se⟩:=this;rw [hq.2] at Se;exact Se
           exact (jf (List.all_eq_true.1 hone _ hmem) r2).1
          have hrun:=run_storeCells_at (P:=P) (I id).1 ((I id).2+lo) e' f (Builtin.zeroCells z.cells len).toList 0 c w g5 g7 (by rw [hzc,Nat.add_zero];omega) Ms;simp only [Nat.add_zero] at hrun;have kT:(u5.cells (splice l0 lo (c9 len zero).flatten)).M3<=max (u5.cells l0).M3 (id+1)\/(l.base<=id/\l.strict<=id):=by
           left;have:=sC l0 lo (c9 len zero).flatten;have hz0:=Cr hzb len;simp only [u5.M3];omega
          have hM:=bX.write (D1:=N) h hk Z1 entry hW g1 hO (by rw [<- hE];exact hmay) kT (fun _=>Iff.rfl) (v:= .tuple []) (x:= .tuple #[]) (by simp only [VR];exact ⟨#[],rfl,by simp [F1]⟩) (.obj id::st.n5) (by simp [Touch.J1]);refine ⟨_,?_,by rw [g2];exact hM⟩;rw [iY,hx0];have hzv:(zeroValue e).run P w= .ok z w:=by simp [zeroValue,typeInfo,hi,hz]
          obtain ⟨n',rfl⟩:∃ n',len=n' +1:=⟨len - 1,by omega⟩;simp [Builtin.clear_,run_underlying hu,hzv,hrun]
        ·cases he
       ·cases he
      ·rename_i cells hy
       cases he;rw [hy] at hv;simp only [VR,DR] at hv;refine ⟨w,?_,bX.same h hk Z1 entry (by simp only [VR];exact ⟨#[],rfl,by simp [F1]⟩)⟩;rw [iY]
       rcases hv with ⟨hv|⟨a0,hv⟩,_⟩|⟨b,o',cap,hv,_⟩
       ·rw [hv];simp [Builtin.clear_,run_underlying hu]
       ·rw [hv];simp [Builtin.clear_,run_underlying hu]
       ·rw [hv];simp [Builtin.clear_,run_underlying hu]
      ·cases he
     ·cases hc
    ·cases hc
   ·cases hc
  ·cases hc
 ·cases hc
end
def hold (G:Gh)(n:Nat):Gh:=fun b =>
 match G b with
 | .grow m (.cell id off)=>if id<n then .grow m (.cell id off) else .held m
 | .grow m _=> .held m
 | .obj id=>if id<n then .obj id else .held 0
 |x=>x
def bW (G G1:Gh)(n:Nat):Gh:=fun b=>if hold G n b=G b then G1 b else G b
section
variable {G G1:Gh} {w w1:World} {n:Nat}
theorem uG (b o:Nat):iH (hold G n) b o↔iH G b o:=by
 unfold iH hold;cases h:G b with
 |grow m pl =>
  cases pl with
  |cell id off=>by_cases hid:id<n<;>simp [hid]
  |_=>simp
 |obj id=>by_cases hid:id<n<;>simp [hid]
 |_=>simp
theorem pK:Ext G w (hold G n) w where
 os:=rfl
 tape:=rfl
 output:=rfl
 size:=l5 _
 jz b o h:=⟨(uG b o).2 h,rfl⟩
 still b h:=⟨by rcases h with h|⟨m,h⟩<;>simp [hold,h],rfl⟩
 shape _ c _ _ h:=⟨c,h,rfl⟩
theorem HS (h:WF G w):WF (hold G n) w:=fun b hb=>by simp [hold,h b hb]
theorem kW {b id:Nat}(hid:id<n)(h:G b= .obj id):hold G n b= .obj id:=by simp [hold,h,hid]
theorem iZ {id off:Nat}(hid:id<n):ay (.cell id off) G w (hold G n) w:=fun b m hb=>⟨by simp [hold,hb,hid],rfl⟩
theorem CY {b id:Nat}(h:hold G n b= .obj id):id<n:=by
 unfold hold at h;cases hg:G b with
 |grow m pl =>
  rw [hg] at h;cases pl with
  |cell i o=>simp only at h;split at h<;>cases h
  |_=>cases h
 |obj i =>
  rw [hg] at h;simp only at h;split at h
  ·cases h;assumption
  ·cases h
 |_=>rw [hg] at h;cases h
theorem hidden {b:Nat}(h:hold G n b≠G b):∃ m,hold G n b= .held m:=by
 unfold hold at h ⊢;cases hg:G b with
 |grow m pl =>
  simp only [hg] at h ⊢;cases pl<;>simp at h ⊢;rename_i id off;rw [if_neg (by omega)];exact ⟨m,rfl⟩
 |obj id =>
  simp only [hg] at h ⊢;simp at h;rw [if_neg (by omega)];exact ⟨0,rfl⟩
 |_=>simp [hg] at h
theorem eO {b:Nat}(he:Ext (hold G n) w G1 w1)(h:hold G n b≠G b):bW G G1 n b=G b/\w1.heap[b]? =w.heap[b]? /\G1 b=hold G n b:=by
 obtain ⟨m,hm⟩:=hidden h;obtain ⟨h1,h2⟩:=he.still b (Or.inr ⟨m,hm⟩);exact ⟨by simp [bW,h],h2,h1⟩
theorem eP {b:Nat}(h:hold G n b=G b):bW G G1 n b=G1 b:=by simp [bW,h]
theorem xq (he:Ext (hold G n) w G1 w1):Ext G w (bW G G1 n) w1 where
 os:=he.os
 tape:=he.tape
 output:=he.output
 size:=he.size
 jz b o h:=by
  obtain ⟨h1,h2⟩:=he.jz b o ((uG b o).2 h);refine ⟨?_,h2⟩
  by_cases hh:hold G n b=G b
  ·unfold iH at h1 ⊢;rw [eP hh];exact h1
  ·unfold iH at h ⊢;rw [(eO he hh).1];exact h
 still b h:=by
  have hh:hold G n b=G b:=by rcases h with h|⟨m,h⟩<;>simp [hold,h]
  obtain ⟨h1,h2⟩:=he.still b (by rw [hh];exact h);exact ⟨by rw [eP hh,h1,hh],h2⟩
 shape:=he.shape
theorem ke (he:Ext (hold G n) w G1 w1):Sub G1 w1 (bW G G1 n) w1 where
 jz b o h:=by
  refine ⟨?_,rfl⟩
  by_cases hh:hold G n b=G b
  ·unfold iH at h ⊢;rw [eP hh];exact h
  ·obtain ⟨h1,h2,h3⟩:=eO he hh
   have:iH (hold G n) b o:=by unfold iH at h ⊢;rw [<- h3];exact h
   have:=(uG b o).1 this;unfold iH at this ⊢;rw [h1];exact this
 shape _ c _ _ h:=⟨c,h,rfl⟩
theorem Z0 (he:Ext (hold G n) w G1 w1){b:Nat}(h:∀ m,G1 b≠ .held m):bW G G1 n b=G1 b:=by
 by_cases hh:hold G n b=G b
 ·exact eP hh
 ·obtain ⟨_,_,h3⟩:=eO he hh
  obtain ⟨m,hm⟩:=hidden hh;exact absurd (h3.trans hm) (h m)
theorem gU (he:Ext (hold G n) w G1 w1)(q:Place):ay q G1 w1 (bW G G1 n) w1 :=
 fun b m hb=>⟨by rw [Z0 he (by intro m';rw [hb];simp)];exact hb,rfl⟩
theorem aF (he:Ext (hold G n) w G1 w1){q:Place}(hq:∀ id off,q= .cell id off->n<=id):ay q G w (bW G G1 n) w1:=by
 intro b m hb;have hh:hold G n b≠G b:=by
  unfold hold;rw [hb];cases q with
  |cell id off=>have:=hq id off rfl;simp;omega
  |_=>simp
 obtain ⟨h1,h2,_⟩:=eO he hh;exact ⟨h1.trans hb,h2⟩
theorem oG (he:Ext (hold G n) w G1 w1){id:Nat}(hid:n<=id):∀ b,G b= .obj id->bW G G1 n b= .obj id/\w1.heap[b]? =w.heap[b]? :=by
 intro b hb;have hh:hold G n b≠G b:=by unfold hold;rw [hb];simp;omega
 obtain ⟨h1,h2,_⟩:=eO he hh;exact ⟨h1.trans hb,h2⟩
theorem zI (he:Ext (hold G n) w G1 w1)(hwf:WF G w)(h1:WF G1 w1):WF (bW G G1 n) w1:=by
 intro b hb;have hg:G b= .free:=hwf b (Nat.le_trans he.size hb);have hh:hold G n b=G b:=by simp [hold,hg]
 rw [eP hh];exact h1 b hb
end
structure FF (l:F9)(H:o6)(w:World)(G:Gh)(I:Q9)(N:Nat->Prop)(args:List b6)(L0:Array Value):Prop where
 args:F1 G I N w args L0.toList
 hr:HR G I N w H
 wf:WF G w
 bO:∀ id,N id->id<H.length
 T9:Ka l H
 base:l.base<=H.length
 strict:l.strict<=l.base
 jb:∀ b id:Nat,G b= .obj id->id<H.length
structure nu (l:F9)(H:o6)(w:World)(G:Gh)(I:Q9)(N:Nat->Prop)(v:b6)(H1:o6)(x:Value)(w' :World)(G' :Gh)(I' :Q9)(N' :Nat->Prop):Prop where
 val:VR G' I' N' w' .ret v x
 hr:HR G' I' N' w' H1
 wf:WF G' w'
 ext:Ext G w G' w'
 dZ:iN l G w G' w'
 inj:∀ id,id<H.length->N id->I' id=I id
 mono:∀ id,N id->N' id
 old:∀ id,id<H.length->N' id->N id
 bO:∀ id,N' id->id<H1.length
 hle:∀ (id:Nat) (o' :u5),id<l.base->H1[id]? =some o' ->o'.M3<=id+1\/∃ o:u5,H[id]? =some o/\o'.M3<=o.M3
 T9:Ka l H1
def kK (P:Program)(cf:oL)(prom:FuncId->Bool):Prop :=
 ∀ f args H l v H1,cf f args H l=some (v,H1)->∀ w G I N L0,FF l H w G I N args L0->(prom f=false->l.base=H.length) ->
  Calls P f L0 w fun e w' =>∃ x G' I' N',e= .returned x/\nu l H w G I N v H1 x w' G' I' N'
def T3 (P:Program)(f:FuncId):Bool :=
 match P.funcs[f]? with
 | some fn => fn.name != "runtime.NumGoroutine" && fn.body.isSome
 |none=>false
theorem qk {P:Program}{w:World}{f:FuncId}(h:T3 P f=true)(args:Array Value):(callFunc f args).run P w= .ok (.enter f args) w:=by
 unfold T3 at h;split at h
 ·rename_i fn hfn
  simp only [b5,bne_iff_ne] at h;obtain ⟨c,hc⟩:=Option.isSome_iff_exists.1 h.2;simp [callFunc,hfn,h.1,hc]
 ·cases h
theorem Cq:∀ (l:List u5) (i:Nat) (o:u5),l[i]? =some o->o.M3<=W8 l
 |[],_,_,h=>by simp at h
 |v::vs,0,o,h=>by simp at h;subst h;simp only [W8];omega
 |v::vs,i+1,o,h=>by have:=Cq vs i o (by simpa using h);simp only [W8];omega
theorem pn:∀ (l:List u5) (k i:Nat) (o:u5),O1 l k=true->l[i]? =some o->o.M3<=k+i+1
 |[],_,_,_,_,h=>by simp at h
 |v::vs,k,0,o,hd,h=>by
  simp only [O1,b5,decide_eq_true_eq] at hd;simp at h;subst h;omega
 |v::vs,k,i+1,o,hd,h=>by
  simp only [O1,b5,decide_eq_true_eq] at hd;have:=pn vs (k+1) i o hd.2 (by simpa using h);omega
theorem nN {H:o6}{n s i:Nat}{o:u5}(hi:i<n)(hs:s<=i)(h:H[i]? =some o):((H.take n).drop s)[i - s]? =some o:=by
 rw [List.getElem?_drop,show s+(i - s)=i from by omega,List.getElem?_take_of_lt hi];exact h
theorem rY {l:F9}{H:o6}{n:Nat}(hd:Ka l H)(hc:W8 ((H.take n).drop l.strict)<=n){id:Nat}{o:u5}(hid:id<n)(h:H[id]? =some o):o.M3<=n:=by
 by_cases hs:id<l.strict
 ·have:=(hd id o h).1 hs;omega
 ·have:=Cq _ _ _ (nN (s:=l.strict) hid (by omega) h);omega
theorem Ef (H:o6)(s n:Nat):B5 H s n<=n:=by
 unfold B5;split
 ·omega
 ·split<;>omega
theorem BD {l:F9}{H:o6}{n:Nat}(hd:Ka l H){id:Nat}{o:u5}(hid:id<B5 H l.strict n)(h:H[id]? =some o):o.M3<=id+1:=by
 unfold B5 at hid;split at hid
 ·exact (hd id o h).1 (by omega)
 ·split at hid
  ·rename_i hdf
   by_cases hs:id<l.strict
   ·exact (hd id o h).1 hs
   ·have:=pn _ _ _ _ hdf (nN (s:=l.strict) hid (by omega) h);omega
  ·exact (hd id o h).1 hid
theorem VR.Co {G:Gh}{I:Q9}{N:Nat->Prop}{w:World}{pl tX :Place}{a:b6}{x:Value}(ha:∀ z n c,a≠ .own z n c)(h:VR G I N w pl a x):VR G I N w tX a x:=by
 cases a with
 |own z n c=>exact absurd rfl (ha z n c)
 |any=>simp only [VR]
 |_=>simpa only [VR] using h
structure PE (pl:Place)(l:F9)(H:o6)(w:World)(G:Gh)(I:Q9)(N:Nat->Prop)(v:b6)(H1:o6)(x:Value)(w' :World)(G' :Gh)(I' :Q9)(N' :Nat->Prop):Prop where
 val:VR G' I' N' w' pl v x
 hr:HR G' I' N' w' H1
 wf:WF G' w'
 ext:Ext G w G' w'
 dZ:iN l G w G' w'
theorem nu.at {l:F9}{H:o6}{w:World}{G:Gh}{I:Q9}{N:Nat->Prop}{v:b6}{H1:o6}{x:Value}{w' :World}{G' :Gh}{I' :Q9}{N' :Nat->Prop}
  (h:nu l H w G I N v H1 x w' G' I' N') {pl:Place} (hp:pl≠ .none):∃ G2,PE pl l H w G I N v H1 x w' G2 I' N' :=by
 by_cases ho:∃ z n c,v= .own z n c
 ·obtain ⟨z,n,c,rfl⟩:=ho
  obtain ⟨G2,hm,hv⟩:=fX hp h.val;refine ⟨G2,hv,h.hr.Dp hm (by simp),hm.wf h.wf,h.ext.trans hm.ext,h.dZ.trans fun id _=>⟨fun b hb=>⟨hm.obj b id hb,rfl⟩,fun off=>hm.keeps _ (by simp)⟩⟩
 ·exact ⟨G',h.val.Co (fun z n c e=>ho ⟨z,n,c,e⟩),h.hr,h.wf,h.ext,h.dZ⟩
section
variable {P:Program} {X:Cx} {l:F9} {S:Nat->Prop} {st:E1} {a:Act} {w w1:World} {G G1:Gh} {I I1:Q9} {N N1:Nat->Prop}
structure FG (X:Cx)(l:F9)(S:Nat->Prop)(entry:Nat)(st:E1)(a:Act)(w:World)(G:Gh)(I:Q9)(N:Nat->Prop)
  (st' :E1) (k:Nat) (x' :Value) (w' :World) (G' :Gh) (I' :Q9) (N' :Nat->Prop):Prop where
 mid:bX X l S entry st a w G I N st' k x' w' G' I' N'
 bO:∀ id,N' id->id<st'.H.length
 old:∀ id,id<st.H.length->N' id->N id
theorem nV (h:RI X l S st a w G I N)(aN:∀ id,N id->id<st.H.length){k:Nat}(hk:¬ S k)(Z1:k<st.L.length)(entry:Nat){n m:Nat}(hn:n<=st.H.length)(hm:m<=n)
  {l' :F9} (hl' :l'.base=n) (hmay:∀ id,id<n->l.may id=false->l'.may id=false) (RY :∀ id,m<=id->id<n->l'.may id=false)
  {v:b6} {H1:o6} {x:Value} (hlen:H1.length=n) (hc:nu l' (st.H.take n) w (hold G n) I (fun i=>N i/\i<n) v H1 x w1 G1 I1 N1) {n5:List Touch} (Bc:∀ id,n5.any (Touch.J1 id)=false->m<=id) :
  ∃ G' I',FG X l S entry st a w G I N (put { st with H:=H1.take m++st.H.drop m,n5 } k v) k x w1 G' I' N:=by
 have Qp:(st.H.take n).length=n:=by simp;omega
 have hN1:∀ id,N1 id->N id/\id<n:=fun id hid=>by
  have:=hc.bO id hid;exact hc.old id (by rw [Qp];omega) hid
 have hI1:∀ id,N id->id<n->I1 id=I id:=fun id hid hlt=>hc.inj id (by rw [Qp];exact hlt) ⟨hid,hlt⟩
 obtain ⟨G2,hp⟩:=hc.at (pl:= .loc k) (by simp);have hx:=xq hp.ext;have HZ:∀ id,m<=id->∀ b,G b= .obj id->bW G G2 n b= .obj id/\w1.heap[b]? =w.heap[b]? :=by
  intro id hid b hb
  by_cases hlt:id<n
  ·obtain ⟨g1,g2⟩:=(hp.dZ id (RY id hid hlt)).1 b (kW hlt hb)
   exact ⟨by rw [Z0 hp.ext (by intro m';rw [g1];simp)];exact g1,g2⟩
  ·exact oG hp.ext (by omega) b hb
 have MD:∀ id,m<=id->∀ off,ay (.cell id off) G w (bW G G2 n) w1:=by
  intro id hid off
  by_cases hlt:id<n
  ·intro b q hb
   obtain ⟨g1,_⟩:=iZ (G:=G) (w:=w) (off:=off) hlt b q hb;obtain ⟨g3,g4⟩:=(hp.dZ id (RY id hid hlt)).2 off b q g1;exact ⟨by rw [Z0 hp.ext (by intro m';rw [g3];simp)];exact g3,g4⟩
  ·exact aF hp.ext (by intro id' off' e;cases e;omega)
 have Xc:∀ id o',(H1.take m++st.H.drop m)[id]? =some o' ->(id<m/\H1[id]? =some o')\/(m<=id/\st.H[id]? =some o'):=by
  intro id o' ho'
  by_cases hlt:id<m
  ·rw [p4 (by simp;omega),List.getElem?_take_of_lt hlt] at ho'
   exact Or.inl ⟨hlt,ho'⟩
  ·rw [p9 (by simp;omega),List.getElem?_drop] at ho'
   rw [show m+(id - (H1.take m).length)=id from by simp;omega] at ho';exact Or.inr ⟨by omega,ho'⟩
 have hle:∀ id o',(H1.take m++st.H.drop m)[id]? =some o' ->o'.M3<=id+1\/∃ o:u5,st.H[id]? =some o/\o'.M3<=o.M3:=by
  intro id o' ho'
  rcases Xc id o' ho' with ⟨hlt,ho⟩|⟨_,ho⟩
  ·rcases hc.hle id o' (by omega) ho with hb|⟨o,h1,h2⟩
   ·exact Or.inl hb
   ·rw [List.getElem?_take_of_lt (by omega)] at h1
    exact Or.inr ⟨o,h1,h2⟩
  ·exact Or.inr ⟨o',ho,l5 _⟩
 have XD:(H1.take m++st.H.drop m).length=st.H.length:=by simp;omega
 have hII:∀ id,N id->I1 id=I id\/n<=id:=fun id hid=>by
  by_cases hlt:id<n
  ·exact Or.inl (hI1 id hid hlt)
  ·exact Or.inr (by omega)
 refine ⟨bW G G2 n,fun id=>if id<n then I1 id else I id,?_,?_,?_⟩
 ·have Qc:∀ id,N id->(if id<n then I1 id else I id)=I id:=by
   intro id hid;split
   ·rename_i hlt;exact hI1 id hid hlt
   ·rfl
  have hIn:∀ id,N1 id->(if id<n then I1 id else I id)=I1 id:=by
   intro id hid;rw [if_pos (hN1 id hid).2]
  have hNn:∀ id,N1 id->N id:=fun id hid=>(hN1 id hid).1
  refine ⟨⟨?_,?_,?_,zI hp.ext h.wf hp.wf,?_⟩,?_,hx,?_,?_,fun id _ hN=>Qc id hN,fun _ h=>h,?_,?_⟩
  ·intro s t ht
   exact VR.mono hx Qc (fun _ h=>h) _ _ _ (Or.inr (aF hp.ext (by simp))) (h.T s t ht)
  ·intro j hj d hd CX
   have:k≠j:=by rintro rfl;exact hk hj
   simp only [u7.put];rw [F3 _ _ _ _ _ this];exact VR.mono hx Qc (fun _ h=>h) _ _ _ (Or.inr (aF hp.ext (by simp))) (h.L j hj d hd CX)
  ·intro id o' ho'
   rcases Xc id o' ho' with ⟨hlt,ho⟩|⟨hge,ho⟩
   ·refine OR.mono (ke hp.ext) hIn hNn id o' (fun hb=> ?_) (fun off=>gU hp.ext _) (hp.hr id o' ho)
    exact ⟨by rw [Z0 hp.ext (by intro m';rw [hb];simp)];exact hb,rfl⟩
   ·exact OR.mono hx Qc (fun _ h=>h) id o' (fun hb=>HZ id hge _ hb) (MD id hge) (h.H id o' ho)
  ·intro id o' ho'
   rcases hle id o' ho' with hb|⟨o,h1,h2⟩
   ·exact ⟨fun _=>hb,fun _=>by omega⟩
   ·obtain ⟨d1,d2⟩:=h.T9 id o h1
    exact ⟨fun hh=>by have:=d1 hh;omega,fun hh=>by have:=d2 hh;omega⟩
  ·simp only [u7.put]
   rw [K6 _ _ _ _ Z1];exact VR.mono (ke hp.ext) hIn hNn _ _ _ (Or.inr (gU hp.ext _)) hp.val
  ·intro id hid
   by_cases hlt:id<n
   ·obtain ⟨p1,p2⟩:=hp.dZ id (hmay id hlt hid)
    refine ⟨fun b hb=> ?_,fun off b q hb=> ?_⟩
    ·obtain ⟨g1,g2⟩:=p1 b (kW hlt hb)
     exact ⟨by rw [Z0 hp.ext (by intro m';rw [g1];simp)];exact g1,g2⟩
    ·obtain ⟨g1,_⟩:=iZ (G:=G) (w:=w) (off:=off) hlt b q hb
     obtain ⟨g3,g4⟩:=p2 off b q g1;exact ⟨by rw [Z0 hp.ext (by intro m';rw [g3];simp)];exact g3,g4⟩
   ·exact ⟨oG hp.ext (by omega),fun off=>aF hp.ext (by intro id' off' e;cases e;omega)⟩
  ·intro id hN ht
   exact ⟨Qc id hN,HZ id (Bc id ht)⟩
  ·simp only [u7.put];omega
  ·intro id o' _ ho'
   exact hle id o' ho'
 ·intro id hid
  simp only [u7.put];rw [XD];exact aN id hid
 ·intro id _ hid
  exact hid
theorem FV (h:RI X l S st a w G I N)(aN:∀ id,N id->id<st.H.length){k:Nat}(hk:¬ S k)(Z1:k<st.L.length)(entry:Nat)
  {v:b6} {H1:o6} {x:Value} (hlen:st.H.length<=H1.length) (hc:nu l st.H w (hold G st.H.length) I N v H1 x w1 G1 I1 N1) {n5:List Touch} (Bc:∀ id,n5.any (Touch.J1 id)=false->st.H.length<=id) :
  ∃ G',FG X l S entry st a w G I N (put { st with H:=H1,n5 } k v) k x w1 G' I1 N1:=by
 obtain ⟨G2,hp⟩:=hc.at (pl:= .loc k) (by simp);have hx:=xq hp.ext;have Qc:∀ id,N id->I1 id=I id:=fun id hid=>hc.inj id (aN id hid) hid
 refine ⟨bW G G2 st.H.length,?_,hc.bO,hc.old⟩;refine ⟨⟨?_,?_,?_,zI hp.ext h.wf hp.wf,hc.T9⟩,?_,hx,?_,?_,fun id _ hN=>Qc id hN,hc.mono,hlen,fun id o' hb ho' =>hc.hle id o' hb ho'⟩
 ·intro s t ht
  exact VR.mono hx Qc hc.mono _ _ _ (Or.inr (aF hp.ext (by simp))) (h.T s t ht)
 ·intro j hj d hd CX
  have:k≠j:=by rintro rfl;exact hk hj
  simp only [u7.put];rw [F3 _ _ _ _ _ this];exact VR.mono hx Qc hc.mono _ _ _ (Or.inr (aF hp.ext (by simp))) (h.L j hj d hd CX)
 ·intro id o' ho'
  refine OR.mono (ke hp.ext) (fun _ _=>rfl) (fun _ h=>h) id o' (fun hb=> ?_) (fun off=>gU hp.ext _) (hp.hr id o' ho');exact ⟨by rw [Z0 hp.ext (by intro m';rw [hb];simp)];exact hb,rfl⟩
 ·simp only [u7.put]
  rw [K6 _ _ _ _ Z1];exact VR.mono (ke hp.ext) (fun _ _=>rfl) (fun _ h=>h) _ _ _ (Or.inr (gU hp.ext _)) hp.val
 ·intro id hid
  by_cases hlt:id<st.H.length
  ·obtain ⟨p1,p2⟩:=hp.dZ id hid
   refine ⟨fun b hb=> ?_,fun off b q hb=> ?_⟩
   ·obtain ⟨g1,g2⟩:=p1 b (kW hlt hb)
    exact ⟨by rw [Z0 hp.ext (by intro m';rw [g1];simp)];exact g1,g2⟩
   ·obtain ⟨g1,_⟩:=iZ (G:=G) (w:=w) (off:=off) hlt b q hb
    obtain ⟨g3,g4⟩:=p2 off b q g1;exact ⟨by rw [Z0 hp.ext (by intro m';rw [g3];simp)];exact g3,g4⟩
  ·exact ⟨oG hp.ext (by omega),fun off=>aF hp.ext (by intro id' off' e;cases e;omega)⟩
 ·intro id hN ht
  have:=aN id hN;have:=Bc id ht;omega
theorem vI {l:F9}{a b base strict id:Nat}(h:l.may id=false\/(a<=id/\id<b)):(l.jK a b base strict).may id=false:=by
 unfold F9.jK F9.may at *
 simp only [Bool.or_eq_false_iff,decide_eq_false_iff_not] at *
 split<;>simp only<;>omega
theorem gH (l:F9)(a b base strict:Nat):(l.jK a b base strict).base=base/\(l.jK a b base strict).strict=strict:=by
 unfold F9.jK;split<;>simp
theorem Kl {E:Env}(Ck:kK P E.cf E.prom)(hE:E.lim=l)(h:RI X l S st a w G I N)(aN:∀ id,N id->id<st.H.length)(hb:l.base<=st.H.length)(hs:l.strict<=l.base)
  {k:Nat} (hk:¬ S k) (Z1:k<st.L.length) (entry:Nat) {f:FuncId} {args:List b6} {L0:Array Value} (hargs:F1 G I N w args L0.toList) {st' :E1} (he:A6 E k f args st=some st') :
  Calls P f L0 w fun e w' =>∃ x G' I' N',e= .returned x/\FG X l S entry st a w G I N st' k x w' G' I' N' :=by
 subst hE;unfold A6 at he;split at he
 ·rename_i sQ
  split at he
  ·rename_i v H1 dx
   split at he
   ·rename_i hlen
    cases he;refine Calls.mono (Ck f args st.H E.lim v H1 dx w (hold G st.H.length) I N L0 ⟨?_,?_,HS h.wf,aN,h.T9,hb,hs,fun _ _=>CY⟩ (by rw [sQ];simp)) ?_
    ·exact F1.mono pK.sub (fun _ _=>rfl) (fun _ h=>h) _ _ hargs
    ·intro id o ho
     have hlt:=n9 ho;exact OR.mono pK.sub (fun _ _=>rfl) (fun _ h=>h) id o (fun hb=>⟨kW hlt hb,rfl⟩) (fun _=>iZ hlt) (h.H id o ho)
    ·rintro e w' ⟨x,G1,I1,N1,rfl,hc⟩
     obtain ⟨G',hd⟩:=FV h aN hk Z1 entry hlen hc (n5:= .below H1.length::st.n5) (by
      intro id ht;simp [Touch.J1] at ht;omega)
     exact ⟨x,G',I1,N1,rfl,hd⟩
   ·cases he
  ·cases he
 ·rename_i sQ
  have sQ:E.prom f=false:=by simpa using sQ
  simp only at he;generalize CX:G5 st.H E.lim.strict 8 (y9 args)=n at he;have hna:y9 args<=n:=by
   rw [<- CX];have:∀ (j m:Nat),m<=G5 st.H E.lim.strict j m:=by
    intro j
    induction j with
    |zero=>intro m;simp [G5]
    |succ j ih =>
     intro m;unfold G5;split
     ·omega
     ·simp only
      split
      ·omega
      ·exact Nat.le_trans (Nat.le_max_left _ _) (ih _)
   exact this 8 _
  split at he
  ·rename_i ak
   obtain ⟨hn,hbO⟩:=ak;have Qp:(st.H.take n).length=n:=by simp;omega
   have pre:∀ l' :F9,l'.base=n->l'.strict=B5 st.H E.lim.strict n->FF l' (st.H.take n) w (hold G n) I (fun i=>N i/\i<n) args L0:=by
    intro l' h1 h2;refine ⟨?_,?_,HS h.wf,fun id hid=>by rw [Qp];exact hid.2,?_,by rw [Qp,h1];exact l5 _,by rw [h1,h2];exact Ef _ _ _,fun b id hb=>by rw [Qp];exact CY hb⟩
    ·exact F1.mono pK.sub (fun _ _=>rfl) (fun _ h=>h) _ _ (F1.low n _ _ hna hargs)
    ·intro id o ho
     have hlt:id<n:=by have:=n9 ho;omega
     rw [List.getElem?_take_of_lt hlt] at ho;exact OR.mono pK.sub (fun _ _=>rfl) (fun _ h=>h) id o (fun hb=>⟨kW hlt hb,rfl⟩) (fun _=>iZ hlt) (OR.low hlt o (rY h.T9 hbO hlt ho) (h.H id o ho))
    ·intro id o ho
     have hlt:id<n:=by have:=n9 ho;omega
     rw [List.getElem?_take_of_lt hlt] at ho;rw [h1,h2];exact ⟨fun hh=>BD h.T9 hh ho,fun _=>rY h.T9 hbO hlt ho⟩
   split at he
   ·split at he
    ·rename_i v H1 dx
     split at he
     ·rename_i hlen
      cases he;refine Calls.mono (Ck f args _ _ v H1 dx w (hold G n) I _ L0 (pre _ rfl rfl) (fun _=>Qp.symm)) ?_;rintro e w' ⟨x,G1,I1,N1,rfl,hc⟩;obtain ⟨G',I',hd⟩:=nV (l' :={ E.lim with base:=n,strict:=B5 st.H E.lim.strict n }) h aN hk Z1 entry hn (l5 n) rfl (fun id _ hid=>hid) (fun id h1 h2=>by omega) hlen hc (n5:= .below n::st.n5) (by
       intro id ht;simp [Touch.J1] at ht;omega)
      rw [<- hlen,List.take_length,hlen] at hd;exact ⟨x,G',I',N,rfl,hd⟩
     ·cases he
    ·cases he
   ·split at he
    ·rename_i v H1 dx
     split at he
     ·rename_i hlen
      cases he;refine Calls.mono (Ck f args _ _ v H1 dx w (hold G n) I _ L0 (pre _ rfl rfl) (fun _=>Qp.symm)) ?_;rintro e w' ⟨x,G1,I1,N1,rfl,hc⟩;obtain ⟨G',I',hd⟩:=nV (l' :=⟨0,n,n,B5 st.H E.lim.strict n⟩) h aN hk Z1 entry hn (Nat.zero_le n) rfl (fun id h1 _=>by simp [F9.may];omega) (fun id _ h2=>by simp [F9.may];omega) hlen hc (n5:=st.n5) (by intros;omega);refine ⟨x,G',I',N,rfl,?_⟩;simpa using hd
     ·cases he
    ·cases he
   ·split at he
    ·rename_i v H1 dx
     split at he
     ·rename_i hlen
      cases he;refine Calls.mono (Ck f args _ _ v H1 dx w (hold G n) I _ L0 (pre _ (gH _ _ _ _ _).1 (gH _ _ _ _ _).2) (fun _=>by rw [(gH _ _ _ _ _).1,Qp])) ?_;rintro e w' ⟨x,G1,I1,N1,rfl,hc⟩;obtain ⟨G',I',hd⟩:=nV h aN hk Z1 entry hn hlen.2 (gH _ _ _ _ _).1 (fun id _ hid=>vI (Or.inl hid)) (fun id h1 h2=>vI (Or.inr ⟨h1,h2⟩)) hlen.1 hc (n5:= .below (args.headD .any).M3::st.n5) (by
       intro id ht;simp [Touch.J1] at ht;simpa using ht.1)
      exact ⟨x,G',I',N,rfl,hd⟩
     ·cases he
    ·cases he
  ·cases he
end
structure Tr (N:Nat->Prop)(k:Nat)(st st' :E1):Prop where
 n5:∀ p:Touch->Bool,st.n5.any p=true->st'.n5.any p=true
 L:∀ m id off:Nat,m≠k->st'.L[m]? =some (b6.ptr id off)->st.L[m]? =some (b6.ptr id off)
 T:∀ s id off:Nat,st'.T[s]? =some (b6.ptr id off)->st.T[s]? =some (b6.ptr id off)
 H:∀ (id:Nat) (l' :List b6),N id->st'.n5.any (Touch.J1 id)=false->st'.H[id]? =some (u5.cells l')->∃ l:List b6,st.H[id]? =some (u5.cells l)/\l.length=l'.length
 U0:st'.T.length=st.T.length
 fV:st'.L.length=st.L.length
 PD:∀ m:Nat,m≠k->st.L[m]? =some (b6.tuple [])->st'.L[m]? =some (b6.tuple [])
section
variable {N:Nat->Prop} {k:Nat} {st P3 st' :E1}
theorem Tr.refl (N:Nat->Prop)(k:Nat)(st:E1):Tr N k st st :=
 ⟨fun _ h=>h,fun _ _ _ _ h=>h,fun _ _ _ h=>h,fun _ l _ _ h=>⟨l,h,rfl⟩,rfl,rfl,fun _ _ h=>h⟩
theorem fW {t t' :List Touch}(h:∀ p:Touch->Bool,t.any p=true->t'.any p=true){p:Touch->Bool}(h' :t'.any p=false):t.any p=false:=by
 cases he:t.any p with
 |false=>rfl
 |true=>rw [h p he] at h';cases h'
theorem Tr.trans (a:Tr N k st P3)(b:Tr N k P3 st'):Tr N k st st' where
 n5 p h:=b.n5 p (a.n5 p h)
 L m id off hm h:=a.L m id off hm (b.L m id off hm h)
 T s id off h:=a.T s id off (b.T s id off h)
 H id l' hN ht h:=by
  obtain ⟨l1,h1,e1⟩:=b.H id l' hN ht h;obtain ⟨l,h2,e2⟩:=a.H id l1 hN (fW b.n5 ht) h1;exact ⟨l,h2,e2.trans e1⟩
 U0:=b.U0.trans a.U0
 fV:=b.fV.trans a.fV
 PD m hm h:=b.PD m hm (a.PD m hm h)
theorem Tr.put (v:b6):Tr N k st (put st k v) where
 n5 _ h:=h
 L m id off hm h:=by
  simp only [u7.put] at h;rw [q9 (fun e=>hm e.symm)] at h;exact h
 T _ _ _ h:=h
 H _ l _ _ h:=⟨l,h,rfl⟩
 U0:=rfl
 fV:=by simp [u7.put]
 PD m hm h:=by
  simp only [u7.put];rw [q9 (fun e=>hm e.symm)];exact h
theorem rW {l:List b6}{j m id off:Nat}{x:Data}(h:(l.set j (.d x))[m]? =some (.ptr id off)):l[m]? =some (.ptr id off):=by
 by_cases hj:j=m
 ·subst hj
  rcases p7 j l.length with hl|hl
  ·rw [C9 hl] at h;cases h
  ·rw [q6 (by simpa using hl)] at h;cases h
 ·rwa [q9 hj] at h
theorem tg {l:List b6}{j m:Nat}{z n:Nat}{c:List Data}{v:b6}(hj:l[j]? =some (.own z n c))(h:l[m]? =some (b6.tuple [])):(l.set j v)[m]? =some (b6.tuple []):=by
 have:j≠m:=by rintro rfl;rw [hj] at h;cases h
 rw [q9 this];exact h
theorem Tr.C6 (y:r8):Tr N k st (C6 st y).2:=by
 cases y with
 |loc j =>
  simp only [u7.C6];split
  ·rename_i hj
   exact ⟨fun _ h=>h,fun m id off _ h=>rW h,fun _ _ _ h=>h,fun _ l _ _ h=>⟨l,h,rfl⟩,rfl,by simp,fun _ _ h=>tg hj h⟩
  ·exact Tr.refl _ _ _
 |slot s=>exact Tr.refl _ _ _
 |const v=>exact Tr.refl _ _ _
theorem Tr.newObj {s5:Option Nat}(hi:∀ i,s5=some i->i<st.H.length)(hn:¬ N (newId st s5))(o:u5):Tr N k st (I4 st s5 o) where
 n5 p h:=by cases s5<;>exact h
 L m id off _ h:=by cases s5<;>exact h
 T s id off h:=by cases s5<;>exact h
 H id l' hN _ h:=by
  rcases gM hi o id _ h with ⟨rfl,_⟩|⟨_,h⟩
  ·exact absurd hN hn
  ·exact ⟨l',h,rfl⟩
 U0:=by cases s5<;>rfl
 fV:=by cases s5<;>rfl
 PD m _ h:=by cases s5<;>exact h
theorem Tr.heap {H' :o6}{n5:List Touch}(h1:∀ p:Touch->Bool,st.n5.any p=true->n5.any p=true)(h2:∀ id,N id->n5.any (Touch.J1 id)=false->H'[id]? =st.H[id]?):Tr N k st { st with H:=H',n5 } where
 n5:=h1
 L _ _ _ _ h:=h
 T _ _ _ h:=h
 H id l' hN ht h:=by
  simp only at h;rw [h2 id hN ht] at h;exact ⟨l',h,rfl⟩
 U0:=rfl
 fV:=rfl
 PD _ _ h:=h
theorem Tr.U2 {l:F9}{sz len:Nat}{cells:List Data}{op:s9}(h:U2 l st sz op=some (len,cells,st')):Tr N k st st' :=by
 unfold u7.U2 at h;split at h
 ·split at h
  ·cases h
  ·split at h
   ·split at h
    ·cases h
     exact ⟨fun p hp=>by simp only [List.any_cons,hp,Bool.or_true],fun _ _ _ _ h=>h,fun s id off h=>rW h,fun _ l _ _ h=>⟨l,h,rfl⟩,by simp,rfl,fun _ _ h=>h⟩
    ·cases h
   ·cases h
 ·split at h
  ·rename_i id off Mw
   split at h
   ·cases h
   ·split at h
    ·rename_i cs hcs
     split at h
     ·split at h
      ·cases h
       refine ⟨fun p hp=>by simp only [List.any_cons,hp,Bool.or_true],fun _ _ _ _ h=>h,fun _ _ _ h=>h,fun id' l' _ _ h=> ?_,rfl,rfl,fun _ _ h=>h⟩;simp only at h
       by_cases he:id=id'
       ·subst he
        rw [C9 (n9 hcs)] at h;cases h;exact ⟨cs,hcs,by simp⟩
       ·rw [q9 he] at h
        exact ⟨l',h,rfl⟩
      ·cases h
     ·cases h
    ·cases h
  ·cases h
 ·cases h
theorem Tr.O4 {l:F9}{j4:List n8}{sz len:Nat}{cells:List Data}{y:r8}(h:O4 l j4 st sz y=some (len,cells,st')):Tr N k st st' :=by
 unfold u7.O4 at h;split at h
 ·split at h
  ·cases h;exact Tr.refl _ _ _
  ·cases h
 ·cases h
 ·cases h
 ·split at h
  ·rename_i hj
   split at h
   ·cases h
    exact ⟨fun _ h=>h,fun m id off _ h=>rW h,fun _ _ _ h=>h,fun _ l _ _ h=>⟨l,h,rfl⟩,rfl,by simp,fun _ _ h=>tg hj h⟩
   ·cases h
  ·split at h
   ·exact Tr.U2 h
   ·cases h
  ·cases h
theorem ME {v:b6}{id i o:Nat}(h:v.kill id= .ptr i o):v= .ptr i o:=by
 cases v<;>simp only [b6.kill] at h<;>first|(cases h;done)|(split at h<;>first|(cases h;done)|exact h)|exact h
theorem yZ {l:List b6}{id m i o:Nat}(h:(H7 id l)[m]? =some (.ptr i o)):l[m]? =some (.ptr i o):=by
 rw [dX] at h;cases hl:l[m]? with
 |none=>rw [hl] at h;cases h
 |some v =>
  rw [hl] at h;simp only [E6,Option.some.injEq] at h;rw [ME h]
theorem Tr.V8 {E:Env}{sz bytes id lo len:Nat}{y:b6}(h:V8 E k sz bytes st id lo len y=some st'):Tr N k st st' :=by
 unfold u7.V8 at h;split at h
 ·split at h
  ·rename_i l0 m cs hl0 _
   split at h
   ·cases h
    refine Tr.trans ?_ (Tr.put _);refine ⟨fun p hp=>by simp only [List.any_cons,hp,Bool.or_true],fun m' i o _ h=>yZ h,fun s i o h=>yZ h,fun id' l' _ ht h=> ?_,by simp [L4],by simp [L4],fun m' _ h=>by simp only [dX,h,E6,b6.kill,H7]⟩;have hne:id' ≠id:=by rintro rfl;simp [Touch.J1] at ht
    have h' :(mT st.H E.lim.base id (.cells (H7 id l0++cs)))[id']? =some (.cells l'):=h;unfold mT at h';rw [q9 (fun e=>hne e.symm)] at h'
    by_cases hb:id' <E.lim.base
    ·by_cases hlt:id' <st.H.length
     ·rw [p4 (by simp;omega),List.getElem?_take_of_lt hb] at h'
      exact ⟨l',h',rfl⟩
     ·rw [q6 (by simp;omega)] at h';cases h'
    ·by_cases hlt:id' <st.H.length
     ·rw [p9 (by simp;omega),List.getElem?_map,List.getElem?_drop] at h'
      rw [show E.lim.base+(id' - (List.take E.lim.base st.H).length)=id' from by simp;omega] at h';cases ho:st.H[id']? with
      |none=>rw [ho] at h';cases h'
      |some o =>
       rw [ho] at h';cases o<;>simp [u5.kill] at h';rename_i l1;exact ⟨l1,rfl,by rw [<- h'];simp [L4]⟩
     ·rw [q6 (by simp;omega)] at h';cases h'
   ·cases h
  ·cases h
 ·cases h
theorem Tr.A6 {E:Env}{f:FuncId}{args:List b6}(aN:∀ id,N id->id<st.H.length)(h:A6 E k f args st=some st'):Tr N k st st' :=by
 unfold u7.A6 at h;split at h
 ·split at h
  ·split at h
   ·cases h
    refine Tr.trans ?_ (Tr.put _);refine Tr.heap (fun p hp=>by simp only [List.any_cons,hp,Bool.or_true]) fun id hN ht=> ?_
    have:=aN id hN;simp [Touch.J1] at ht;omega
   ·cases h
  ·cases h
 ·simp only at h
  generalize G5 st.H E.lim.strict 8 (y9 args)=n at h;generalize (args.headD .any).M3=m at h;split at h
  ·rename_i ak
   split at h
   ·split at h
    ·split at h
     ·rename_i hlen
      cases h;refine Tr.trans ?_ (Tr.put _);refine Tr.heap (fun p hp=>by simp only [List.any_cons,hp,Bool.or_true]) fun id hN ht=> ?_
      have:=aN id hN;simp [Touch.J1] at ht;rw [p9 (by omega),List.getElem?_drop,hlen]
      congr 1;omega
     ·cases h
    ·cases h
   ·split at h
    ·split at h
     ·cases h
      exact Tr.put _
     ·cases h
    ·cases h
   ·split at h
    ·split at h
     ·rename_i hlen
      cases h;refine Tr.trans ?_ (Tr.put _);refine Tr.heap (fun p hp=>by simp only [List.any_cons,hp,Bool.or_true]) fun id hN ht=> ?_
      have:=aN id hN;simp [Touch.J1] at ht;rw [p9 (by simp;omega),List.getElem?_drop]
      congr 1;simp;omega
     ·cases h
    ·cases h
  ·cases h
theorem qx {H H' :o6}{id off:Nat}{vs:List b6}(h:wr H id off vs=some H'){id' :Nat}(hne:id' ≠id):H'[id']? =H[id']? :=by
 unfold wr at h;split at h
 ·split at h
  ·cases h
   rw [q9 (fun e=>hne e.symm)]
  ·cases h
 ·cases h
theorem Tr.O8 {E:Env}{n:Nat}{a:b6}{x:r8}(h:O8 E k n st a x=some st'):Tr N k st st' :=by
 unfold u7.O8 at h;split at h
 ·split at h
  ·split at h
   ·split at h
    ·rename_i H' hw
     cases h;refine Tr.trans (Tr.trans (Tr.C6 x) ?_) (Tr.put _);refine Tr.heap (fun p hp=>by simp only [List.any_cons,hp,Bool.or_true]) fun id' hN ht=> ?_
     refine qx hw ?_;rintro rfl;simp [Touch.J1] at ht
    ·cases h
   ·cases h
  ·cases h
 ·cases h
theorem Tr.V9 {E:Env}{sz:Nat}{zero:List b6}{a:b6}(h:V9 E k sz zero st a=some st'):Tr N k st st' :=by
 unfold u7.V9 at h;split at h
 ·split at h
  ·split at h
   ·rename_i H' hw
    cases h;refine Tr.trans ?_ (Tr.put _);refine Tr.heap (fun p hp=>by simp only [List.any_cons,hp,Bool.or_true]) fun id' hN ht=> ?_
    refine qx hw ?_;rintro rfl;simp [Touch.J1] at ht
   ·cases h
  ·cases h
 ·cases h
  exact Tr.put _
 ·cases h
theorem Tr.R6 {E:Env}{kk:CK}{m key v:b6}(h:R6 E k kk st m key v=some st'):Tr N k st st' :=by
 unfold u7.R6 at h;split at h
 ·split at h
  ·split at h
   ·split at h
    ·split at h
     ·cases h
      refine Tr.trans ?_ (Tr.put _);refine Tr.heap (fun p hp=>by simp only [List.any_cons,hp,Bool.or_true]) fun id' hN ht=> ?_
      rw [q9];rintro rfl;simp [Touch.J1] at ht
     ·cases h
    ·cases h
   ·cases h
  ·cases h
 ·cases h
theorem Tr.J5 {E:Env}{j4:List n8}{s5:Option Nat}{sz bytes:Nat}{ob:Bool}{x:r8}{y:b6}(hi:∀ i,s5=some i->i<st.H.length)(hn:¬ N (newId st s5))
  (h:J5 E j4 s5 k sz bytes ob st x y=some st'):Tr N k st st' :=by
 unfold u7.J5 at h;split at h
 ·split at h
  ·split at h
   ·split at h
    ·cases h;exact Tr.put _
    ·cases h;exact (Tr.newObj hi hn _).trans (Tr.put _)
   ·cases h
  ·split at h
   ·split at h
    ·rename_i ht
     split at h
     ·cases h;exact (Tr.O4 ht).trans (Tr.put _)
     ·cases h
    ·cases h
   ·cases h
 ·cases h
theorem Tr.E2 {E:Env}{j4:List n8}{s5:Option Nat}{op:s9}(aN:∀ id,N id->id<st.H.length)(hi:∀ i,s5=some i->i<st.H.length)(hn:op.y3=true->¬ N (newId st s5))
  (h:E2 E j4 s5 k st op=some st'):Tr N k st st' :=by
 cases op<;>simp only [u7.E2] at h<;>try (cases h;done)
 case alloc zero=>cases h;exact (Tr.newObj hi (hn rfl) _).trans (Tr.put _)
 case box x =>
  split at h
  ·cases h;exact (Tr.newObj hi (hn rfl) _).trans (Tr.put _)
  ·cases h
 case makeMap=>cases h;exact (Tr.newObj hi (hn rfl) _).trans (Tr.put _)
 case y6 sz len zero parts ob =>
  cases ob
  ·cases h
  ·simp only at h
   split at h
   ·split at h
    ·cases h;exact (Tr.newObj hi (hn rfl) _).trans (Tr.put _)
    ·cases h
   ·cases h
 case store n a x=>exact Tr.O8 h
 case append sz bytes ob x y =>
  split at h
  ·split at h
   ·exact Tr.V8 h
   ·cases h
  ·cases ob with
   |true=>exact Tr.J5 hi (hn rfl) h
   |false =>
    unfold u7.J5 at h;simp only [b7,if_false] at h;split at h
    ·split at h
     ·split at h
      ·rename_i ht
       split at h
       ·cases h;exact (Tr.O4 ht).trans (Tr.put _)
       ·cases h
      ·cases h
     ·cases h
    ·cases h
 case clear sz zero x=>exact Tr.V9 h
 case call f xs=>exact Tr.A6 aN h
 case Z3 x xs =>
  split at h
  ·exact Tr.A6 aN h
  ·cases h
 case cQ=>exact Tr.R6 h
 case defer x =>
  split at h
  ·split at h
   ·cases h;exact Tr.put _
   ·cases h
  ·cases h
theorem Tr.C5 {E:Env}{j4:List n8}{s5:Option Nat}{op:s9}{rs:List Nat}(aN:∀ id,N id->id<st.H.length)(hi:∀ i,s5=some i->i<st.H.length)(hn:op.y3=true->¬ N (newId st s5))
  (h:C5 E j4 s5 k op st=some (st',rs)):Tr N k st st' :=by
 unfold u7.C5 at h;split at h
 ·split at h
  ·rename_i he
   cases h;exact Tr.E2 aN hi hn he
  ·cases h
 ·split at h
  ·cases h
   exact (Tr.C6 _).trans (Tr.put _)
  ·split at h
   ·cases h
    exact Tr.put _
   ·cases h
end
structure ud (s5:Option Nat)(X:Cx)(l:F9)(S:Nat->Prop)(entry:Nat)(st:E1)(a:Act)(w:World)(G:Gh)(I:Q9)(N:Nat->Prop)
  (st' :E1) (k:Nat) (x' :Value) (w' :World) (G' :Gh) (I' :Q9) (N' :Nat->Prop):Prop where
 mid:bX X l S entry st a w G I N st' k x' w' G' I' N'
 bO:∀ id,N' id->id<st'.H.length
 old:∀ id,id<st.H.length->N' id->N id\/s5=some id
def de (P:Program)(o:Oper)(a:Act)(w:World)(R:Act->World->Prop):Prop :=
 ∀ (K:Act->World->Prop) (Q:Exit->Act->World->Prop),(∀ a' w',R a' w' ->K a' w')->o.wp P a w K Q
section
variable {P:Program} {o:Oper} {a:Act} {w w' :World} {R:Act->World->Prop}
theorem de.value {x:Value}(h:(execOp a.eval o).run P w= .ok (.value x) w')(hR:R (a.put o.dst x) w'):de P o a w R:=by
 intro K Q hK;simp only [Oper.wp,h,Oper.upon];exact hK _ _ hR
theorem de.skip (h:(execOp a.eval o).run P w= .ok .skip w')(hR:R (a.put o.dst undef) w'):de P o a w R:=by
 intro K Q hK;simp only [Oper.wp,h,Oper.upon];exact hK _ _ hR
theorem de.defer {d:Deferred}(h:(execOp a.eval o).run P w= .ok (.defer d) w')(hR:R ({ a with defers:=d::a.defers }.put o.dst undef) w'):de P o a w R:=by
 intro K Q hK;simp only [Oper.wp,h,Oper.upon];exact hK _ _ hR
theorem de.enter {f:FuncId}{args:Array Value}(h:(execOp a.eval o).run P w= .ok (.enter f args) w)(hR:Calls P f args w fun e w' =>∃ x,e= .returned x/\R (a.put o.dst x) w'):de P o a w R:=by
 intro K Q hK;simp only [Oper.wp,h,Oper.upon];refine Calls.mono hR ?_;rintro e w' ⟨x,rfl,hx⟩;exact hK _ _ hx
end
def ue (P:Program)(ck:Operand->r8->Bool)(o:Oper)(op:s9):Bool :=
 match o.op,op with
 | .call ⟨.value (.func f),args,_⟩,.call g ys=>f==g&&LV ck args.toList ys&&T3 P f
 | .call ⟨.value x,args,_⟩,.Z3 y ys=>ck x y&&LV ck args.toList ys
 |_,_=>false
def Cw (ck:Operand->r8->Bool)(o:Oper)(op:s9):Bool :=
 match o.op,op with
 | .defer ⟨.value x,args,_⟩,.defer y=>ck x y&&args.isEmpty
 |_,_=>false
def LS (ck:Operand->r8->Bool)(o:Oper)(y:r8):Bool :=
 match o.op with
 | .move x=>ck x y
 | .assign x=>ck x y
 |_=>false
def ah (P:Program)(ck:Operand->r8->Bool)(o:Oper)(op:s9):Bool :=
 match op with
 | .M9 y=>LS ck o y
 | .alloc _=>cF P ck o op
 | .box _=>cF P ck o op
 | .makeMap=>cF P ck o op
 | .y6 .. =>cF P ck o op
 | .store .. =>uV P ck o op
 | .append _ _ _ _ _=>fD P ck o op
 | .cQ .. =>FX P ck o op
 | .call .. =>ue P ck o op
 | .Z3 .. =>ue P ck o op
 | .defer _=>Cw ck o op
 | .clear .. =>uT P ck o op
 | .bad=>true
 |op=>A0 P ck o op
section
variable {P:Program} {X:Cx} {l:F9} {S:Nat->Prop} {st st' :E1} {a:Act} {w w' :World} {G G' :Gh} {I I' :Q9} {N N' :Nat->Prop} {D:Nat->Bool} {j4:List n8}
theorem ud.jh {s5:Option Nat}{entry k:Nat}{x:Value}(aN:∀ id,N id->id<st.H.length)(h:bX X l S entry st a w G I N st' k x w' G' I' N):ud s5 X l S entry st a w G I N st' k x w' G' I' N :=
 ⟨h,fun id hid=>Nat.lt_of_lt_of_le (aN id hid) h.len,fun _ _ h=>Or.inl h⟩
theorem ud.MP {entry k:Nat}{x:Value}{s5:Option Nat}(aN:∀ id,N id->id<st.H.length){o:u5}{v:b6}(hi:∀ i,s5=some i->i<st.H.length)
  (h:bX X l S entry st a w G I N (put (I4 st s5 o) k v) k x w' G' I' N') (hN:∀ i,N' i↔N i\/i=newId st s5) :
  ud s5 X l S entry st a w G I N (put (I4 st s5 o) k v) k x w' G' I' N' :=by
 refine ⟨h,fun id hid=> ?_,fun id hlt hid=> ?_⟩
 ·rcases (hN id).1 hid with h1|rfl
  ·exact Nat.lt_of_lt_of_le (aN id h1) h.len
  ·cases s5 with
   |none=>simp [put,I4,newId]
   |some i=>simp only [put,I4,newId,Option.getD_some,List.length_set];exact hi i rfl
 ·rcases (hN id).1 hid with h1|rfl
  ·exact Or.inl h1
  ·cases s5 with
   |none=>simp [newId] at hlt
   |some i=>exact Or.inr rfl
theorem nU {l1 l2:List b6}{v1 v2:List Value}:∀ (_:F1 G I N w l1 v1) (_:F1 G I N w l2 v2),F1 G I N w (l1++l2) (v1++v2):=by
 induction l1 generalizing v1 with
 |nil=>intro h1 h2;simp [F1] at h1;subst h1;simpa using h2
 |cons b bs ih =>
  intro h1 h2;simp only [F1] at h1;obtain ⟨x,xs,rfl,h3,h4⟩:=h1;simp only [G4,F1];exact ⟨x,xs++v2,rfl,h3,ih h4 h2⟩
structure iK (X:Cx)(st:E1)(a:Act)(w:World)(I:Q9)(op:s9)(x:Value):Prop where
 M9:∀ s t,op= .M9 (.slot s)->X.names[s]? =some t->x=a.tmps.getD t undef
 load:∀ y id off,op= .load none y->Y6 st y=some (id,off)->w.cell? (ad (I id).1 ((I id).2+off))=some x
theorem iK.other {X:Cx}{st:E1}{a:Act}{w:World}{I:Q9}{op:s9}{x:Value}(h1:∀ y,op≠ .M9 y)(h2:∀ n y,op≠ .load n y):iK X st a w I op x :=
 ⟨fun _ _ h=>absurd h (h1 _),fun _ _ _ h=>absurd h (h2 _ _)⟩
theorem QS {st:E1}{y:r8}{id off:Nat}(h:Y6 st y=some (id,off)):F0 st.T st.L y= .ptr id off:=by
 unfold Y6 at h;split at h
 ·split at h
  ·rename_i hl
   cases h;simp [F0,List.getD,hl,b6.F2]
  ·cases h
 ·split at h
  ·cases h
  ·split at h
   ·rename_i hl
    cases h;simp [F0,List.getD,hl,b6.F2]
   ·cases h
 ·cases h
theorem KH {ck:Operand->r8->Bool}{η:Operand->Value}{ρ:r8->b6}{H:o6}(hρ:aa ck G I N w η ρ)(hH:HR G I N w H){o:Oper}{y:r8}(hc:A0 P ck o (.load none y)=true){v:b6}{rs:List Nat}
  (h:k9 ρ H (.load none y)=some (v,rs)) {id off:Nat} (hp:ρ y= .ptr id off) {x:Value} (hx:(execOp η o).run P w= .ok (.value x) w):w.cell? (ad (I id).1 ((I id).2+off))=some x:=by
 obtain ⟨dst,bt,ty,pos,after,guard⟩:=o;cases bt<;>simp [A0] at hc;rename_i t x';have h1:=hρ _ _ hc.1;have ha:dW P t=some false:=by simpa [ox] using hc.2
 simp only [k9,hp] at h;rw [hp] at h1;simp only [VR] at h1;split at h
 ·rename_i u hu
  obtain ⟨_,xs,g1,_,g3,g4⟩:=hH.rd hu (by omega);obtain ⟨z,rfl⟩:∃ z,xs=[z]:=by
   match xs,g1 with
   |[z],_=>exact ⟨z,rfl⟩
  have hz:=g3 0 z rfl;simp at hz;simp [execOp,Instr.loadAt,h1.2,Instr.sureAddr,loadVar,cu ha,hz] at hx;rw [hz,hx]
 ·cases h
def Cl (P:Program)(idle:FuncId->Bool)(s5:Option Nat)(X:Cx)(l:F9)(S:Nat->Prop)(entry:Nat)(st:E1)(a:Act)(w:World)(G:Gh)(I:Q9)(N:Nat->Prop)(st' :E1)(k:Nat)(o:Oper)(op:s9)(a' :Act)(w' :World):Prop :=
 ∃ x ds G' I' N',iK X st a w I op x/\a' =({ a with defers:=ds }:Act).put o.dst x/\(ds=a.defers\/∃ d,ds=d::a.defers/\Cn P idle d)/\ud s5 X l S entry st a w G I N st' k x w' G' I' N'
theorem Ee {E:Env}(Ck:kK P E.cf E.prom)(dx:∀ f args H lm r,E.cf f args H lm=some r->T3 P f=true)(hE:E.lim=l)(h:RI X l S st a w G I N)(hpv:PV X j4 S st a w I)(hT:st.T.length=X.names.length)
  (aN:∀ id,N id->id<st.H.length) (hb:l.base<=st.H.length) (hs:l.strict<=l.base) (hD:∀ j,D j=true->S j) {k:Nat} (hk:¬ S k) (Z1:k<st.L.length) {o:Oper} {op:s9} (hc:ah P (X.ck D) o op=true)
  {s5:Option Nat} (hid:op.y3=true->Cm l st N s5) {rs:List Nat} (he:C5 E j4 s5 k op st=some (st',rs)) :
  de P o a w (Cl P E.idle s5 X l S E.entry st a w G I N st' k o op):=by
 have hρ:=h.S2 hD;have fin:∀ {x:Value} {w' :World} {G' :Gh} {I' :Q9} {N' :Nat->Prop},iK X st a w I op x->ud s5 X l S E.entry st a w G I N st' k x w' G' I' N' ->Cl P E.idle s5 X l S E.entry st a w G I N st' k o op (a.put o.dst x) w' :=
  fun {x w' G' I' N'} hF hS=>⟨x,a.defers,G',I',N',hF,rfl,Or.inl rfl,hS⟩
 have Nt:∀ {v:b6} {rs:List Nat},(∀ y,op≠ .M9 y)->A0 P (X.ck D) o op=true->k9 (F0 st.T st.L) st.H op=some (v,rs)->st' =put st k v->de P o a w (Cl P E.idle s5 X l S E.entry st a w G I N st' k o op):=by
  intro v rs hm h1 h2 h3;subst h3;obtain ⟨x,g1,g2⟩:=GO (P:=P) (fun v=>by rfl) hρ h.H h1 h2;refine de.value g1 (fin ⟨fun s t e=>absurd e (hm _),fun y id off e hp=> ?_⟩ (ud.jh aN (bX.same h hk Z1 E.entry g2.place)));subst e;exact KH hρ h.H h1 h2 (QS hp) g1
 have Cu:(∀ y,op≠ .M9 y)->(∀ n y,op≠ .load n y)->∀ (f:FuncId) (args:List b6) (L0:Array Value),F1 G I N w args L0.toList->A6 E k f args st=some st' ->(execOp a.eval o).run P w=(callFunc f L0).run P w->de P o a w (Cl P E.idle s5 X l S E.entry st a w G I N st' k o op):=by
  intro hm hl f args L0 h1 h2 h3;have hcan:T3 P f=true:=by
   unfold A6 at h2;split at h2
   ·split at h2
    ·rename_i Gl
     exact dx f _ _ _ _ Gl
    ·cases h2
   ·simp only at h2
    split at h2
    ·split at h2
     ·split at h2
      ·rename_i Gl
       exact dx f _ _ _ _ Gl
      ·cases h2
     ·split at h2
      ·rename_i Gl
       exact dx f _ _ _ _ Gl
      ·cases h2
     ·split at h2
      ·rename_i Gl
       exact dx f _ _ _ _ Gl
      ·cases h2
    ·cases h2
  refine de.enter (f:=f) (args:=L0) (by rw [h3];exact qk hcan L0) ?_;refine Calls.mono (Kl Ck hE h aN hb hs hk Z1 E.entry h1 h2) ?_;rintro e w' ⟨x,G',I',N',rfl,hC⟩;exact ⟨x,rfl,fin (iK.other hm hl) ⟨hC.mid,hC.bO,fun id hlt hid=>Or.inl (hC.old id hlt hid)⟩⟩
 unfold C5 at he;cases op
 case M9 y =>
  simp only [s9.D5,b7,if_false] at he;cases he;simp only [ah] at hc;have key:∀ x,X.ck D x y=true->(execOp a.eval o).run P w= .ok (.value (a.eval x)) w->de P o a w (Cl P E.idle s5 X l S E.entry st a w G I N (put (C6 st y).2 k (C6 st y).1) k o (.M9 y)):=by
   intro x hx hrun;obtain ⟨G1,hX⟩:=h.C6 hD hx (pl:= .loc k) (by simp);have hM:=bX.same hX.ri hk (by rw [xB];exact Z1) E.entry hX.val;exact de.value hrun (fin ⟨fun s t e hn=>by cases e;simp only [Cx.ck] at hx;split at hx<;>simp_all [Act.eval],fun _ _ _ e=>by cases e⟩ (ud.jh aN (bX.pre hX.ext hX.keeps hX.obj (xA st y) hM)))
  obtain ⟨dst,bt,ty,pos,after,guard⟩:=o;cases bt<;>simp only [LS] at hc<;>try (cases hc;done)
  ·exact key _ hc (by simp [execOp])
  ·exact key _ hc (by simp [execOp])
 case alloc zero =>
  simp only [s9.D5,if_true,E2] at he;cases he;have h1:=hid rfl;obtain ⟨x,w',G',I',N',g1,g2,g3⟩:=KJ h hk Z1 E.entry h1 (by simpa [ah] using hc);exact de.value g1 (fin (iK.other (by simp) (by simp)) (ud.MP aN h1.inside g2 g3))
 case box y =>
  simp only [s9.D5,if_true,E2] at he;split at he
  ·rename_i hcs
   split at hcs
   ·rename_i cs oq
    cases hcs;cases he;have h1:=hid rfl;obtain ⟨x,w',G',I',N',g1,g2,g3⟩:=Qx h hρ hk Z1 E.entry h1 (by simpa [ah] using hc) oq;exact de.value g1 (fin (iK.other (by simp) (by simp)) (ud.MP aN h1.inside g2 g3))
   ·cases hcs
  ·cases he
 case makeMap =>
  simp only [s9.D5,if_true,E2] at he;cases he;have h1:=hid rfl;obtain ⟨x,w',G',I',N',g1,g2,g3⟩:=Qy (P:=P) h hk Z1 E.entry h1 (by simpa [ah] using hc);exact de.value g1 (fin (iK.other (by simp) (by simp)) (ud.MP aN h1.inside g2 g3))
 case y6 sz len zero parts ob =>
  cases ob with
  |false =>
   simp only [s9.D5,b7,if_false] at he;split at he
   ·rename_i v rs' hp
    cases he;obtain ⟨x,w',G',g1,g2⟩:=KK h hρ hk Z1 E.entry (by simpa [ah] using hc) hp;exact de.value g1 (fin (iK.other (by simp) (by simp)) (ud.jh aN g2))
   ·cases he
  |true =>
   simp only [s9.D5,if_true,E2] at he;split at he
   ·rename_i hcs
    split at hcs
    ·rename_i cs oq
     split at hcs
     ·rename_i hl
      cases hcs;cases he;have h1:=hid rfl;obtain ⟨x,w',G',I',N',g1,g2,g3⟩:=Bk h hρ hk Z1 E.entry h1 (by simpa [ah] using hc) oq hl.2;exact de.value g1 (fin (iK.other (by simp) (by simp)) (ud.MP aN h1.inside g2 g3))
     ·cases hcs
    ·cases hcs
   ·cases he
 case store n x y =>
  simp only [s9.D5,if_true,E2] at he;split at he
  ·rename_i hst
   cases he;obtain ⟨w',G',g1,g2⟩:=Kn h hD hk Z1 E.entry (by simpa [ah] using hc) hE hst;exact de.skip g1 (fin (iK.other (by simp) (by simp)) (ud.jh aN g2))
  ·cases he
 case append sz bytes ob x y =>
  simp only [ah] at hc;simp only [s9.D5,if_true,E2] at he;split at he
  ·rename_i hst
   cases he;split at hst
   ·rename_i id z lo len hx
    split at hst
    ·rename_i hz
     subst hz;obtain ⟨v,w',G',I',g1,g2⟩:=yf h hD hk Z1 hc hE hx hst;exact de.value g1 (fin (iK.other (by simp) (by simp)) (ud.jh aN g2))
    ·cases hst
   ·cases ob with
    |false =>
     obtain ⟨v,w',G',g1,g2⟩:=Gc h hpv hT hD hk Z1 E.entry hc hE hst;exact de.value g1 (fin (iK.other (by simp) (by simp)) (ud.jh aN g2))
    |true =>
     have h1:=hid rfl
     rcases ye h hpv hT hD hk Z1 E.entry h1 hc hE hst with ⟨v,w',G',g1,g2⟩|⟨v,w',G',I',N',ob,av,g1,rfl,g2,g3⟩
     ·exact de.value g1 (fin (iK.other (by simp) (by simp)) (ud.jh aN g2))
     ·exact de.value g1 (fin (iK.other (by simp) (by simp)) (ud.MP aN h1.inside g2 g3))
  ·cases he
 case cQ kk m ky v =>
  simp only [s9.D5,if_true,E2] at he;split at he
  ·rename_i hst
   cases he;obtain ⟨w',g1,g2⟩:=Gd h hD hk Z1 E.entry (by simpa [ah] using hc) hE hst;exact de.skip g1 (fin (iK.other (by simp) (by simp)) (ud.jh aN g2))
  ·cases he
 case call f ys =>
  simp only [s9.D5,if_true,E2] at he;split at he
  ·rename_i hst
   cases he;simp only [ah,ue] at hc;split at hc
   ·rename_i f' args _ g ys' hop heq
    cases heq;simp only [b5,beq_iff_eq] at hc;obtain ⟨⟨rfl,hcs⟩,hcan⟩:=hc;refine Cu (by simp) (by simp) f' (ys.map (F0 st.T st.L)) (args.map a.eval) (by simpa using fE hρ _ _ hcs) hst ?_;simp [execOp,hop,resolve,Act.eval,Deferred.ofValue,invoke]
   ·rename_i heq;cases heq
   ·cases hc
  ·cases he
 case Z3 y ys =>
  simp only [s9.D5,if_true,E2] at he;split at he
  ·rename_i hst
   cases he;simp only [ah,ue] at hc;split at hc
   ·rename_i heq;cases heq
   ·rename_i x args _ y' ys' hop heq
    cases heq;simp only [b5] at hc;have hv:=hρ _ _ hc.1;split at hst
    ·rename_i f first caps hy
     rw [hy] at hv;simp only [VR] at hv;obtain ⟨vf,vc,e1,e2,e3⟩:=hv;refine Cu (by simp) (by simp) f (first++ys.map (F0 st.T st.L)++caps) (vf++args.map a.eval++vc) ?_ hst ?_
     ·simp only [Array.toList_append,Array.toList_map]
      exact nU (nU e2 (fE hρ _ _ hc.2)) e3
     ·simp [execOp,hop,resolve,e1,Deferred.ofValue,invoke]
    ·cases hst
   ·cases hc
  ·cases he
 case defer y =>
  simp only [s9.D5,if_true,E2] at he;split at he
  ·rename_i hst
   cases he;simp only [ah,Cw] at hc;split at hc
   ·rename_i x args _ y' hop heq
    cases heq;simp only [b5] at hc;have hv:=hρ _ _ hc.1;split at hst
    ·rename_i f first caps hy
     split at hst
     ·rename_i yR
      cases hst;rw [hy] at hv;simp only [VR] at hv;obtain ⟨vf,vc,e1,e2,e3⟩:=hv;have hrun:(execOp a.eval o).run P w= .ok (.defer { target:= .fn (.func f) vc,args:=vf++args.map a.eval }) w:=by
       simp [execOp,hop,resolve,e1,Deferred.ofValue]
      refine de.defer hrun ⟨undef,_,G,I,N,iK.other (by simp) (by simp),rfl,Or.inr ⟨_,rfl,f,vc,rfl,yR⟩,ud.jh aN (bX.same h hk Z1 E.entry (by simp [VR]))⟩
     ·cases hst
    ·cases hst
   ·cases hc
  ·cases he
 case clear sz zero y =>
  simp only [s9.D5,if_true,E2] at he;split at he
  ·rename_i hst
   cases he;obtain ⟨w',g1,g2⟩:=Km h hD hk Z1 E.entry (by simpa [ah] using hc) hE hst;exact de.value g1 (fin (iK.other (by simp) (by simp)) (ud.jh aN g2))
  ·cases he
 case bad=>simp [s9.D5,k9] at he
 all_goals
  simp only [s9.D5,b7,if_false] at he;split at he
  ·rename_i hp
   cases he;exact Nt (by simp) (by simpa only [ah] using hc) hp rfl
  ·cases he
end
def kN (names:List Tmp):Option Tmp->Option Nat->Bool
 |none,none=>true
 |some d,none=> !names.contains d
 |some d,some s=>names[s]? ==some d
 |none,some _=>false
def kO (X:Cx)(D:Nat->Bool):Option (Nat×Bool)->Option (Nat×Bool)->Bool
 |none,none=>true
 |some (g,b),some (g',b')=>g==g' &&b==b' &&D g&&(match (X.ops[g]?).bind (·.dst) with
  |some d=> !X.names.contains d
  |none=>false)
 |_,_=>false
def nW (X:Cx)(D:Nat->Bool)(o:Oper)(i:n8):Bool :=
 ah X.P (X.ck D) o i.op&&kN X.names o.dst i.dst&&kO X D o.guard i.guard
structure Stat (X:Cx)(nt:Nat):Prop where
 dup:∀ (i j:Nat) d,(X.ops[i]?).bind (·.dst)=some d->(X.ops[j]?).bind (·.dst)=some d->X.names.contains d=false->i=j
 lt:∀ (i:Nat) d,(X.ops[i]?).bind (·.dst)=some d->d<nt
 nod:∀ (s s' :Nat) t,X.names[s]? =some t->X.names[s']? =some t->s=s'
def sB (X:Cx)(S:Nat->Prop):r8->Prop
 | .loc m=>S m/\∃ t,(X.ops[m]?).bind (·.dst)=some t/\X.names.contains t=false
 | .slot s=>∃ t,X.names[s]? =some t
 | .const _=>True
structure Rg (X:Cx)(j4:List n8)(E:Env)(nt:Nat)(S:Nat->Prop)(st:E1)(a:Act)(w:World)(G:Gh)(I:Q9)(N:Nat->Prop):Prop where
 ri:RI X E.lim S st a w G I N
 pv:PV X j4 S st a w I
 cl:∀ (j:Nat) ai y,S j->j4[j]? =some ai->ai.op=s9.load none y->sB X S y
 U0:st.T.length=X.names.length
 fV:st.L.length=j4.length
 bO:∀ id,N id->id<st.H.length
 CG:E.entry<=st.H.length
 size:a.tmps.size=nt
 idle:∀ d,d ∈ a.defers->Cn X.P E.idle d
structure V5 (E:Env)(H0:o6)(w0:World)(G0:Gh)(I0:Q9)(N0:Nat->Prop)(H:o6)(w:World)(G:Gh)(I:Q9)(N:Nat->Prop):Prop where
 ext:Ext G0 w0 G w
 dZ:iN E.lim G0 w0 G w
 inj:∀ id,id<E.entry->N0 id->I id=I0 id
 mono:∀ id,id<E.entry->N0 id->N id
 old:∀ id,id<E.entry->N id->N0 id
 hle:∀ (id:Nat) (o' :u5),id<E.lim.base->H[id]? =some o' ->o'.M3<=id+1\/∃ o:u5,H0[id]? =some o/\o'.M3<=o.M3
theorem V5.refl (E:Env)(H:o6)(w:World)(G:Gh)(I:Q9)(N:Nat->Prop):V5 E H w G I N H w G I N :=
 ⟨Ext.refl _ _,iN.refl _ _ _,fun _ _ _=>rfl,fun _ _ h=>h,fun _ _ h=>h,fun _ o _ h=>Or.inr ⟨o,h,l5 _⟩⟩
theorem V5.trans {E:Env}{H0 H1 H2:o6}{w0 w1 w2:World}{G0 G1 G2:Gh}{I0 I1 I2:Q9}{N0 N1 N2:Nat->Prop}
  (h:V5 E H0 w0 G0 I0 N0 H1 w1 G1 I1 N1) (k:V5 E H1 w1 G1 I1 N1 H2 w2 G2 I2 N2):V5 E H0 w0 G0 I0 N0 H2 w2 G2 I2 N2 where
 ext:=h.ext.trans k.ext
 dZ:=h.dZ.trans k.dZ
 inj id hid hN:=(k.inj id hid (h.mono id hid hN)).trans (h.inj id hid hN)
 mono id hid hN:=k.mono id hid (h.mono id hid hN)
 old id hid hN:=h.old id hid (k.old id hid hN)
 hle id o' hb ho:=by
  rcases k.hle id o' hb ho with h1|⟨o1,h1,h2⟩
  ·exact Or.inl h1
  ·rcases h.hle id o1 hb h1 with h3|⟨o,h3,h4⟩
   ·exact Or.inl (by omega)
   ·exact Or.inr ⟨o,h3,by omega⟩
section
variable {X:Cx} {j4:List n8} {E:Env} {nt:Nat} {S:Nat->Prop} {st P3 Y9:E1} {a:Act} {w w' :World} {G G' :Gh} {I I' :Q9} {N N' :Nat->Prop} {D:Nat->Bool}
theorem Rg.au7 (h:Rg X j4 E nt S st a w G I N){y:r8}(hy:sB X S y){id off:Nat}(hp:Y6 st y=some (id,off)):N id:=by
 unfold Y6 at hp;split at hp
 ·rename_i m
  split at hp
  ·rename_i hl
   cases hp;obtain ⟨h1,t,h2,h3⟩:=hy;have:=h.ri.L m h1 t h2 h3;rw [W0 hl] at this;simp only [VR] at this;exact this.1
  ·cases hp
 ·rename_i s
  split at hp
  ·cases hp
  ·split at hp
   ·rename_i hl
    cases hp;obtain ⟨t,ht⟩:=hy;have:=h.ri.T s t ht;rw [W0 hl] at this;simp only [VR] at this;exact this.1
   ·cases hp
 ·cases hp
theorem P7 {s5:Option Nat}{k:Nat}{dst:Option Nat}(h:s4 s5 P3 k dst=some Y9) :
  (dst=none/\Y9=P3)\/∃ s n5,dst=some s/\s<P3.T.length/\Y9={ (C6 P3 (.loc k)).2 with T:=P3.T.set s (C6 P3 (.loc k)).1,n5 }/\(n5= .slot s::P3.n5\/(n5=P3.n5/\P3.n5.any (Touch.Q1 s)=true)):=by
 unfold s4 at h;split at h
 ·cases dst with
  |none=>cases h;exact Or.inl ⟨rfl,rfl⟩
  |some s =>
   simp only [F8] at h;split at h
   ·rename_i hs
    cases h;exact Or.inr ⟨s,_,rfl,hs,rfl,Or.inl rfl⟩
   ·cases h
 ·cases dst with
  |none=>cases h;exact Or.inl ⟨rfl,rfl⟩
  |some s =>
   simp only [W3] at h;split at h
   ·rename_i hs
    simp only [b5,decide_eq_true_eq] at hs;cases h;refine Or.inr ⟨s,P3.n5,rfl,hs.1,?_,Or.inr ⟨rfl,hs.2⟩⟩;have:(C6 P3 (.loc k)).2.n5=P3.n5:=Ow _ _;cases hx:(C6 P3 (.loc k)).2 with
    |mk T H L n5=>rw [hx] at this;simp only at this;subst this;rfl
   ·cases h
theorem xk {s5:Option Nat}{k:Nat}{dst:Option Nat}(h:s4 s5 P3 k dst=some Y9)(p:Touch->Bool)(hp:P3.n5.any p=true):Y9.n5.any p=true:=by
 rcases P7 h with ⟨_,rfl⟩|⟨s,n5,_,_,rfl,rfl|⟨rfl,_⟩⟩
 ·exact hp
 ·simp only [List.any_cons,hp,Bool.or_true]
 ·exact hp
theorem xh {s5:Option Nat}{k s:Nat}{dst:Option Nat}(h:s4 s5 P3 k dst=some Y9)(hd:dst=some s):Y9.n5.any (Touch.Q1 s)=true:=by
 rcases P7 h with ⟨h0,_⟩|⟨s',n5,h1,_,rfl,rfl|⟨rfl,h2⟩⟩
 ·rw [h0] at hd;cases hd
 ·rw [h1] at hd;cases hd;simp [Touch.Q1]
 ·rw [h1] at hd;cases hd;exact h2
theorem mg {s5:Option Nat}{k:Nat}{dst:Option Nat}(h:s4 s5 P3 k dst=some Y9):Y9.H=P3.H:=by
 rcases P7 h with ⟨_,rfl⟩|⟨s,n5,_,_,rfl,_⟩
 ·rfl
 ·exact xA _ _
theorem En {s5:Option Nat}{k:Nat}{dst:Option Nat}(h:s4 s5 P3 k dst=some Y9):Y9.L.length=P3.L.length:=by
 rcases P7 h with ⟨_,rfl⟩|⟨s,n5,_,_,rfl,_⟩
 ·rfl
 ·exact xB _ _
theorem Eo {s5:Option Nat}{k:Nat}{dst:Option Nat}(h:s4 s5 P3 k dst=some Y9):Y9.T.length=P3.T.length:=by
 rcases P7 h with ⟨_,rfl⟩|⟨s,n5,_,_,rfl,_⟩
 ·rfl
 ·simp
theorem oH (st:E1)(k m:Nat)(h:m≠k):(C6 st (.loc k)).2.L[m]? =st.L[m]? :=by
 simp only [C6];split
 ·simp only
  rw [q9 (fun e=>h e.symm)]
 ·rfl
theorem Em {s5:Option Nat}{k:Nat}{dst:Option Nat}(h:s4 s5 P3 k dst=some Y9){m:Nat}(hm:m≠k):Y9.L[m]? =P3.L[m]? :=by
 rcases P7 h with ⟨_,rfl⟩|⟨s,n5,_,_,rfl,_⟩
 ·rfl
 ·exact oH P3 k m hm
theorem Hr {s5:Option Nat}{k:Nat}{dst:Option Nat}(h:s4 s5 P3 k dst=some Y9){y:r8}(hy:∀ m,y= .loc m->m≠k){id off:Nat}(hp:Y6 Y9 y=some (id,off)):Y6 P3 y=some (id,off):=by
 cases y with
 |const v=>exact hp
 |loc m =>
  simp only [Y6] at hp ⊢;rw [Em h (hy m rfl)] at hp;exact hp
 |slot s' =>
  simp only [Y6] at hp ⊢;split at hp
  ·cases hp
  ·rename_i hn
   have hn' :Y9.n5.any (Touch.Q1 s')=false:=by simpa using hn
   rw [if_neg (by rw [fW (xk h) hn'];simp)];have hne:dst≠some s' :=by
    intro e;rw [xh h e] at hn';cases hn'
   have:Y9.T[s']? =P3.T[s']? :=by
    rcases P7 h with ⟨_,rfl⟩|⟨s,n5,h1,_,rfl,_⟩
    ·rfl
    ·simp only
     rw [q9 (fun e=>hne (by rw [h1,e]))]
   rw [this] at hp;exact hp
theorem Tr.ptr {k:Nat}(h:Tr N k st P3){y:r8}(hy:∀ m,y= .loc m->m≠k){id off:Nat}(hp:Y6 P3 y=some (id,off)):Y6 st y=some (id,off):=by
 cases y with
 |const v=>exact hp
 |loc m =>
  simp only [Y6] at hp ⊢;split at hp
  ·rename_i hl
   cases hp;rw [h.L m _ _ (hy m rfl) hl]
  ·cases hp
 |slot s =>
  simp only [Y6] at hp ⊢;split at hp
  ·cases hp
  ·rename_i hn
   rw [if_neg (by rw [fW h.n5 (by simpa using hn)];simp)];split at hp
   ·rename_i hl
    cases hp;rw [h.T s _ _ hl]
   ·cases hp
theorem Z8 {d:Tmp}{x:Value}(h:d<a.tmps.size):(a.put (some d) x).tmps.getD d undef=x:=by
 simp [Act.put,h]
theorem U8 {dst:Option Tmp}{t:Tmp}{x:Value}(h:dst≠some t):(a.put dst x).tmps.getD t undef=a.tmps.getD t undef:=by
 cases dst with
 |none=>rfl
 |some d =>
  have:d≠t:=fun e=>h (by rw [e])
  simp [Act.put,Array.getElem?_setIfInBounds_ne this]
theorem DW {dst:Option Tmp}{x:Value}:(a.put dst x).tmps.size=a.tmps.size:=by
 cases dst<;>simp [Act.put]
theorem jE {dst:Option Tmp}{x:Value}:(a.put dst x).defers=a.defers:=by
 cases dst<;>simp [Act.put]
theorem RI.defers {l:F9}{ds:List Deferred}(h:RI X l S st a w G I N):RI X l S st { a with defers:=ds } w G I N :=
 ⟨h.T,h.L,h.H,h.wf,h.T9⟩
theorem RI.after {l:F9}(hst:Stat X nt)(hsz:a.tmps.size=nt)(hT:P3.T.length=X.names.length){k:Nat}(hk:¬ S k)(Z1:k<P3.L.length){o:Oper}(ho:X.ops[k]? =some o){dst:Option Nat}(hd:kN X.names o.dst dst=true)
  (h:RI X l S P3 a w G I N) {x:Value} (hv:VR G I N w (.loc k) (P3.L.getD k .any) x) {s5:Option Nat} (hts:s4 s5 P3 k dst=some Y9) :
  ∃ G',Ext G w G' w/\(∀ id off,ay (.cell id off) G w G' w)/\(∀ b id,G b= .obj id->G' b= .obj id)/\RI X l (fun j=>S j\/j=k) Y9 (a.put o.dst x) w G' I N:=by
 have kV:(X.ops[k]?).bind (·.dst)=o.dst:=by rw [ho];rfl
 rcases P7 hts with ⟨rfl,rfl⟩|⟨s,cV,rfl,hs,rfl,_⟩
 ·have CX:∀ d,o.dst=some d->X.names.contains d=false:=by
   intro d hd';rw [hd'] at hd;simpa [kN] using hd
  refine ⟨G,Ext.refl _ _,fun _ _ _ _ h=>⟨h,rfl⟩,fun _ _ h=>h,?_,?_,h.H,h.wf,h.T9⟩
  ·intro s t ht
   rw [U8 ?_]
   ·exact h.T s t ht
   ·intro e
    have h1:=CX t e;have h2:t ∈ X.names:=List.mem_of_getElem? ht;simp [h2] at h1
  ·intro j hj d tS hjn
   rcases hj with hj|rfl
   ·rw [U8 ?_]
    ·exact h.L j hj d tS hjn
    ·intro e
     have:=hst.dup j k d tS (by rw [kV];exact e) hjn;subst this;exact hk hj
   ·rw [kV] at tS
    rw [tS,Z8 (by rw [hsz];exact hst.lt j d (by rw [kV];exact tS))];exact hv
 ··cases ZZ:o.dst with
   |none=>rw [ZZ] at hd;simp [kN] at hd
   |some d =>
    rw [ZZ] at hd;have aN:X.names[s]? =some d:=by simpa [kN] using hd
    have hdn:X.names.contains d=true:=by
     have:d ∈ X.names:=List.mem_of_getElem? aN;simp [this]
    have am1:d<a.tmps.size:=by rw [hsz];exact hst.lt k d (by rw [kV];exact ZZ)
    have main:∀ (v:b6) (Vl:E1) (G' :Gh),iM (.loc k) G w G' ->VR G' I N w (.slot s) v x->Vl.H=P3.H->(∀ m,m≠k->Vl.L[m]? =P3.L[m]?)->Vl.T=P3.T.set s v ->
      RI X l (fun j=>S j\/j=k) Vl (a.put (some d) x) w G' I N:=by
     intro v Vl G' hm hv' hH hL hT3;refine ⟨?_,?_,?_,hm.wf h.wf,?_⟩
     ·intro s' t ht
      rw [hT3]
      by_cases he:s' =s
      ·subst he
       rw [aN] at ht;cases ht;rw [K6 _ _ _ _ hs,Z8 am1];exact hv'
      ·rw [F3 _ _ _ _ _ (fun e=>he e.symm),U8 (fun e=>he (hst.nod s' s t ht (by rw [aN,<- Option.some_inj.1 e])))]
       exact VR.mono hm.ext (fun _ _=>rfl) (fun _ h=>h) _ _ _ (Or.inr (hm.keeps _ (by simp))) (h.T s' t ht)
     ·intro j hj d' tS hjn
      have hjk:S j:=by
       rcases hj with hj|rfl
       ·exact hj
       ·rw [kV,ZZ] at tS;cases tS;rw [hdn] at hjn;cases hjn
      have hne:j≠k:=by rintro rfl;exact hk hjk
      have e1:Vl.L.getD j .any=P3.L.getD j .any:=by simp only [List.getD,hL j hne]
      rw [e1,U8 (fun e=>by cases e;rw [hdn] at hjn;cases hjn)];exact VR.mono hm.ext (fun _ _=>rfl) (fun _ h=>h) _ _ _ (Or.inr (hm.keeps _ (by simp;exact hne))) (h.L j hjk d' tS hjn)
     ·rw [hH];exact h.H.Dp hm (by simp)
     ·rw [hH];exact h.T9
    by_cases hown:∃ z n c,P3.L[k]? =some (.own z n c)
    ·obtain ⟨z,n,c,RX⟩:=hown
     rw [W0 RX] at hv;obtain ⟨G',hm,hv'⟩:=fX (tX := .slot s) (by simp) hv;refine ⟨G',hm.ext,fun id off=>hm.keeps _ (by simp),hm.obj,?_⟩;have e1:(u7.C6 P3 (.loc k)).1= .own z n c:=by simp only [u7.C6,RX]
     exact main (.own z n c) _ G' hm hv' (xA _ _) (fun m hm=>oH P3 k m hm) (by simp only [e1])
    ·have e1:u7.C6 P3 (.loc k)=(F0 P3.T P3.L (.loc k),P3):=by
      simp only [u7.C6];split
      ·rename_i z n c hj;exact absurd ⟨z,n,c,hj⟩ hown
      ·rfl
     refine ⟨G,Ext.refl _ _,fun _ _ _ _ h=>⟨h,rfl⟩,fun _ _ h=>h,?_⟩;refine main (F0 P3.T P3.L (.loc k)) _ G (iM.refl _ _ _) ?_ (xA _ _) (fun m hm=>oH P3 k m hm) (by simp only [e1]);simp only [F0];exact hv.F2
theorem PV.after (hst:Stat X nt)(hR:Rg X j4 E nt S st a w G I N){k:Nat}(hk:¬ S k){o:Oper}(ho:X.ops[k]? =some o){i:n8}(hi:j4[k]? =some i)(hd:kN X.names o.dst i.dst=true)
  (hcl:∀ y,i.op= .load none y->sB X S y) (htr:Tr N k st P3) {s5:Option Nat} (hts:s4 s5 P3 k i.dst=some Y9) {x:Value} {ds:List Deferred}
  (hko:∀ id,N id->P3.n5.any (Touch.J1 id)=false->I' id=I id/\∀ b,G b= .obj id->w'.heap[b]? =w.heap[b]?)
  (hf:Y9.L[k]? =some (.tuple [])\/iK X st a w I i.op x):PV X j4 (fun j=>S j\/j=k) Y9 ({ a with defers:=ds }.put o.dst x) w' I' :=by
 have kV:(X.ops[k]?).bind (·.dst)=o.dst:=by rw [ho];rfl
 have PD:∀ j,j≠k->Y9.L[j]? ≠some (.tuple [])->st.L[j]? ≠some (.tuple []):=by
  intro j hj h1 h2;rw [Em hts hj] at h1;exact h1 (htr.PD j hj h2)
 have GG:∀ p,Y9.n5.any p=false->st.n5.any p=false/\P3.n5.any p=false:=by
  intro p hp;have h1:=fW (xk hts) hp;exact ⟨fW htr.n5 h1,h1⟩
 have NT:∀ (s:Nat) t,X.names[s]? =some t->Y9.n5.any (Touch.Q1 s)=false->o.dst≠some t:=by
  intro s t ht hh e;rw [e] at hd;cases hdi:i.dst with
  |none =>
   rw [hdi] at hd;have:t ∈ X.names:=List.mem_of_getElem? ht;simp [kN,this] at hd
  |some s' =>
   rw [hdi] at hd hts;have h1:X.names[s']? =some t:=by simpa [kN] using hd
   have:=hst.nod s s' t ht h1;subst this;rw [xh hts rfl] at hh;cases hh
 have HN:∀ (j:Nat) d,S j->(X.ops[j]?).bind (·.dst)=some d->X.names.contains d=false->o.dst≠some d:=by
  intro j d hj tS hjn e;have:=hst.dup j k d tS (by rw [kV];exact e) hjn;subst this;exact hk hj
 have Cv:∀ y id off l0,sB X S y->Y6 Y9 y=some (id,off)->Y9.H[id]? =some (.cells l0)->off<l0.length->Y9.n5.any (Touch.aj id off)=false ->
   Y6 st y=some (id,off)/\st.n5.any (Touch.aj id off)=false/\(∃ l,st.H[id]? =some (.cells l)/\off<l.length)/\w'.cell? (ad (I' id).1 ((I' id).2+off))=w.cell? (ad (I id).1 ((I id).2+off)):=by
  intro y id off l0 hy hp hH hoff hh;have hym:∀ m,y= .loc m->m≠k:=by
   rintro m rfl rfl;exact hk hy.1
  have hp1:=Hr hts hym hp;have hp0:=htr.ptr hym hp1;have hN:=hR.au7 hy hp0;have LB:P3.n5.any (Touch.J1 id)=false:=by
   have h1:=(GG _ hh).2;cases he:P3.n5.any (Touch.J1 id) with
   |false=>rfl
   |true =>
    rw [List.any_eq_true] at he;obtain ⟨t,ht,hth⟩:=he;have:P3.n5.any (Touch.aj id off)=true:=by
     rw [List.any_eq_true];refine ⟨t,ht,?_⟩;cases t<;>simp only [Touch.J1,Touch.aj] at hth ⊢<;>first|exact hth|cases hth
    rw [this] at h1;cases h1
  rw [mg hts] at hH;obtain ⟨l,hl,hle⟩:=htr.H id l0 hN LB hH;obtain ⟨e1,e2⟩:=hko id hN LB;have hO:=hR.ri.H id _ hl;simp only [OR] at hO;obtain ⟨_,c,e,f,g1,g2,_⟩:=hO;refine ⟨hp0,(GG _ hh).1,⟨l,hl,by omega⟩,?_⟩;rw [e1];simp only [World.cell?,e2 _ g2]
 refine ⟨?_,?_⟩
 ·intro j ai s t d hj hsk hai hop ht tS hjn hh
  rw [U8 (NT s t ht hh)]
  rcases hj with hj|rfl
  ·rw [U8 (HN j d hj tS hjn)]
   exact hR.pv.slot j ai s t d hj (PD j (by rintro rfl;exact hk hj) hsk) hai hop ht tS hjn (GG _ hh).1
  ·rw [hi] at hai;cases hai
   rw [kV] at tS;rw [tS,Z8 (by simp only;rw [hR.size];exact hst.lt j d (by rw [kV];exact tS))]
   rcases hf with hf|hf
   ·exact absurd hf hsk
   ·exact hf.M9 s t hop ht
 ·intro j ai y id off d l0 hj hsk hai hop hp hH hoff hh tS hjn
  rcases hj with hj|rfl
  ·have hy:=hR.cl j ai y hj hai hop
   obtain ⟨h1,h2,⟨l,h3,h4⟩,h5⟩:=Cv y id off l0 hy hp hH hoff hh;rw [U8 (HN j d hj tS hjn),h5];exact hR.pv.cell j ai y id off d l hj (PD j (by rintro rfl;exact hk hj) hsk) hai hop h1 h3 h4 h2 tS hjn
  ·rw [hi] at hai;cases hai
   have hy:=hcl y hop;obtain ⟨h1,h2,⟨l,h3,h4⟩,h5⟩:=Cv y id off l0 hy hp hH hoff hh;rw [kV] at tS;rw [tS,Z8 (by simp only;rw [hR.size];exact hst.lt j d (by rw [kV];exact tS)),h5]
   rcases hf with hf|hf
   ·exact absurd hf hsk
   ·exact hf.load y id off hop h1
end
end Go.u7


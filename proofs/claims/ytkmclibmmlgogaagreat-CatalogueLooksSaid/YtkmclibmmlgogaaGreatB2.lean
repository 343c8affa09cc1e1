/- Texts A16 A17 A18 A18b A19 A20 A21 A22 A23 (made short by a program) -/
import Derived.Test.YtkmclibmmlgogaaGreatB1
set_option linter.unusedVariables false
set_option linter.unusedSimpArgs false
open Bool renaming and_eq_true → b5, false_eq_true → b7, not_eq_true' → j5, or_eq_false_iff → L6
open List renaming cons_append → D9, getElem?_append_left → p7, getElem?_append_right → q8, getElem?_eq_getElem → o8, getElem?_eq_none → q9, getElem?_set_ne → s8, getElem?_set_self → E0, length_append → C1, map_cons → H8, replicate → c9
open Nat renaming le_refl → k9, lt_or_ge → p9
open Option renaming map_some → F1
namespace Go.z7
mutual
theorem VR.kill {G:Gh}{I:S4}{N:Nat->Prop}{w:World}(id:Nat):∀ (pl:Place) (a:b6) (x:Value),VR G I N w pl a x->VR G I (fun i=>N i/\i≠id) w pl (a.kill id) x
 |_,.any,_,_=>by simp [b6.kill,VR]
 |_,.d _,_,h=>by simpa [b6.kill,VR] using h
 |_,.ptr i o,x,h=>by
  unfold b6.kill;split
  ·simp [VR]
  ·rename_i hne
   simp only [VR] at h ⊢;exact ⟨⟨h.1,hne⟩,h.2⟩
 |_,.Q9 _,_,h=>by simpa [b6.kill,VR] using h
 |_,.E3 i z lo n,x,h=>by
  unfold b6.kill;split
  ·simp [VR]
  ·rename_i hne
   simp only [VR] at h ⊢;exact ⟨⟨h.1,hne⟩,h.2⟩
 |_,.own _ _ _,_,h=>by simpa only [b6.kill,VR] using h
 |_,.J6,_,h=>by simpa only [b6.kill,VR] using h
 |_,.agg l,x,h=>by
  simp only [b6.kill,VR] at h ⊢;obtain ⟨cs,h1,h2⟩:=h;exact ⟨cs,h1,G8.kill id l _ h2⟩
 |_,.tuple l,x,h=>by
  simp only [b6.kill,VR] at h ⊢;obtain ⟨cs,h1,h2⟩:=h;exact ⟨cs,h1,G8.kill id l _ h2⟩
 |_,.func f a b,x,h=>by
  simp only [b6.kill,VR] at h ⊢;obtain ⟨u,v,h1,h2,h3⟩:=h;exact ⟨u,v,h1,G8.kill id a _ h2,G8.kill id b _ h3⟩
 |_,.map i,x,h=>by
  unfold b6.kill;split
  ·simp [VR]
  ·rename_i hne
   simp only [VR] at h ⊢;exact ⟨⟨h.1,hne⟩,h.2⟩
theorem G8.kill {G:Gh}{I:S4}{N:Nat->Prop}{w:World}(id:Nat):∀ (l:List b6) (xs:List Value),G8 G I N w l xs->G8 G I (fun i=>N i/\i≠id) w (J0 id l) xs
 |[],_,h=>by simpa [J0,G8] using h
 |a::as,xs,h=>by
  simp only [J0,G8] at h ⊢;obtain ⟨x,xs',h1,h2,h3⟩:=h;exact ⟨x,xs',h1,VR.kill id _ a x h2,G8.kill id as xs' h3⟩
end
mutual
theorem VR.low {G:Gh}{I:S4}{N:Nat->Prop}{w:World}(n:Nat):∀ (pl:Place) (a:b6) (x:Value),a.N7<=n->VR G I N w pl a x->VR G I (fun i=>N i/\i<n) w pl a x
 |_,.any,_,_,_=>by simp [VR]
 |_,.d _,_,_,h=>by simpa [VR] using h
 |_,.ptr i o,x,hb,h=>by simp only [b6.N7] at hb;simp only [VR] at h ⊢;exact ⟨⟨h.1,by omega⟩,h.2⟩
 |_,.Q9 _,_,_,h=>by simpa [VR] using h
 |_,.E3 i z lo n',x,hb,h=>by simp only [b6.N7] at hb;simp only [VR] at h ⊢;exact ⟨⟨h.1,by omega⟩,h.2⟩
 |_,.own _ _ _,_,_,h=>by simpa only [VR] using h
 |_,.J6,_,_,h=>by simpa only [VR] using h
 |_,.agg l,x,hb,h=>by
  simp only [b6.N7] at hb;simp only [VR] at h ⊢;obtain ⟨cs,h1,h2⟩:=h;exact ⟨cs,h1,G8.low n l _ hb h2⟩
 |_,.tuple l,x,hb,h=>by
  simp only [b6.N7] at hb;simp only [VR] at h ⊢;obtain ⟨cs,h1,h2⟩:=h;exact ⟨cs,h1,G8.low n l _ hb h2⟩
 |_,.func f a b,x,hb,h=>by
  simp only [b6.N7] at hb;simp only [VR] at h ⊢;obtain ⟨u,v,h1,h2,h3⟩:=h;exact ⟨u,v,h1,G8.low n a _ (by omega) h2,G8.low n b _ (by omega) h3⟩
 |_,.map i,x,hb,h=>by simp only [b6.N7] at hb;simp only [VR] at h ⊢;exact ⟨⟨h.1,by omega⟩,h.2⟩
theorem G8.low {G:Gh}{I:S4}{N:Nat->Prop}{w:World}(n:Nat):∀ (l:List b6) (xs:List Value),A9 l<=n->G8 G I N w l xs->G8 G I (fun i=>N i/\i<n) w l xs
 |[],_,_,h=>by simpa [G8] using h
 |a::as,xs,hb,h=>by
  simp only [A9] at hb;simp only [G8] at h ⊢;obtain ⟨x,xs',h1,h2,h3⟩:=h;exact ⟨x,xs',h1,VR.low n _ a x (by omega) h2,G8.low n as xs' (by omega) h3⟩
end
section
variable {P:Program} {X:Cx} {l:H7} {S:Nat->Prop} {st:F0} {a:Act} {w w' :World} {G:Gh} {I:S4} {N:Nat->Prop} {D:Nat->Bool} {j4:List n9}
theorem ER.kill (id:Nat):∀ (es:List (Data×b6)) (xs:List MapEntry),ER G I N w es xs->ER G I (fun i=>N i/\i≠id) w (es.map fun p=>(p.1,p.2.kill id)) xs
 |[],_,h=>by simpa [ER] using h
 |(k,v)::r,xs,h=>by
  simp only [H8,ER] at h ⊢;obtain ⟨e,es',h1,h2,h3,h4⟩:=h;exact ⟨e,es',h1,h2,VR.kill id _ v _ h3,ER.kill id r es' h4⟩
theorem ER.low (n:Nat):∀ (es:List (Data×b6)) (xs:List MapEntry),A9 (es.map (·.2))<=n->ER G I N w es xs->ER G I (fun i=>N i/\i<n) w es xs
 |[],_,_,h=>by simpa [ER] using h
 |(k,v)::r,xs,hb,h=>by
  simp only [H8,A9] at hb;simp only [ER] at h ⊢;obtain ⟨e,es',h1,h2,h3,h4⟩:=h;exact ⟨e,es',h1,h2,VR.low n _ v _ (by omega) h3,ER.low n r es' (by omega) h4⟩
theorem eu (id:Nat):∀ (l:List b6) (i:Nat),(J0 id l)[i]? =(l[i]?).map (b6.kill id)
 |[],i=>by simp [J0]
 |v::vs,0=>by simp [J0]
 |v::vs,i+1=>by simp [J0,eu id vs i]
theorem M4 (id:Nat)(l:List b6):(J0 id l).length=l.length:=by
 induction l with
 |nil=>rfl
 |cons v vs ih=>simp [J0,ih]
theorem sH (id:Nat)(l:List b6)(i:Nat):(J0 id l).getD i .any=(l.getD i .any).kill id:=by
 simp only [List.getD,eu];cases l[i]? <;>simp [b6.kill]
mutual
theorem Dd (id:Nat):∀ (a:b6),(a.kill id).N7<=a.N7
 | .any=>by simp [b6.kill]
 | .d _=>by simp [b6.kill]
 | .ptr i o=>by unfold b6.kill;split<;>simp [b6.N7]
 | .Q9 _=>by simp [b6.kill]
 | .E3 i z lo n=>by unfold b6.kill;split<;>simp [b6.N7]
 | .own _ _ _=>by simp [b6.kill]
 | .J6=>by simp [b6.kill]
 | .agg l=>by simp only [b6.kill,b6.N7];exact cB id l
 | .tuple l=>by simp only [b6.kill,b6.N7];exact cB id l
 | .func f a b=>by
  simp only [b6.kill,b6.N7];have:=cB id a;have:=cB id b;omega
 | .map i=>by unfold b6.kill;split<;>simp [b6.N7]
theorem cB (id:Nat):∀ (l:List b6),A9 (J0 id l)<=A9 l
 |[]=>by simp [J0]
 |v::vs=>by
  simp only [J0,A9];have:=Dd id v;have:=cB id vs;omega
end
theorem zq (id:Nat):∀ (es:List (Data×b6)),A9 ((es.map fun p=>(p.1,p.2.kill id)).map (·.2))<=A9 (es.map (·.2))
 |[]=>by simp
 |(k,v)::r=>by
  simp only [H8,A9];have:=Dd id v;have:=zq id r;omega
theorem zW (id:Nat)(o:z6):(o.kill id).N7<=o.N7:=by
 cases o with
 |dead=>simp [z6.kill]
 |cells l=>simpa [z6.kill,z6.N7] using cB id l
 |map es=>simpa only [z6.kill,z6.N7] using zq id es
theorem OR.kill (id:Nat){id' :Nat}(hne:id' ≠id)(o:z6)(h:OR G I N w id' o):OR G I (fun i=>N i/\i≠id) w id' (o.kill id):=by
 cases o with
 |dead=>simp [z6.kill,OR]
 |cells l0 =>
  simp only [z6.kill,OR] at h ⊢;obtain ⟨hN,c,e,f,h1,h2,h3,h4,h5⟩:=h
  ·refine ⟨⟨hN,hne⟩,c,e,f,h1,h2,h3,by rw [M4];exact h4,fun i x hx=> ?_⟩
   rw [eu] at hx;cases hl:l0[i]? with
   |none=>simp [hl] at hx
   |some y =>
    simp [hl] at hx;subst hx;obtain ⟨v,g1,g2⟩:=h5 i y hl;exact ⟨v,g1,VR.kill id _ y v g2⟩
 |map es =>
  simp only [z6.kill,OR] at h ⊢;obtain ⟨hN,arr,Dj,h1,h2,h3⟩:=h;exact ⟨⟨hN,hne⟩,arr,Dj,h1,h2,ER.kill id es _ h3⟩
theorem pY:∀ (l:List b6) (i:Nat) (x:b6),l[i]? =some x->x.N7<=A9 l
 |[],_,_,h=>by simp at h
 |v::vs,0,x,h=>by simp at h;subst h;simp only [A9];omega
 |v::vs,i+1,x,h=>by have:=pY vs i x (by simpa using h);simp only [A9];omega
theorem OR.low {id n:Nat}(hn:id<n)(o:z6)(hb:o.N7<=n)(h:OR G I N w id o):OR G I (fun i=>N i/\i<n) w id o:=by
 cases o with
 |dead=>simp [OR]
 |cells l0 =>
  simp only [OR] at h ⊢;obtain ⟨hN,c,e,f,h1,h2,h3,h4,h5⟩:=h
  ·refine ⟨⟨hN,hn⟩,c,e,f,h1,h2,h3,h4,fun i x hx=> ?_⟩
   obtain ⟨v,g1,g2⟩:=h5 i x hx;exact ⟨v,g1,VR.low n _ x v (by simp only [z6.N7] at hb;exact Nat.le_trans (pY _ _ _ hx) hb) g2⟩
 |map es =>
  simp only [OR] at h ⊢;obtain ⟨hN,arr,Dj,h1,h2,h3⟩:=h;exact ⟨⟨hN,hn⟩,arr,Dj,h1,h2,ER.low n es _ (by simpa [z6.N7] using hb) h3⟩
end
section
variable {P:Program} {X:Cx} {l:H7} {S:Nat->Prop} {st:F0} {a:Act} {w w' :World} {G G' :Gh} {I I' :S4} {N:Nat->Prop} {D:Nat->Bool} {j4:List n9}
def nD (H:o6)(base id:Nat)(o:z6):o6:=(H.take base++(H.drop base).map (z6.kill id)).set id o
theorem hU {H:o6}{base id:Nat}{o:z6}(hid:id<H.length){id' :Nat}{o' :z6}(h:(nD H base id o)[id']? =some o') :
  (id' =id/\o' =o)\/(id' ≠id/\id' <base/\H[id']? =some o')\/(id' ≠id/\base<=id' /\∃ o0,H[id']? =some o0/\o' =o0.kill id):=by
 unfold nD at h;have hlen:(H.take base++(H.drop base).map (z6.kill id)).length=H.length:=by simp;omega
 by_cases he:id' =id
 ·subst he
  rw [E0 (by rw [hlen];exact hid)] at h;cases h;exact Or.inl ⟨rfl,rfl⟩
 ·rw [s8 (fun e=>he e.symm)] at h
  by_cases hb:id' <base
  ·by_cases hl:id' <H.length
   ·rw [p7 (by simp;omega),List.getElem?_take_of_lt hb] at h
    exact Or.inr (Or.inl ⟨he,hb,h⟩)
   ·rw [q9 (by rw [hlen];omega)] at h;cases h
  ·by_cases hl:base<=H.length
   ·rw [q8 (by simp;omega)] at h
    simp only [List.length_take,List.getElem?_map,List.getElem?_drop] at h;rw [show base+(id' - min base H.length)=id' from by omega] at h;cases h0:H[id']? with
    |none=>simp [h0] at h
    |some o0=>simp [h0] at h;exact Or.inr (Or.inr ⟨he,by omega,o0,rfl,h.symm⟩)
   ·rw [q9 (by rw [hlen];omega)] at h;cases h
theorem cz.Nk (h:RI X l S st a w G I N){k:Nat}(hk:¬ S k)(aq:k<st.L.length){entry id:Nat}{o0:z6}(h0:st.H[id]? =some o0)(hbase:l.base<=id)(au3:entry<=id)(hmay:l.may id=true)
  (hx:Ext G w G' w') (hkp:∀ q,aN q G w G' w') (ho:∀ id',id' ≠id->∀ b,G b= .obj id' ->G' b= .obj id' /\w'.heap[b]? =w.heap[b]?) (hwf:WF G' w') (hI:∀ i,i≠id->I' i=I i)
  {cs:List b6} (Ra:OR G' I' N w' id (.cells cs)) (lU:A9 cs<=max o0.N7 (id+1)) {v:b6} {x:Value} (hv:VR G' I' N w' (.loc k) v x) (n7:List Touch) (BJ:n7.any (Touch.K1 id)=true) :
  cz X l S entry st a w G I N (put { T:=J0 id st.T,H:=nD st.H l.base id (.cells cs),L:=J0 id st.L,n7 } k v) k x w' G' I' N:=by
 have hid:=o4 h0;have hI' :∀ i,(N i/\i≠id)->I' i=I i:=fun i hi=>hI i hi.2
 have hNN:∀ i,(N i/\i≠id)->N i:=fun i hi=>hi.1
 have vr:∀ {pl:Place} {b:b6} {u:Value},VR G I N w pl b u->VR G' I' N w' pl (b.kill id) u :=
  fun hb=>VR.mono hx hI' hNN _ _ _ (Or.inr (hkp _)) (VR.kill id _ _ _ hb)
 refine ⟨⟨?_,?_,?_,hwf,?_⟩,?_,hx,?_,?_,?_,fun _ h=>h,?_,?_⟩
 ·intro s t ht
  simp only [z7.put,sH];exact vr (h.T s t ht)
 ·intro j hj d hd hn
  have:k≠j:=by rintro rfl;exact hk hj
  simp only [z7.put];rw [H6 _ _ _ _ _ this,sH];exact vr (h.L j hj d hd hn)
 ·intro id' o' ho'
  simp only [z7.put] at ho'
  rcases hU hid ho' with ⟨rfl,rfl⟩|⟨hne,hb,hold⟩|⟨hne,hb,o1,hold,rfl⟩
  ·exact Ra
  ·have MV:=OR.low (n:=l.base) hb o' ((h.U6 id' o' hold).2 hb) (h.H id' o' hold)
   exact OR.mono hx (fun i hi=>hI i (by have:=hi.2;omega)) (fun i hi=>hi.1) id' o' (fun hb' =>ho id' hne _ hb') (fun _=>hkp _) MV
  ·exact OR.mono hx hI' hNN id' _ (fun hb' =>ho id' hne _ hb') (fun _=>hkp _) (OR.kill id hne o1 (h.H id' o1 hold))
 ·intro id' o' ho'
  simp only [z7.put] at ho'
  rcases hU hid ho' with ⟨rfl,rfl⟩|⟨hne,hb,hold⟩|⟨hne,hb,o1,hold,rfl⟩
  ·obtain ⟨d1,d2⟩:=h.U6 id' o0 h0
   refine ⟨fun hs=> ?_,fun hb=>by omega⟩;have:=d1 hs;simp only [z6.N7];omega
  ·exact h.U6 id' o' hold
  ·obtain ⟨d1,d2⟩:=h.U6 id' o1 hold
   have:=zW id o1;exact ⟨fun hs=>by have:=d1 hs;omega,fun hb=>by have:=d2 hb;omega⟩
 ·simp only [z7.put]
  rw [L8 _ _ _ _ (by rw [M4];exact aq)];exact hv
 ·intro id' hm
  have hne:id' ≠id:=by rintro rfl;rw [hmay] at hm;cases hm
  exact ⟨ho id' hne,fun off=>hkp _⟩
 ·intro id' _ ht
  have hne:id' ≠id:=by rintro rfl;simp only [z7.put] at ht;rw [BJ] at ht;cases ht
  exact ⟨hI id' hne,ho id' hne⟩
 ·intro id' hlt _
  exact hI id' (by omega)
 ·simp only [z7.put,nD];simp;omega
 ·intro id' o' hb ho'
  simp only [z7.put] at ho'
  rcases hU hid ho' with ⟨rfl,rfl⟩|⟨hne,hb',hold⟩|⟨hne,hb',o1,hold,rfl⟩
  ·omega
  ·exact Or.inr ⟨o',hold,k9 _⟩
  ·omega
theorem DZ {cs:List b6}{vs:List Value}(h:cs.all b6.one=true)(hv:G8 G I N w cs vs):Hl vs:=kG _ _ h hv
theorem yT (h:RI X l S st a w G I N)(hD:∀ j,D j=true->S j){k:Nat}(hk:¬ S k)(aq:k<st.L.length){o:Oper}{sz bytes:Nat}{ob:Bool}{x y:u5}
  (hc:fR P (X.ck D) o (.append sz bytes ob x y)=true) {E:Env} (hE:E.lim=l) {id lo len:Nat} (hx:F8 st.T st.L x= .E3 id sz lo len) {st' :F0} (he:W9 E k sz bytes st id lo len (F8 st.T st.L y)=some st') :
  ∃ v w' G' I',(execOp a.eval o).run P w= .ok (.value v) w' /\cz X l S E.entry st a w G I N st' k v w' G' I' N:=by
 obtain ⟨x0,y0,t,t2,e,i,z,hop,YC,YD,ht2,hsz,hu,hi,hsi,QN,hz,hzs,YA⟩:=fy hc;unfold W9 at he;rw [hE] at he;split at he
 ·rename_i aK
  split at he
  ·rename_i l0 m cs hl0 hcs
   split at he
   ·rename_i GM
    obtain ⟨rfl,hlen,hroom,at5,hone,_⟩:=GM;cases he;obtain ⟨vn,hl,hf,Nb,hcl⟩:=tc (P:=P) h.H (h.T6 hD _ _ YD) hsz hcs;have hval:=h.T6 hD _ _ YC;rw [hx] at hval;simp only [VR] at hval;obtain ⟨QM,cap,hx0,hcap,c,e',f,hb,Lh⟩:=hval;have jo:(execOp a.eval o).run P w=((Builtin.append_ #[t,t2] o.type #[a.eval x0,a.eval y0]).run P w).andThen fun v w' => .ok (.value v) w' :=by
     obtain ⟨dst,bK,ty,pos,after,guard⟩:=o;simp only at hop;subst hop;simp [execOp,resolve,invoke,builtin]
    have tN:vn.length=m * sz:=by rw [G8.length _ _ Nb,hcl]
    subst hsi QN;have hO:=h.H id _ hl0;simp only [OR] at hO;obtain ⟨_,c0,e0,f0,h1,GO,hnf,bc5,h5⟩:=hO;rw [hb] at h1;cases h1;have lU:A9 (J0 id l0++cs)<=max (z6.cells l0).N7 (id+1):=by
     rw [cA];have:=cB id l0;simp only [z6.N7];omega
    have MW:=DZ hone Nb;have vrk:∀ {pl:Place} {b:b6} {u:Value},VR G I N w pl b u->VR G I N w pl (b.kill id) u :=
     fun hb=>VR.mono (Ext.refl _ _).sub (fun _ _=>rfl) (fun i hi=>hi.1) _ _ _ (Or.inr (fun _ _ h=>⟨h,rfl⟩)) (VR.kill id _ _ _ hb)
    by_cases hfit:len+m<=cap
    ·
     have hrun:=eG (P:=P) (w:=w) (ty:=o.type) hu hi ht2 (base:=some (ad (I id).1 ((I id).2+0))) (sLen:=len) (sCap:=cap) hl (hf w rfl) hfit;have hbig:(len+m) * i.size<=cap * i.size:=Nat.mul_le_mul_right _ hfit;rw [Nat.add_mul] at hbig;have aw1:(I id).2+len * i.size+vn.length<=c.size:=by omega
     have hst:=run_storeCells_at (P:=P) (I id).1 ((I id).2+0+len * i.size) e' f vn 0 c w hb hnf (by omega) MW;have qx :(I id).2+0+len * i.size+vn.length<=c.toList.length:=by simp;omega
     have oU :(K8 c.toList ((I id).2+0+len * i.size) vn).toArray.size=c.size:=by rw [List.size_toArray,mK _ _ _ qx,Array.length_toList]
     have hw:=Av (G:=G) hb GO oU;refine ⟨.slice (some (ad (I id).1 ((I id).2+0))) (len+m) cap,w.setRow (I id).1 (K8 c.toList ((I id).2+0+len * i.size) vn).toArray,G,I,?_,
      cz.Nk h hk aq hl0 aK.1 aK.2.1 aK.2.2 hw.ext hw.keeps (fun id' hne=>hw.wO hne) (fun b' hb' =>h.wf b' (by rw [<- hw.size];exact hb')) (fun _ _=>rfl) ?_ lU ?_ (.obj id::st.n7) (by simp [Touch.K1])⟩
     ·rw [jo,hx0,hrun]
      simp only [Z9];simp only [Nat.add_zero] at hst ⊢;rw [hst];rfl
     ·simp only [OR]
      have mono:∀ {pl:Place} {b:b6} {u:Value},VR G I N w pl b u->VR G I N (w.setRow (I id).1 (K8 c.toList ((I id).2+0+len * i.size) vn).toArray) pl b u :=
       fun hq=>VR.mono hw.ext (fun _ _=>rfl) (fun _ h=>h) _ _ _ (Or.inr (hw.keeps _)) hq
      refine ⟨QM,_,e',f,setRow_heap w _ c _ e' f hb,GO,by rw [oU];exact hnf,?_,fun j b hj=> ?_⟩
      ·rw [oU,C1,M4,hcl];omega
      ·rw [show (K8 c.toList ((I id).2+0+len * i.size) vn).toArray[(I id).2+j]? =(K8 c.toList ((I id).2+0+len * i.size) vn)[(I id).2+j]? from by simp,iu _ _ _ qx]
       have hjl:=o4 hj;rw [C1,M4,hcl] at hjl
       by_cases Td:j<l0.length
       ·rw [p7 (by rw [M4];exact Td),eu] at hj
        rw [if_pos (by omega)];rw [o8 Td] at hj;simp at hj;subst hj;obtain ⟨v,g1,g2⟩:=h5 j _ (o8 Td);exact ⟨v,by simpa using g1,mono (vrk g2)⟩
       ·rw [q8 (by rw [M4];omega),M4] at hj
        rw [if_neg (by omega),if_pos (by omega)];obtain ⟨u,r1,r2⟩:=G8.get _ _ Nb (j - l0.length) b hj;exact ⟨u,by rw [show (I id).2+j - ((I id).2+0+len * i.size)=j - l0.length from by omega];exact r1,mono r2.place⟩
     ·simp only [VR]
      exact ⟨QM,cap,rfl,hfit,_,e',f,setRow_heap w _ c _ e' f hb,by rw [oU];exact Lh⟩
    ·
     have hlt:cap<len+m:=by omega
     have YV:∃ vo:List Value,vo.length=len * i.size/\(∀ w2:World,w2.heap=w.heap->(Builtin.firstCells i.size len (.slice (some (ad (I id).1 ((I id).2+0))) len cap)).run P w2= .ok vo.toArray w2) /\
       (∀ (j:Nat) b,l0[j]? =some b->∃ v,vo[j]? =some v/\VR G I N w (.cell id j) b v):=by
      refine ⟨(List.range (len * i.size)).map (fun j=>(c[(I id).2+j]?).getD default),by simp,fun w2 IA=> ?_,fun j b hj=> ?_⟩
      ·have:=run_loadCells_list (P:=P) w2 (ad (I id).1 ((I id).2+0)) ((List.range (len * i.size)).map (fun j=>(c[(I id).2+j]?).getD default)) (fun j v hj=>by
        have hjn:j<len * i.size:=by
         rcases p9 j (len * i.size) with h|h
         ·exact h
         ·simp [h] at hj
        simp [hjn] at hj;rw [Z9,fQ IA,T4 hb];have hlt:(I id).2+j<c.size:=by omega
        simp [hlt] at hj ⊢;exact hj)
       simpa [Builtin.firstCells] using this
      ·have hjn:j<len * i.size:=by have:=o4 hj;omega
       obtain ⟨u,g1,g2⟩:=h5 j b hj;exact ⟨u,by simp [hjn,g1],g2⟩
     obtain ⟨vo,ax6,ax7,ax8⟩:=YV;obtain ⟨gQ,zK,hrun⟩:=gC (P:=P) (w:=w) (ty:=o.type) hu hi hz ht2 (base:=some (ad (I id).1 ((I id).2+0))) (sLen:=len) (sCap:=cap) hl (hf w.drew rfl) (ax7 w.drew rfl) hlt (Cg hroom YA) (sU hroom hlt);have hnb:iY w (w.drew.alloc (.cells (vo.toArray++vn.toArray++Builtin.zeroCells z.cells (gQ - (len+m))) e)) (.cells (vo.toArray++vn.toArray++Builtin.zeroCells z.cells (gQ - (len+m))) e):=by
      have:=iY.alloc w.drew (.cells (vo.toArray++vn.toArray++Builtin.zeroCells z.cells (gQ - (len+m))) e);exact ⟨this.os,this.tape,this.output,this.size,this.old,this.new⟩
     have hsize:(vo.toArray++vn.toArray++Builtin.zeroCells z.cells (gQ - (len+m))).size=gQ * i.size:=by
      simp only [Array.size_append,List.size_toArray,vi,hzs,ax6,tN];have:gQ * i.size=(len+m) * i.size+(gQ - (len+m)) * i.size:=by rw [<- Nat.add_mul];congr 1;omega
      rw [this,Nat.add_mul]
     refine ⟨.slice (some (ad w.heap.size 0)) (len+m) gQ,_,kU G w.heap.size (.obj id),yb I id (w.heap.size,0),?_,
      cz.Nk h hk aq hl0 aK.1 aK.2.1 aK.2.2 (hnb.ext h.wf _) (hnb.keeps h.wf _) (fun id' _=>hnb.wO h.wf _ id') (hnb.wf h.wf _) (fun i hi=>eB hi) ?_ lU ?_ (.obj id::st.n7) (by simp [Touch.K1])⟩
     ·rw [jo,hx0,hrun];rfl
     ·simp only [OR]
      have mono:∀ {pl:Place} {b:b6} {u:Value},VR G I N w pl b u->VR (kU G w.heap.size (.obj id)) (yb I id (w.heap.size,0)) N _ pl (b.kill id) u :=
       fun hq=>VR.mono (hnb.ext h.wf _).sub (fun i hi=>eB hi.2) (fun i hi=>hi.1) _ _ _ (Or.inr (hnb.keeps h.wf _ _)) (VR.kill id _ _ _ hq)
      refine ⟨QM,_,e,(0,0),by rw [cP];exact hnb.new,by simp,sv _,?_,fun j b hj=> ?_⟩
      ·rw [hsize]
       simp only [cP,C1,M4,hcl];have:(len+m) * i.size<=gQ * i.size:=Nat.mul_le_mul_right _ zK;rw [Nat.add_mul] at this;omega
      ·have hjl:=o4 hj
       rw [C1,M4,hcl] at hjl;simp only [cP,Nat.zero_add];rw [show (vo.toArray++vn.toArray++Builtin.zeroCells z.cells (gQ - (len+m)))[j]? =(vo++vn++(Builtin.zeroCells z.cells (gQ - (len+m))).toList)[j]? from by rw [<- Array.getElem?_toList];simp,
        p7 (by rw [C1];omega)]
       by_cases Td:j<l0.length
       ·rw [p7 (by rw [M4];exact Td),eu] at hj
        rw [p7 (by omega)];rw [o8 Td] at hj;simp at hj;subst hj;obtain ⟨v,g1,g2⟩:=ax8 j _ (o8 Td);exact ⟨v,g1,mono g2⟩
       ·rw [q8 (by rw [M4];omega),M4] at hj
        rw [q8 (by omega)];obtain ⟨u,r1,r2⟩:=G8.get _ _ Nb (j - l0.length) b hj;refine ⟨u,by rw [show j - vo.length=j - l0.length from by omega];exact r1,?_⟩;have hb' :b.N7<=id:=Nat.le_trans (pY _ _ _ hj) at5;exact (VR.mono (hnb.ext h.wf _).sub (fun i hi=>eB (by have:=hi.2;omega)) (fun i hi=>hi.1) _ _ _ (Or.inl rfl) (VR.low id _ _ _ hb' r2)).place
     ·simp only [VR]
      refine ⟨QM,gQ,by simp,zK,_,e,(0,0),by rw [cP];exact hnb.new,?_⟩;rw [hsize];simp
   ·cases he
  ·cases he
 ·cases he
end
section
variable {P:Program} {X:Cx} {l:H7} {S:Nat->Prop} {st:F0} {a:Act} {w w' :World} {G G' :Gh} {I I' :S4} {N:Nat->Prop} {D:Nat->Bool} {j4:List n9}
def Gz (P:Program)(ck:Operand->u5->Bool)(o:Oper)(op:y6):Bool :=
 match o.op,op with
 | .mapUpdate t m k v,.dn kk m' k' v' =>ck m m' &&ck k k' &&ck v v' &&(match P.underlying t with
  |some (.map kt _)=>bI P kt kk
  |_=>false)
 |_,_=>false
theorem GU {kk:CK}{a b:Data}(h:Data.Z0 kk a b=some true):a=b:=by
 unfold Data.Z0 at h;split at h
 ·split at h
  ·rename_i hk
   subst hk;simp at h;subst h;rfl
  ·cases h
 ·simp at h;subst h;rfl
 ·simp at h;subst h;rfl
 ·cases h
theorem IE {kk:CK}{a:Data}{r:Bool}(h:Data.Z0 kk a a=some r){u v:Value}(hu:DR G w a u)(hv:DR G w a v):u=v/\Instr.sameBits 10000 u v=true:=by
 unfold Data.Z0 at h;split at h
 ·simp only [DR] at hu hv
  subst hu hv;exact ⟨rfl,by simp [Instr.sameBits]⟩
 ·simp only [DR] at hu hv
  subst hu hv;exact ⟨rfl,by simp [Instr.sameBits,beq_toListBytes]⟩
 ·simp only [DR] at hu hv
  subst hu hv;exact ⟨rfl,by simp [Instr.sameBits]⟩
 ·cases h
theorem IW {kk:CK}{t:TypeId}{d:TypeDesc}(ht:bI P t kk=true)(hd:P.underlying t=some d){key:Data}{u:Value}(hu:DR G w key u)(hkk:Data.Z0 kk key key=some true){nv:b6}{x:Value}(hx:VR G I N w .none nv x) :
  ∀ (es:List (Data×b6)) (xs:List MapEntry) (i:Nat) (es' :List (Data×b6)),ER G I N w es xs->cg kk key nv es=some es' ->
   (Instr.findNow d u xs i=some none/\∀ born,ER G I N w es' (xs++[{ key:=u,val:=x,born }])) \/
   (∃ j v0,Instr.findNow d u xs i=some (some (i+j,v0))/\(∃ e0,xs[j]? =some e0/\e0.key=u)/\ER G I N w es' (xs.modify j fun e=>{ e with key:=u,val:=x }))
 |[],xs,i,es',hE,h=>by
  simp [ER] at hE;subst hE;simp [cg] at h;subst h;refine Or.inl ⟨rfl,fun born=> ?_⟩;simp only [List.nil_append,ER];exact ⟨_,[],rfl,hu,hx,rfl⟩
 |(k',v')::rest,xs,i,es',hE,h=>by
  simp only [ER] at hE;obtain ⟨e,ys,rfl,h2,h3,h4⟩:=hE;unfold cg at h;split at h
  ·rename_i hk
   simp at h;subst h;have he:=GU hk;subst he;obtain ⟨huv,_⟩:=IE hkk hu h2;refine Or.inr ⟨0,e.val,by simp [Instr.findNow,jr hk hu h2 ht hd],⟨e,rfl,huv.symm⟩,?_⟩;simp only [List.modify_zero_cons,ER];exact ⟨_,ys,rfl,hu,hx,h4⟩
  ·rename_i hk
   split at h
   ·rename_i r' hr
    simp at h;subst h
    rcases IW ht hd hu hkk hx rest ys (i+1) r' h4 hr with ⟨g1,g2⟩|⟨j,v0,g1,g2,g3⟩
    ·refine Or.inl ⟨by simp [Instr.findNow,jr hk hu h2 ht hd,g1],fun born=> ?_⟩
     simp only [D9,ER];exact ⟨e,_,rfl,h2,h3,g2 born⟩
    ·refine Or.inr ⟨j+1,v0,?_,by simpa using g2,?_⟩
     ·simp only [Instr.findNow,jr hk hu h2 ht hd,g1]
      rw [show i+1+j=i+(j+1) from by omega]
     ·simp only [List.modify_succ_cons,ER]
      exact ⟨e,_,rfl,h2,h3,g3⟩
   ·cases h
  ·cases h
theorem vD {kk:CK}{key:Data}{nv:b6}:∀ (es es' :List (Data×b6)),cg kk key nv es=some es' ->A9 (es'.map (·.2))<=max (A9 (es.map (·.2))) nv.N7
 |[],es',h=>by simp [cg] at h;subst h;simp [A9]
 |(k',v')::rest,es',h=>by
  unfold cg at h;split at h
  ·simp at h;subst h
   simp only [H8,A9];omega
  ·split at h
   ·rename_i r' hr
    simp at h;subst h;have:=vD rest r' hr;simp only [H8,A9];omega
   ·cases h
  ·cases h
theorem GD (h:RI X l S st a w G I N)(hD:∀ j,D j=true->S j){k:Nat}(hk:¬ S k)(aq:k<st.L.length)(entry:Nat){o:Oper}{kk:CK}{m ky v:u5}(hc:Gz P (X.ck D) o (.dn kk m ky v)=true){E:Env}(hE:E.lim=l)
  {st' :F0} (he:T0 E k kk st (F8 st.T st.L m) (F8 st.T st.L ky) (F8 st.T st.L v)=some st'):∃ w',(execOp a.eval o).run P w= .ok .skip w' /\cz X l S entry st a w G I N st' k undef w' G I N:=by
 obtain ⟨dst,bK,ty,pos,after,guard⟩:=o;cases bK<;>simp only [Gz,b5] at hc<;>try (cases hc;done)
 rename_i t m' k' v';obtain ⟨⟨⟨hm,hky⟩,hv⟩,ht⟩:=hc;have h1:=h.T6 hD _ _ hm;have h2:=h.T6 hD _ _ hky;have h3:=h.T6 hD _ _ hv;split at ht
 ·rename_i kt et hu
  obtain ⟨dk,hdk⟩:∃ d,P.underlying kt=some d:=by
   cases hd:P.underlying kt with
   |none=>cases kk<;>simp [bI,hd] at ht
   |some d=>exact ⟨d,rfl⟩
  unfold T0 at he;split at he
  ·rename_i id kd hp hq
   rw [hp] at h1;rw [hq] at h2;simp only [VR] at h1 h2;split at he
   ·rename_i es SZ
    split at he
    ·rename_i aK
     split at he
     ·rename_i hkk
      split at he
      ·rename_i es' YI
       cases he;have hO:=h.H id _ SZ;simp only [OR] at hO;obtain ⟨hN,arr,Dj,g1,g2,g3⟩:=hO;have UQ:(getObj (I id).1).run P w= .ok (.map arr Dj) w:=by simp [getObj,Sem.run,g1]
       have hlt:(I id).1<w.heap.size:=by
        rcases p9 (I id).1 w.heap.size with h|h
        ·exact h
        ·rw [Array.getElem?_eq_none h] at g1;cases g1
       have lZ:∀ ob:Obj,(setObj (I id).1 ob).run P w= .ok () { w with heap:=w.heap.setIfInBounds (I id).1 ob }:=by
        intro ob;simp [setObj,Sem.run,g1]
       have wrote:∀ ob:Obj,nR id (I id).1 w { w with heap:=w.heap.setIfInBounds (I id).1 ob } G:=by
        intro ob;refine ⟨g2,rfl,rfl,rfl,by simp,fun b' hne=> ?_,fun c e f hc=> ?_⟩
        ·simp [Array.getElem?_setIfInBounds_ne (fun e=>hne e.symm)]
        ·rw [g1] at hc;cases hc
       have lU:(z6.map es').N7<=max (z6.map es).N7 (id+1)\/(l.base<=id/\l.strict<=id):=by
        left;have:=vD es es' YI;simp only [z6.N7];have:=aK.1;omega
       have fin:∀ (Mr :Array MapEntry) (Qx :Nat),ER G I N w es' Mr.toList->cz X l S entry st a w G I N (put { st with H:=st.H.set id (.map es'),n7:= .obj id::st.n7 } k .any) k undef { w with heap:=w.heap.setIfInBounds (I id).1 (.map Mr Qx) } G I N:=by
        intro Mr Qx hER;have hw:=wrote (.map Mr Qx);refine cz.write h hk aq entry hw SZ ?_ (by rw [<- hE];exact aK.2) lU (fun _=>Iff.rfl) (by simp [VR]) (.obj id::st.n7) (by simp [Touch.K1]);simp only [OR];exact ⟨hN,Mr,Qx,by simp [hlt],g2,ER.mono hw.ext (fun _ _=>rfl) (fun _ h=>h) _ _ hER⟩
       rcases IW (P:=P) ht hdk h2 hkk h3 es arr.toList 0 es' g3 YI with ⟨f1,f2⟩|⟨j,v0,f1,⟨e0,f2,f2'⟩,f3⟩
       ·have Tc:(Instr.findKey kt (a.eval k') arr.toList).run P w= .ok none w:=by simp [Instr.findKey,run_underlying hdk,f1]
        refine ⟨_,?_,fin (arr.push { key:=a.eval k',val:=a.eval v',born:=Dj }) (Dj+1) (by simpa using f2 Dj)⟩;simp [execOp,h1.2,Instr.mapUpdate,run_underlying hu,UQ,aP ht,Tc,lZ]
       ·have Tc:(Instr.findKey kt (a.eval k') arr.toList).run P w= .ok (some (0+j,v0)) w:=by simp [Instr.findKey,run_underlying hdk,f1]
        have hkeep:(Instr.keyThatStays (((arr[0+j]?).map (·.key)).getD (a.eval k')) (a.eval k')).run P w= .ok (a.eval k') w:=by
         have e1:arr[0+j]? =some e0:=by simpa using f2
         have Mk:=(IE hkk h2 h2).2;rw [e1];simp only [F1,Option.getD_some,f2',Instr.keyThatStays,Mk,if_true,Sem.run_pure]
        refine ⟨_,?_,fin (arr.modify (0+j) fun e=>{ e with key:=a.eval k',val:=a.eval v' }) Dj (by simpa using f3)⟩;simp only [execOp,h1.2,Instr.mapUpdate,Sem.run_bind,run_underlying hu,Result.andThen_ok,UQ,aP ht,Tc,hkeep,lZ,Sem.run_pure]
      ·cases he
     ·cases he
    ·cases he
   ·cases he
  ·cases he
 ·cases ht
end
section
variable {P:Program} {X:Cx} {l:H7} {S:Nat->Prop} {st:F0} {a:Act} {w w' :World} {G G' :Gh} {I I' :S4} {N:Nat->Prop} {D:Nat->Bool} {j4:List n9}
theorem DI (h:RI X l S st a w G I N)(hpv:PV X j4 S st a w I)(hT:st.T.length=X.names.length)(hD:∀ j,D j=true->S j){x:Operand}{y:u5}(hc:X.ck D x y=true)(hn:isNil l j4 st y=true) :
  a.eval x= .slice none 0 0:=by
 unfold isNil at hn;split at hn
 ·unfold Cx.ck at hc
  split at hc
  ·simp_all
  ·simp_all
  ·rename_i v' b heq
   cases heq;have:=bF (G:=G) (I:=I) (N:=N) (w:=w) _ _ hc;simpa [VR,Act.eval] using this
  all_goals simp_all
 ·rename_i j
  have US:∃ t,x= .tmp t/\D j=true/\(X.ops[j]?).bind (·.dst)=some t/\X.names.contains t=false:=by
   unfold Cx.ck at hc;split at hc
   ·simp_all
   ·rename_i t j' heq
    cases heq;simp only [b5,beq_iff_eq,j5] at hc;exact ⟨t,rfl,hc.1.1,hc.1.2,hc.2⟩
   all_goals simp_all
  obtain ⟨t,rfl,hDj,sM,DD⟩:=US;have SY:=hD j hDj;simp only [Act.eval];split at hn
  ·rename_i hj
   have h1:=h.L j SY t sM DD;rw [X3 hj] at h1;simpa [VR] using h1
  ·rename_i n0 c0 hj
   split at hn
   ·rename_i ai hai
    unfold mz at hn;split at hn
    ·rename_i s hop
     simp only [b5,j5] at hn;obtain ⟨hun,hs⟩:=hn;split at hs
     ·rename_i hs'
      obtain ⟨ts,hts⟩:∃ ts,X.names[s]? =some ts:=by
       have:=o4 hs';exact ⟨_,o8 (by omega)⟩
      have h1:=h.T s ts hts;rw [X3 hs'] at h1;have he:=hpv.slot j ai s ts t SY (by rw [hj];simp) hai hop hts sM DD hun;rw [he];simpa [VR] using h1
     ·cases hs
    ·rename_i x' hop
     split at hn
     ·rename_i id off Na
      simp only [b5,j5] at hn;obtain ⟨⟨hun,hmay⟩,hs⟩:=hn;split at hs
      ·rename_i cs hcs
       split at hs
       ·rename_i QT
        have hO:=h.H id _ hcs;simp only [OR] at hO;obtain ⟨hN,c,e,f,g1,g2,g3,g4,g5⟩:=hO;obtain ⟨v,e1,e2⟩:=g5 off _ QT;have he:=hpv.cell j ai x' id off t cs SY (by rw [hj];simp) hai hop Na hcs (o4 QT) hun sM DD;rw [T4 g1,e1] at he;rw [<- Option.some_inj.1 he];simpa [VR] using e2
       ·cases hs
      ·cases hs
     ·cases hn
    ·cases hn
   ·cases hn
  ·cases hn
 ·cases hn
theorem yS (h:RI X l S st a w G I N)(hpv:PV X j4 S st a w I)(hT:st.T.length=X.names.length)(hD:∀ j,D j=true->S j){k:Nat}(hk:¬ S k)(aq:k<st.L.length)(entry:Nat){u9:Option Nat}(hid:CU l st N u9){o:Oper}{sz bytes:Nat}{x y:u5}
  (hc:fR P (X.ck D) o (.append sz bytes true x y)=true) {E:Env} (hE:E.lim=l) {st' :F0} (he:K5 E j4 u9 k sz bytes true st x (F8 st.T st.L y)=some st') :
  (∃ v w' G',(execOp a.eval o).run P w= .ok (.value v) w' /\cz X l S entry st a w G I N st' k v w' G' I N) \/
  ∃ v w' G' I' N' ob av,(execOp a.eval o).run P w= .ok (.value v) w' /\st' =put (J5 st u9 ob) k av/\cz X l S entry st a w G I N st' k v w' G' I' N' /\(∀ i,N' i↔N i\/i=newId st u9):=by
 obtain ⟨x0,y0,t,t2,e,i,z,hop,YC,YD,ht2,hsz,hu,hi,hsi,QN,hz,hzs,YA⟩:=fy hc;have jo:(execOp a.eval o).run P w=((Builtin.append_ #[t,t2] o.type #[a.eval x0,a.eval y0]).run P w).andThen fun v w' => .ok (.value v) w' :=by
  obtain ⟨dst,bK,ty,pos,after,guard⟩:=o;simp only at hop;subst hop;simp [execOp,resolve,invoke,builtin]
 unfold K5 at he;rw [hE] at he;simp only [if_true] at he;split at he
 ·rename_i m cs hcs
  split at he
  ·rename_i aK
   obtain ⟨hnil,hroom,_⟩:=aK;have hx0:=DI h hpv hT hD YC hnil;obtain ⟨vn,hl,hf,Nb,hcl⟩:=tc (P:=P) h.H (h.T6 hD _ _ YD) hsz hcs;have tN:vn.length=m * sz:=by rw [G8.length _ _ Nb,hcl]
   subst hsi QN;split at he
   ·rename_i hm
    subst hm;cases he;have hrun:=eG (P:=P) (w:=w) (ty:=o.type) hu hi ht2 (base:=none) (sLen:=0) (sCap:=0) hl (hf w rfl) (k9 _);refine Or.inl ⟨.slice none 0 0,w,G,?_,cz.same h hk aq entry (by simp [VR])⟩;rw [jo,hx0,hrun];rfl
   ·rename_i hm
    cases he;have hlt:0<0+m:=by omega
    obtain ⟨gQ,zK,hrun⟩:=gC (P:=P) (w:=w) (ty:=o.type) hu hi hz ht2 (base:=none) (sLen:=0) (sCap:=0) (old:= #[]) hl (hf w.drew rfl) (by simp [Builtin.firstCells]) hlt (by rw [Nat.zero_add];exact Cg hroom YA) (by rw [Nat.zero_add];exact sU hroom (by omega));rw [Nat.zero_add] at zK hrun;have hnb:iY w (w.drew.alloc (.cells (#[]++vn.toArray++Builtin.zeroCells z.cells (gQ - m)) e)) (.cells (#[]++vn.toArray++Builtin.zeroCells z.cells (gQ - m)) e):=by
     have:=iY.alloc w.drew (.cells (#[]++vn.toArray++Builtin.zeroCells z.cells (gQ - m)) e);exact ⟨this.os,this.tape,this.output,this.size,this.old,this.new⟩
    have hsize:(#[]++vn.toArray++Builtin.zeroCells z.cells (gQ - m):Array Value).size=gQ * i.size:=by
     simp only [Array.size_append,List.size_toArray,vi,hzs,tN,List.size_toArray,List.length_nil,Nat.zero_add];rw [<- Nat.add_mul];congr 1;omega
    refine Or.inr ⟨.slice (some (ad w.heap.size 0)) m gQ,_,_,_,_,.cells cs,_,by rw [jo,hx0,hrun];rfl,rfl,cz.newObj h hk aq entry hid hnb (.cells cs) ?_ ?_,fun i=>Iff.rfl⟩
    ·simp only [OR]
     refine ⟨Or.inr trivial,_,e,(0,0),by rw [cP];exact hnb.new,by simp,sv _,?_,fun j b hj=> ?_⟩
     ·rw [hsize]
      simp only [cP,hcl,Nat.zero_add];exact Nat.mul_le_mul_right _ zK
     ·simp only [cP,Nat.zero_add]
      obtain ⟨u,r1,r2⟩:=G8.get _ _ Nb j b hj;have hjl:=o4 r1;refine ⟨u,?_,?_⟩
      ·rw [show (#[]++vn.toArray++Builtin.zeroCells z.cells (gQ - m))[j]? =(vn++(Builtin.zeroCells z.cells (gQ - m)).toList)[j]? from by rw [<- Array.getElem?_toList];simp,p7 hjl]
       exact r1
      ·exact (hnb.vr h.wf _ (fun j hj=>eB (by rintro rfl;exact hid.new hj)) (fun _ h=>Or.inl h) r2).place
    ·simp only [VR]
     refine ⟨Or.inr trivial,gQ,by simp,zK,_,e,(0,0),by rw [cP];exact hnb.new,?_⟩;rw [hsize];simp
  ·cases he
 ·cases he
def vL (P:Program)(ck:Operand->u5->Bool)(o:Oper)(op:y6):Bool :=
 match o.op,op with
 | .call ⟨.builtin .clear,args,argTypes⟩,.clear sz zero y =>
  (match args.toList,argTypes.toList with
   |[x],[t]=>ck x y&&decide (0<sz)&&(match P.underlying t with
    |some (.slice e)=>(match P.info? e with
     |some i=>(match i.zero with|some z=>consts z.cells.toList zero&&z.cells.size==sz&&zero.all b6.one|none=>false)
     |none=>false)
    |_=>false)
   |_,_=>false)
 |_,_=>false
theorem Du {α:Type}(zero:List α):∀ (n i:Nat),((c9 n zero).flatten)[i]? =if i<n * zero.length then zero[i % zero.length]? else none
 |0,i=>by simp
 |n+1,i=>by
  rw [List.replicate_succ,List.flatten_cons]
  by_cases h:i<zero.length
  ·rw [p7 h,if_pos (by rw [Nat.succ_mul];omega),Nat.mod_eq_of_lt h]
  ·rw [q8 (by omega),Du zero n (i - zero.length)]
   by_cases h2:i - zero.length<n * zero.length
   ·rw [if_pos h2,if_pos (by rw [Nat.succ_mul];omega),Nat.mod_eq_sub_mod (a:=i) (b:=zero.length) (by omega)]
   ·rw [if_neg h2,if_neg (by rw [Nat.succ_mul];omega)]
theorem Dc {zero:List b6}(h:A9 zero=0):∀ n:Nat,A9 (c9 n zero).flatten=0
 |0=>by simp [A9]
 |n+1=>by rw [List.replicate_succ,List.flatten_cons,cA,h,Dc h n];rfl
theorem KV (h:RI X l S st a w G I N)(hD:∀ j,D j=true->S j){k:Nat}(hk:¬ S k)(aq:k<st.L.length)(entry:Nat){o:Oper}{sz:Nat}{zero:List b6}{y:u5}
  (hc:vL P (X.ck D) o (.clear sz zero y)=true) {E:Env} (hE:E.lim=l) {st' :F0} (he:X0 E k sz zero st (F8 st.T st.L y)=some st') :
  ∃ w',(execOp a.eval o).run P w= .ok (.value (.tuple #[])) w' /\cz X l S entry st a w G I N st' k (.tuple #[]) w' G I N:=by
 unfold vL at hc;split at hc
 ·rename_i args argTypes sz' zero' y' hop heq
  cases heq;split at hc
  ·rename_i x t ha ht
   have e1:args= #[x]:=by apply Array.toList_inj.1;simpa using ha
   have e2:argTypes= #[t]:=by apply Array.toList_inj.1;simpa using ht
   subst e1 e2;simp only [b5,decide_eq_true_eq] at hc;obtain ⟨⟨hx,hsz⟩,hc⟩:=hc;split at hc
   ·rename_i e hu
    split at hc
    ·rename_i i hi
     split at hc
     ·rename_i z hz
      simp only [b5,beq_iff_eq] at hc;obtain ⟨⟨hcs,hzs⟩,hone⟩:=hc;have jo:(execOp a.eval o).run P w=((Builtin.clear_ #[t] o.type #[a.eval x]).run P w).andThen fun v w' => .ok (.value v) w' :=by
       obtain ⟨dst,bK,ty,pos,after,guard⟩:=o;simp only at hop;subst hop;simp [execOp,resolve,invoke,builtin]
      have hv:=h.T6 hD _ _ hx;unfold X0 at he;split at he
      ·rename_i id z' lo len hy
       rw [hy] at hv;simp only [VR] at hv;obtain ⟨hN,cap,hx0,hcap,_⟩:=hv;split at he
       ·rename_i aK
        obtain ⟨rfl,hzl,hzb,hmay⟩:=aK;split at he
        ·rename_i H' hw
         cases he;obtain ⟨l0,c,e',f,g1,g2,g3,g4,g5,g6,g7,g8,g9⟩:=h.H.wr hw;have hvz:=cZ (G:=G) (I:=I) (N:=N) (w:=w) _ _ hcs
         by_cases hlen:len=0
         ·subst hlen
          have hH' :H' =st.H:=by
           rw [g2];simp only [List.replicate_zero,List.flatten_nil,splice,List.length_nil,Nat.add_zero,List.append_nil,List.take_append_drop];apply List.ext_getElem?;intro j
           by_cases hj:id=j
           ·subst hj;rw [E0 (o4 g1),g1]
           ·rw [s8 hj]
          have hM:=cz.write (D1:=N) h hk aq entry (w' :=w) (G:=G) (id:=id) (b:=(I id).1) ⟨g6,rfl,rfl,rfl,rfl,fun _ _=>rfl,fun c _ _ h=>⟨c,h,rfl⟩⟩ g1 (h.H id _ g1) (by rw [<- hE];exact hmay) (Or.inl (by omega)) (fun _=>Iff.rfl) (v:= .tuple []) (x:= .tuple #[]) (by simp only [VR];exact ⟨#[],rfl,by simp [G8]⟩) (.obj id::st.n7) (by simp [Touch.K1]);have lZ:st.H.set id (.cells l0)=st.H:=by
           apply List.ext_getElem?;intro j
           by_cases hj:id=j
           ·subst hj;rw [E0 (o4 g1),g1]
           ·rw [s8 hj]
          rw [lZ] at hM;refine ⟨w,?_,by rw [hH'];exact hM⟩;rw [jo,hx0];simp [Builtin.clear_,run_underlying hu]
         ·have hzc:(Builtin.zeroCells z.cells len).toList.length=len * z' :=by simp [vi,hzs]
          have hfl:((c9 len zero).flatten).length=len * z' :=by simp [hzl]
          have Dy:∀ (j:Nat) b,((c9 len zero).flatten)[j]? =some b->∃ u,(Builtin.zeroCells z.cells len).toList[j]? =some u/\VR G I N w .none b u:=by
           intro j b hj;rw [Du] at hj;split at hj
           ·rename_i hjl
            rw [hzl] at hj hjl;obtain ⟨u,r1,r2⟩:=G8.get _ _ hvz (j % z') b hj;refine ⟨u,?_,r2⟩;have hzj:z.cells[j % z']? =some u:=by simpa using r1
            have ay4 :z.cells[j % z.cells.size]! =u:=by
             rw [hzs,getElem!_def,hzj]
            have hjr:(Array.range (len * z.cells.size))[j]? =some j:=by
             rw [hzs];simp [hjl]
            rw [Array.getElem?_toList];unfold Builtin.zeroCells;rw [Array.getElem?_map,hjr];simp only [F1,ay4]
           ·cases hj
          obtain ⟨hO,hW⟩:=zk g4 g5 g6 g7 g8 g9 g3 (vs:=(Builtin.zeroCells z.cells len).toList) (by rw [hzc,hfl]) (fun j b hj=>by
           obtain ⟨u,r1,r2⟩:=Dy j b hj;exact ⟨u,r1,r2.place⟩)
          have MW:Hl (Builtin.zeroCells z.cells len).toList:=by
           intro u hu';obtain ⟨j,hj,rfl⟩:=List.getElem_of_mem hu';have hjl:j<((c9 len zero).flatten).length:=by rw [hfl,<- hzc];exact hj
           obtain ⟨u',r1,r2⟩:=Dy j _ (o8 hjl);rw [o8 hj] at r1;cases r1;have hmem:((c9 len zero).flatten)[j] ∈ zero:=by
            have:=List.getElem_mem hjl;simp only [List.mem_flatten,List.mem_replicate] at this;obtain ⟨q,hq,Qi⟩:=this;rw [hq.2] at Qi;exact Qi
           exact (jy (List.all_eq_true.1 hone _ hmem) r2).1
          have hrun:=run_storeCells_at (P:=P) (I id).1 ((I id).2+lo) e' f (Builtin.zeroCells z.cells len).toList 0 c w g5 g7 (by rw [hzc,Nat.add_zero];omega) MW;simp only [Nat.add_zero] at hrun;have lU:(z6.cells (splice l0 lo (c9 len zero).flatten)).N7<=max (z6.cells l0).N7 (id+1)\/(l.base<=id/\l.strict<=id):=by
           left;have:=tA l0 lo (c9 len zero).flatten;have hz0:=Dc hzb len;simp only [z6.N7];omega
          have hM:=cz.write (D1:=N) h hk aq entry hW g1 hO (by rw [<- hE];exact hmay) lU (fun _=>Iff.rfl) (v:= .tuple []) (x:= .tuple #[]) (by simp only [VR];exact ⟨#[],rfl,by simp [G8]⟩) (.obj id::st.n7) (by simp [Touch.K1]);refine ⟨_,?_,by rw [g2];exact hM⟩;rw [jo,hx0];have hzv:(zeroValue e).run P w= .ok z w:=by simp [zeroValue,typeInfo,hi,hz]
          obtain ⟨n',rfl⟩:∃ n',len=n' +1:=⟨len - 1,by omega⟩;simp [Builtin.clear_,run_underlying hu,hzv,hrun]
        ·cases he
       ·cases he
      ·rename_i cells hy
       cases he;rw [hy] at hv;simp only [VR,DR] at hv;refine ⟨w,?_,cz.same h hk aq entry (by simp only [VR];exact ⟨#[],rfl,by simp [G8]⟩)⟩;rw [jo]
       rcases hv with ⟨hv|⟨a0,hv⟩,_⟩|⟨b,o',cap,hv,_⟩
       ·rw [hv];simp [Builtin.clear_,run_underlying hu]
       ·rw [hv];simp [Builtin.clear_,run_underlying hu]
       ·rw [hv];simp [Builtin.clear_,run_underlying hu]
      ·cases he
     ·cases hc
    ·cases hc
   ·cases hc
  ·cases hc
 ·cases hc
end
def hold (G:Gh)(n:Nat):Gh:=fun b =>
 match G b with
 | .grow m (.cell id off)=>if id<n then .grow m (.cell id off) else .held m
 | .grow m _=> .held m
 | .obj id=>if id<n then .obj id else .held 0
 |x=>x
def cy (G G1:Gh)(n:Nat):Gh:=fun b=>if hold G n b=G b then G1 b else G b
section
variable {G G1:Gh} {w w1:World} {n:Nat}
theorem vp (b o:Nat):iX (hold G n) b o↔iX G b o:=by
 unfold iX hold;cases h:G b with
 |grow m pl =>
  cases pl with
  |cell id off=>by_cases hid:id<n<;>simp [hid]
  |_=>simp
 |obj id=>by_cases hid:id<n<;>simp [hid]
 |_=>simp
theorem qz:Ext G w (hold G n) w where
 os:=rfl
 tape:=rfl
 output:=rfl
 size:=k9 _
 jR b o h:=⟨(vp b o).2 h,rfl⟩
 still b h:=⟨by rcases h with h|⟨m,h⟩<;>simp [hold,h],rfl⟩
 shape _ c _ _ h:=⟨c,h,rfl⟩
theorem Ix (h:WF G w):WF (hold G n) w:=fun b hb=>by simp [hold,h b hb]
theorem lY {b id:Nat}(hid:id<n)(h:G b= .obj id):hold G n b= .obj id:=by simp [hold,h,hid]
theorem jq {id off:Nat}(hid:id<n):aN (.cell id off) G w (hold G n) w:=fun b m hb=>⟨by simp [hold,hb,hid],rfl⟩
theorem DE {b id:Nat}(h:hold G n b= .obj id):id<n:=by
 unfold hold at h;cases hg:G b with
 |grow m pl =>
  rw [hg] at h;cases pl with
  |cell i o=>simp only at h;split at h<;>cases h
  |_=>cases h
 |obj i =>
  rw [hg] at h;simp only at h;split at h
  ·cases h;assumption
  ·cases h
 |_=>rw [hg] at h;cases h
theorem hidden {b:Nat}(h:hold G n b≠G b):∃ m,hold G n b= .held m:=by
 unfold hold at h ⊢;cases hg:G b with
 |grow m pl =>
  simp only [hg] at h ⊢;cases pl<;>simp at h ⊢;rename_i id off;rw [if_neg (by omega)];exact ⟨m,rfl⟩
 |obj id =>
  simp only [hg] at h ⊢;simp at h;rw [if_neg (by omega)];exact ⟨0,rfl⟩
 |_=>simp [hg] at h
theorem fe {b:Nat}(he:Ext (hold G n) w G1 w1)(h:hold G n b≠G b):cy G G1 n b=G b/\w1.heap[b]? =w.heap[b]? /\G1 b=hold G n b:=by
 obtain ⟨m,hm⟩:=hidden h;obtain ⟨h1,h2⟩:=he.still b (Or.inr ⟨m,hm⟩);exact ⟨by simp [cy,h],h2,h1⟩
theorem ff {b:Nat}(h:hold G n b=G b):cy G G1 n b=G1 b:=by simp [cy,h]
theorem ya (he:Ext (hold G n) w G1 w1):Ext G w (cy G G1 n) w1 where
 os:=he.os
 tape:=he.tape
 output:=he.output
 size:=he.size
 jR b o h:=by
  obtain ⟨h1,h2⟩:=he.jR b o ((vp b o).2 h);refine ⟨?_,h2⟩
  by_cases hh:hold G n b=G b
  ·unfold iX at h1 ⊢;rw [ff hh];exact h1
  ·unfold iX at h ⊢;rw [(fe he hh).1];exact h
 still b h:=by
  have hh:hold G n b=G b:=by rcases h with h|⟨m,h⟩<;>simp [hold,h]
  obtain ⟨h1,h2⟩:=he.still b (by rw [hh];exact h);exact ⟨by rw [ff hh,h1,hh],h2⟩
 shape:=he.shape
theorem kM (he:Ext (hold G n) w G1 w1):Sub G1 w1 (cy G G1 n) w1 where
 jR b o h:=by
  refine ⟨?_,rfl⟩
  by_cases hh:hold G n b=G b
  ·unfold iX at h ⊢;rw [ff hh];exact h
  ·obtain ⟨h1,h2,h3⟩:=fe he hh
   have:iX (hold G n) b o:=by unfold iX at h ⊢;rw [<- h3];exact h
   have:=(vp b o).1 this;unfold iX at this ⊢;rw [h1];exact this
 shape _ c _ _ h:=⟨c,h,rfl⟩
theorem ak (he:Ext (hold G n) w G1 w1){b:Nat}(h:∀ m,G1 b≠ .held m):cy G G1 n b=G1 b:=by
 by_cases hh:hold G n b=G b
 ·exact ff hh
 ·obtain ⟨_,_,h3⟩:=fe he hh
  obtain ⟨m,hm⟩:=hidden hh;exact absurd (h3.trans hm) (h m)
theorem iD (he:Ext (hold G n) w G1 w1)(q:Place):aN q G1 w1 (cy G G1 n) w1 :=
 fun b m hb=>⟨by rw [ak he (by intro m';rw [hb];simp)];exact hb,rfl⟩
theorem aU (he:Ext (hold G n) w G1 w1){q:Place}(hq:∀ id off,q= .cell id off->n<=id):aN q G w (cy G G1 n) w1:=by
 intro b m hb;have hh:hold G n b≠G b:=by
  unfold hold;rw [hb];cases q with
  |cell id off=>have:=hq id off rfl;simp;omega
  |_=>simp
 obtain ⟨h1,h2,_⟩:=fe he hh;exact ⟨h1.trans hb,h2⟩
theorem pI (he:Ext (hold G n) w G1 w1){id:Nat}(hid:n<=id):∀ b,G b= .obj id->cy G G1 n b= .obj id/\w1.heap[b]? =w.heap[b]? :=by
 intro b hb;have hh:hold G n b≠G b:=by unfold hold;rw [hb];simp;omega
 obtain ⟨h1,h2,_⟩:=fe he hh;exact ⟨h1.trans hb,h2⟩
theorem As (he:Ext (hold G n) w G1 w1)(hwf:WF G w)(h1:WF G1 w1):WF (cy G G1 n) w1:=by
 intro b hb;have hg:G b= .free:=hwf b (Nat.le_trans he.size hb);have hh:hold G n b=G b:=by simp [hold,hg]
 rw [ff hh];exact h1 b hb
end
structure Gg (l:H7)(H:o6)(w:World)(G:Gh)(I:S4)(N:Nat->Prop)(args:List b6)(M0:Array Value):Prop where
 args:G8 G I N w args M0.toList
 hr:HR G I N w H
 wf:WF G w
 cm:∀ id,N id->id<H.length
 U6:KK l H
 base:l.base<=H.length
 strict:l.strict<=l.base
 jt:∀ b id:Nat,G b= .obj id->id<H.length
structure nQ (l:H7)(H:o6)(w:World)(G:Gh)(I:S4)(N:Nat->Prop)(v:b6)(H1:o6)(x:Value)(w' :World)(G' :Gh)(I' :S4)(N' :Nat->Prop):Prop where
 val:VR G' I' N' w' .ret v x
 hr:HR G' I' N' w' H1
 wf:WF G' w'
 ext:Ext G w G' w'
 ey:jc l G w G' w'
 inj:∀ id,id<H.length->N id->I' id=I id
 mono:∀ id,N id->N' id
 old:∀ id,id<H.length->N' id->N id
 cm:∀ id,N' id->id<H1.length
 hle:∀ (id:Nat) (o' :z6),id<l.base->H1[id]? =some o' ->o'.N7<=id+1\/∃ o:z6,H[id]? =some o/\o'.N7<=o.N7
 U6:KK l H1
def lG (P:Program)(cf:pT)(prom:FuncId->Bool):Prop :=
 ∀ f args H l v H1,cf f args H l=some (v,H1)->∀ w G I N M0,Gg l H w G I N args M0->(prom f=false->l.base=H.length) ->
  Calls P f M0 w fun e w' =>∃ x G' I' N',e= .returned x/\nQ l H w G I N v H1 x w' G' I' N'
def U1 (P:Program)(f:FuncId):Bool :=
 match P.funcs[f]? with
 | some fn => fn.name != "runtime.NumGoroutine" && fn.body.isSome
 |none=>false
theorem qS {P:Program}{w:World}{f:FuncId}(h:U1 P f=true)(args:Array Value):(callFunc f args).run P w= .ok (.enter f args) w:=by
 unfold U1 at h;split at h
 ·rename_i fn hfn
  simp only [b5,bne_iff_ne] at h;obtain ⟨c,hc⟩:=Option.isSome_iff_exists.1 h.2;simp [callFunc,hfn,h.1,hc]
 ·cases h
theorem Db:∀ (l:List z6) (i:Nat) (o:z6),l[i]? =some o->o.N7<=Y2 l
 |[],_,_,h=>by simp at h
 |v::vs,0,o,h=>by simp at h;subst h;simp only [Y2];omega
 |v::vs,i+1,o,h=>by have:=Db vs i o (by simpa using h);simp only [Y2];omega
theorem qm:∀ (l:List z6) (k i:Nat) (o:z6),P3 l k=true->l[i]? =some o->o.N7<=k+i+1
 |[],_,_,_,_,h=>by simp at h
 |v::vs,k,0,o,hd,h=>by
  simp only [P3,b5,decide_eq_true_eq] at hd;simp at h;subst h;omega
 |v::vs,k,i+1,o,hd,h=>by
  simp only [P3,b5,decide_eq_true_eq] at hd;have:=qm vs (k+1) i o hd.2 (by simpa using h);omega
theorem ov {H:o6}{n s i:Nat}{o:z6}(hi:i<n)(hs:s<=i)(h:H[i]? =some o):((H.take n).drop s)[i - s]? =some o:=by
 rw [List.getElem?_drop,show s+(i - s)=i from by omega,List.getElem?_take_of_lt hi];exact h
theorem sZ {l:H7}{H:o6}{n:Nat}(hd:KK l H)(hc:Y2 ((H.take n).drop l.strict)<=n){id:Nat}{o:z6}(hid:id<n)(h:H[id]? =some o):o.N7<=n:=by
 by_cases hs:id<l.strict
 ·have:=(hd id o h).1 hs;omega
 ·have:=Db _ _ _ (ov (s:=l.strict) hid (by omega) h);omega
theorem EK (H:o6)(s n:Nat):C5 H s n<=n:=by
 unfold C5;split
 ·omega
 ·split<;>omega
theorem Cn {l:H7}{H:o6}{n:Nat}(hd:KK l H){id:Nat}{o:z6}(hid:id<C5 H l.strict n)(h:H[id]? =some o):o.N7<=id+1:=by
 unfold C5 at hid;split at hid
 ·exact (hd id o h).1 (by omega)
 ·split at hid
  ·rename_i hdf
   by_cases hs:id<l.strict
   ·exact (hd id o h).1 hs
   ·have:=qm _ _ _ _ hdf (ov (s:=l.strict) hid (by omega) h);omega
  ·exact (hd id o h).1 hid
theorem VR.CX {G:Gh}{I:S4}{N:Nat->Prop}{w:World}{pl uI :Place}{a:b6}{x:Value}(ha:∀ z n c,a≠ .own z n c)(h:VR G I N w pl a x):VR G I N w uI a x:=by
 cases a with
 |own z n c=>exact absurd rfl (ha z n c)
 |any=>simp only [VR]
 |_=>simpa only [VR] using h
structure Qq (pl:Place)(l:H7)(H:o6)(w:World)(G:Gh)(I:S4)(N:Nat->Prop)(v:b6)(H1:o6)(x:Value)(w' :World)(G' :Gh)(I' :S4)(N' :Nat->Prop):Prop where
 val:VR G' I' N' w' pl v x
 hr:HR G' I' N' w' H1
 wf:WF G' w'
 ext:Ext G w G' w'
 ey:jc l G w G' w'
theorem nQ.at {l:H7}{H:o6}{w:World}{G:Gh}{I:S4}{N:Nat->Prop}{v:b6}{H1:o6}{x:Value}{w' :World}{G' :Gh}{I' :S4}{N' :Nat->Prop}
  (h:nQ l H w G I N v H1 x w' G' I' N') {pl:Place} (hp:pl≠ .none):∃ G2,Qq pl l H w G I N v H1 x w' G2 I' N' :=by
 by_cases ho:∃ z n c,v= .own z n c
 ·obtain ⟨z,n,c,rfl⟩:=ho
  obtain ⟨G2,hm,hv⟩:=gw hp h.val;refine ⟨G2,hv,h.hr.DT hm (by simp),hm.wf h.wf,h.ext.trans hm.ext,h.ey.trans fun id _=>⟨fun b hb=>⟨hm.obj b id hb,rfl⟩,fun off=>hm.keeps _ (by simp)⟩⟩
 ·exact ⟨G',h.val.CX (fun z n c e=>ho ⟨z,n,c,e⟩),h.hr,h.wf,h.ext,h.ey⟩
section
variable {P:Program} {X:Cx} {l:H7} {S:Nat->Prop} {st:F0} {a:Act} {w w1:World} {G G1:Gh} {I I1:S4} {N N1:Nat->Prop}
structure Gi (X:Cx)(l:H7)(S:Nat->Prop)(entry:Nat)(st:F0)(a:Act)(w:World)(G:Gh)(I:S4)(N:Nat->Prop)
  (st' :F0) (k:Nat) (x' :Value) (w' :World) (G' :Gh) (I' :S4) (N' :Nat->Prop):Prop where
 mid:cz X l S entry st a w G I N st' k x' w' G' I' N'
 cm:∀ id,N' id->id<st'.H.length
 old:∀ id,id<st.H.length->N' id->N id
theorem oJ (h:RI X l S st a w G I N)(aY:∀ id,N id->id<st.H.length){k:Nat}(hk:¬ S k)(aq:k<st.L.length)(entry:Nat){n m:Nat}(hn:n<=st.H.length)(hm:m<=n)
  {l' :H7} (hl' :l'.base=n) (hmay:∀ id,id<n->l.may id=false->l'.may id=false) (Tf :∀ id,m<=id->id<n->l'.may id=false)
  {v:b6} {H1:o6} {x:Value} (hlen:H1.length=n) (hc:nQ l' (st.H.take n) w (hold G n) I (fun i=>N i/\i<n) v H1 x w1 G1 I1 N1) {n7:List Touch} (BJ:∀ id,n7.any (Touch.K1 id)=false->m<=id) :
  ∃ G' I',Gi X l S entry st a w G I N (put { st with H:=H1.take m++st.H.drop m,n7 } k v) k x w1 G' I' N:=by
 have Rc:(st.H.take n).length=n:=by simp;omega
 have hN1:∀ id,N1 id->N id/\id<n:=fun id hid=>by
  have:=hc.cm id hid;exact hc.old id (by rw [Rc];omega) hid
 have hI1:∀ id,N id->id<n->I1 id=I id:=fun id hid hlt=>hc.inj id (by rw [Rc];exact hlt) ⟨hid,hlt⟩
 obtain ⟨G2,hp⟩:=hc.at (pl:= .loc k) (by simp);have hx:=ya hp.ext;have ID:∀ id,m<=id->∀ b,G b= .obj id->cy G G2 n b= .obj id/\w1.heap[b]? =w.heap[b]? :=by
  intro id hid b hb
  by_cases hlt:id<n
  ·obtain ⟨g1,g2⟩:=(hp.ey id (Tf id hid hlt)).1 b (lY hlt hb)
   exact ⟨by rw [ak hp.ext (by intro m';rw [g1];simp)];exact g1,g2⟩
  ·exact pI hp.ext (by omega) b hb
 have Ni:∀ id,m<=id->∀ off,aN (.cell id off) G w (cy G G2 n) w1:=by
  intro id hid off
  by_cases hlt:id<n
  ·intro b q hb
   obtain ⟨g1,_⟩:=jq (G:=G) (w:=w) (off:=off) hlt b q hb;obtain ⟨g3,g4⟩:=(hp.ey id (Tf id hid hlt)).2 off b q g1;exact ⟨by rw [ak hp.ext (by intro m';rw [g3];simp)];exact g3,g4⟩
  ·exact aU hp.ext (by intro id' off' e;cases e;omega)
 have Yu:∀ id o',(H1.take m++st.H.drop m)[id]? =some o' ->(id<m/\H1[id]? =some o')\/(m<=id/\st.H[id]? =some o'):=by
  intro id o' ho'
  by_cases hlt:id<m
  ·rw [p7 (by simp;omega),List.getElem?_take_of_lt hlt] at ho'
   exact Or.inl ⟨hlt,ho'⟩
  ·rw [q8 (by simp;omega),List.getElem?_drop] at ho'
   rw [show m+(id - (H1.take m).length)=id from by simp;omega] at ho';exact Or.inr ⟨by omega,ho'⟩
 have hle:∀ id o',(H1.take m++st.H.drop m)[id]? =some o' ->o'.N7<=id+1\/∃ o:z6,st.H[id]? =some o/\o'.N7<=o.N7:=by
  intro id o' ho'
  rcases Yu id o' ho' with ⟨hlt,ho⟩|⟨_,ho⟩
  ·rcases hc.hle id o' (by omega) ho with hb|⟨o,h1,h2⟩
   ·exact Or.inl hb
   ·rw [List.getElem?_take_of_lt (by omega)] at h1
    exact Or.inr ⟨o,h1,h2⟩
  ·exact Or.inr ⟨o',ho,k9 _⟩
 have YT:(H1.take m++st.H.drop m).length=st.H.length:=by simp;omega
 have hII:∀ id,N id->I1 id=I id\/n<=id:=fun id hid=>by
  by_cases hlt:id<n
  ·exact Or.inl (hI1 id hid hlt)
  ·exact Or.inr (by omega)
 refine ⟨cy G G2 n,fun id=>if id<n then I1 id else I id,?_,?_,?_⟩
 ·have QL:∀ id,N id->(if id<n then I1 id else I id)=I id:=by
   intro id hid;split
   ·rename_i hlt;exact hI1 id hid hlt
   ·rfl
  have hIn:∀ id,N1 id->(if id<n then I1 id else I id)=I1 id:=by
   intro id hid;rw [if_pos (hN1 id hid).2]
  have hNn:∀ id,N1 id->N id:=fun id hid=>(hN1 id hid).1
  refine ⟨⟨?_,?_,?_,As hp.ext h.wf hp.wf,?_⟩,?_,hx,?_,?_,fun id _ hN=>QL id hN,fun _ h=>h,?_,?_⟩
  ·intro s t ht
   exact VR.mono hx QL (fun _ h=>h) _ _ _ (Or.inr (aU hp.ext (by simp))) (h.T s t ht)
  ·intro j hj d hd DD
   have:k≠j:=by rintro rfl;exact hk hj
   simp only [z7.put];rw [H6 _ _ _ _ _ this];exact VR.mono hx QL (fun _ h=>h) _ _ _ (Or.inr (aU hp.ext (by simp))) (h.L j hj d hd DD)
  ·intro id o' ho'
   rcases Yu id o' ho' with ⟨hlt,ho⟩|⟨hge,ho⟩
   ·refine OR.mono (kM hp.ext) hIn hNn id o' (fun hb=> ?_) (fun off=>iD hp.ext _) (hp.hr id o' ho)
    exact ⟨by rw [ak hp.ext (by intro m';rw [hb];simp)];exact hb,rfl⟩
   ·exact OR.mono hx QL (fun _ h=>h) id o' (fun hb=>ID id hge _ hb) (Ni id hge) (h.H id o' ho)
  ·intro id o' ho'
   rcases hle id o' ho' with hb|⟨o,h1,h2⟩
   ·exact ⟨fun _=>hb,fun _=>by omega⟩
   ·obtain ⟨d1,d2⟩:=h.U6 id o h1
    exact ⟨fun hh=>by have:=d1 hh;omega,fun hh=>by have:=d2 hh;omega⟩
  ·simp only [z7.put]
   rw [L8 _ _ _ _ aq];exact VR.mono (kM hp.ext) hIn hNn _ _ _ (Or.inr (iD hp.ext _)) hp.val
  ·intro id hid
   by_cases hlt:id<n
   ·obtain ⟨p1,p2⟩:=hp.ey id (hmay id hlt hid)
    refine ⟨fun b hb=> ?_,fun off b q hb=> ?_⟩
    ·obtain ⟨g1,g2⟩:=p1 b (lY hlt hb)
     exact ⟨by rw [ak hp.ext (by intro m';rw [g1];simp)];exact g1,g2⟩
    ·obtain ⟨g1,_⟩:=jq (G:=G) (w:=w) (off:=off) hlt b q hb
     obtain ⟨g3,g4⟩:=p2 off b q g1;exact ⟨by rw [ak hp.ext (by intro m';rw [g3];simp)];exact g3,g4⟩
   ·exact ⟨pI hp.ext (by omega),fun off=>aU hp.ext (by intro id' off' e;cases e;omega)⟩
  ·intro id hN ht
   exact ⟨QL id hN,ID id (BJ id ht)⟩
  ·simp only [z7.put];omega
  ·intro id o' _ ho'
   exact hle id o' ho'
 ·intro id hid
  simp only [z7.put];rw [YT];exact aY id hid
 ·intro id _ hid
  exact hid
theorem Gx (h:RI X l S st a w G I N)(aY:∀ id,N id->id<st.H.length){k:Nat}(hk:¬ S k)(aq:k<st.L.length)(entry:Nat)
  {v:b6} {H1:o6} {x:Value} (hlen:st.H.length<=H1.length) (hc:nQ l st.H w (hold G st.H.length) I N v H1 x w1 G1 I1 N1) {n7:List Touch} (BJ:∀ id,n7.any (Touch.K1 id)=false->st.H.length<=id) :
  ∃ G',Gi X l S entry st a w G I N (put { st with H:=H1,n7 } k v) k x w1 G' I1 N1:=by
 obtain ⟨G2,hp⟩:=hc.at (pl:= .loc k) (by simp);have hx:=ya hp.ext;have QL:∀ id,N id->I1 id=I id:=fun id hid=>hc.inj id (aY id hid) hid
 refine ⟨cy G G2 st.H.length,?_,hc.cm,hc.old⟩;refine ⟨⟨?_,?_,?_,As hp.ext h.wf hp.wf,hc.U6⟩,?_,hx,?_,?_,fun id _ hN=>QL id hN,hc.mono,hlen,fun id o' hb ho' =>hc.hle id o' hb ho'⟩
 ·intro s t ht
  exact VR.mono hx QL hc.mono _ _ _ (Or.inr (aU hp.ext (by simp))) (h.T s t ht)
 ·intro j hj d hd DD
  have:k≠j:=by rintro rfl;exact hk hj
  simp only [z7.put];rw [H6 _ _ _ _ _ this];exact VR.mono hx QL hc.mono _ _ _ (Or.inr (aU hp.ext (by simp))) (h.L j hj d hd DD)
 ·intro id o' ho'
  refine OR.mono (kM hp.ext) (fun _ _=>rfl) (fun _ h=>h) id o' (fun hb=> ?_) (fun off=>iD hp.ext _) (hp.hr id o' ho');exact ⟨by rw [ak hp.ext (by intro m';rw [hb];simp)];exact hb,rfl⟩
 ·simp only [z7.put]
  rw [L8 _ _ _ _ aq];exact VR.mono (kM hp.ext) (fun _ _=>rfl) (fun _ h=>h) _ _ _ (Or.inr (iD hp.ext _)) hp.val
 ·intro id hid
  by_cases hlt:id<st.H.length
  ·obtain ⟨p1,p2⟩:=hp.ey id hid
   refine ⟨fun b hb=> ?_,fun off b q hb=> ?_⟩
   ·obtain ⟨g1,g2⟩:=p1 b (lY hlt hb)
    exact ⟨by rw [ak hp.ext (by intro m';rw [g1];simp)];exact g1,g2⟩
   ·obtain ⟨g1,_⟩:=jq (G:=G) (w:=w) (off:=off) hlt b q hb
    obtain ⟨g3,g4⟩:=p2 off b q g1;exact ⟨by rw [ak hp.ext (by intro m';rw [g3];simp)];exact g3,g4⟩
  ·exact ⟨pI hp.ext (by omega),fun off=>aU hp.ext (by intro id' off' e;cases e;omega)⟩
 ·intro id hN ht
  have:=aY id hN;have:=BJ id ht;omega
theorem wE {l:H7}{a b base strict id:Nat}(h:l.may id=false\/(a<=id/\id<b)):(l.kr a b base strict).may id=false:=by
 unfold H7.kr H7.may at *
 simp only [L6,decide_eq_false_iff_not] at *
 split<;>simp only<;>omega
theorem gY (l:H7)(a b base strict:Nat):(l.kr a b base strict).base=base/\(l.kr a b base strict).strict=strict:=by
 unfold H7.kr;split<;>simp
theorem KU {E:Env}(CP:lG P E.cf E.prom)(hE:E.lim=l)(h:RI X l S st a w G I N)(aY:∀ id,N id->id<st.H.length)(hb:l.base<=st.H.length)(hs:l.strict<=l.base)
  {k:Nat} (hk:¬ S k) (aq:k<st.L.length) (entry:Nat) {f:FuncId} {args:List b6} {M0:Array Value} (hargs:G8 G I N w args M0.toList) {st' :F0} (he:B9 E k f args st=some st') :
  Calls P f M0 w fun e w' =>∃ x G' I' N',e= .returned x/\Gi X l S entry st a w G I N st' k x w' G' I' N' :=by
 subst hE;unfold B9 at he;split at he
 ·rename_i tM
  split at he
  ·rename_i v H1 dU
   split at he
   ·rename_i hlen
    cases he;refine Calls.mono (CP f args st.H E.lim v H1 dU w (hold G st.H.length) I N M0 ⟨?_,?_,Ix h.wf,aY,h.U6,hb,hs,fun _ _=>DE⟩ (by rw [tM];simp)) ?_
    ·exact G8.mono qz.sub (fun _ _=>rfl) (fun _ h=>h) _ _ hargs
    ·intro id o ho
     have hlt:=o4 ho;exact OR.mono qz.sub (fun _ _=>rfl) (fun _ h=>h) id o (fun hb=>⟨lY hlt hb,rfl⟩) (fun _=>jq hlt) (h.H id o ho)
    ·rintro e w' ⟨x,G1,I1,N1,rfl,hc⟩
     obtain ⟨G',hd⟩:=Gx h aY hk aq entry hlen hc (n7:= .below H1.length::st.n7) (by
      intro id ht;simp [Touch.K1] at ht;omega)
     exact ⟨x,G',I1,N1,rfl,hd⟩
   ·cases he
  ·cases he
 ·rename_i tM
  have tM:E.prom f=false:=by simpa using tM
  simp only at he;generalize DD:H9 st.H E.lim.strict 8 (A9 args)=n at he;have hna:A9 args<=n:=by
   rw [<- DD];have:∀ (j m:Nat),m<=H9 st.H E.lim.strict j m:=by
    intro j
    induction j with
    |zero=>intro m;simp [H9]
    |succ j ih =>
     intro m;unfold H9;split
     ·omega
     ·simp only
      split
      ·omega
      ·exact Nat.le_trans (Nat.le_max_left _ _) (ih _)
   exact this 8 _
  split at he
  ·rename_i aK
   obtain ⟨hn,hbO⟩:=aK;have Rc:(st.H.take n).length=n:=by simp;omega
   have pre:∀ l' :H7,l'.base=n->l'.strict=C5 st.H E.lim.strict n->Gg l' (st.H.take n) w (hold G n) I (fun i=>N i/\i<n) args M0:=by
    intro l' h1 h2;refine ⟨?_,?_,Ix h.wf,fun id hid=>by rw [Rc];exact hid.2,?_,by rw [Rc,h1];exact k9 _,by rw [h1,h2];exact EK _ _ _,fun b id hb=>by rw [Rc];exact DE hb⟩
    ·exact G8.mono qz.sub (fun _ _=>rfl) (fun _ h=>h) _ _ (G8.low n _ _ hna hargs)
    ·intro id o ho
     have hlt:id<n:=by have:=o4 ho;omega
     rw [List.getElem?_take_of_lt hlt] at ho;exact OR.mono qz.sub (fun _ _=>rfl) (fun _ h=>h) id o (fun hb=>⟨lY hlt hb,rfl⟩) (fun _=>jq hlt) (OR.low hlt o (sZ h.U6 hbO hlt ho) (h.H id o ho))
    ·intro id o ho
     have hlt:id<n:=by have:=o4 ho;omega
     rw [List.getElem?_take_of_lt hlt] at ho;rw [h1,h2];exact ⟨fun hh=>Cn h.U6 hh ho,fun _=>sZ h.U6 hbO hlt ho⟩
   split at he
   ·split at he
    ·rename_i v H1 dU
     split at he
     ·rename_i hlen
      cases he;refine Calls.mono (CP f args _ _ v H1 dU w (hold G n) I _ M0 (pre _ rfl rfl) (fun _=>Rc.symm)) ?_;rintro e w' ⟨x,G1,I1,N1,rfl,hc⟩;obtain ⟨G',I',hd⟩:=oJ (l' :={ E.lim with base:=n,strict:=C5 st.H E.lim.strict n }) h aY hk aq entry hn (k9 n) rfl (fun id _ hid=>hid) (fun id h1 h2=>by omega) hlen hc (n7:= .below n::st.n7) (by
       intro id ht;simp [Touch.K1] at ht;omega)
      rw [<- hlen,List.take_length,hlen] at hd;exact ⟨x,G',I',N,rfl,hd⟩
     ·cases he
    ·cases he
   ·split at he
    ·rename_i v H1 dU
     split at he
     ·rename_i hlen
      cases he;refine Calls.mono (CP f args _ _ v H1 dU w (hold G n) I _ M0 (pre _ rfl rfl) (fun _=>Rc.symm)) ?_;rintro e w' ⟨x,G1,I1,N1,rfl,hc⟩;obtain ⟨G',I',hd⟩:=oJ (l' :=⟨0,n,n,C5 st.H E.lim.strict n⟩) h aY hk aq entry hn (Nat.zero_le n) rfl (fun id h1 _=>by simp [H7.may];omega) (fun id _ h2=>by simp [H7.may];omega) hlen hc (n7:=st.n7) (by intros;omega);refine ⟨x,G',I',N,rfl,?_⟩;simpa using hd
     ·cases he
    ·cases he
   ·split at he
    ·rename_i v H1 dU
     split at he
     ·rename_i hlen
      cases he;refine Calls.mono (CP f args _ _ v H1 dU w (hold G n) I _ M0 (pre _ (gY _ _ _ _ _).1 (gY _ _ _ _ _).2) (fun _=>by rw [(gY _ _ _ _ _).1,Rc])) ?_;rintro e w' ⟨x,G1,I1,N1,rfl,hc⟩;obtain ⟨G',I',hd⟩:=oJ h aY hk aq entry hn hlen.2 (gY _ _ _ _ _).1 (fun id _ hid=>wE (Or.inl hid)) (fun id h1 h2=>wE (Or.inr ⟨h1,h2⟩)) hlen.1 hc (n7:= .below (args.headD .any).N7::st.n7) (by
       intro id ht;simp [Touch.K1] at ht;simpa using ht.1)
      exact ⟨x,G',I',N,rfl,hd⟩
     ·cases he
    ·cases he
  ·cases he
end
structure Tr (N:Nat->Prop)(k:Nat)(st st' :F0):Prop where
 n7:∀ p:Touch->Bool,st.n7.any p=true->st'.n7.any p=true
 L:∀ m id off:Nat,m≠k->st'.L[m]? =some (b6.ptr id off)->st.L[m]? =some (b6.ptr id off)
 T:∀ s id off:Nat,st'.T[s]? =some (b6.ptr id off)->st.T[s]? =some (b6.ptr id off)
 H:∀ (id:Nat) (l' :List b6),N id->st'.n7.any (Touch.K1 id)=false->st'.H[id]? =some (z6.cells l')->∃ l:List b6,st.H[id]? =some (z6.cells l)/\l.length=l'.length
 U7:st'.T.length=st.T.length
 gq:st'.L.length=st.L.length
 Qp:∀ m:Nat,m≠k->st.L[m]? =some (b6.tuple [])->st'.L[m]? =some (b6.tuple [])
section
variable {N:Nat->Prop} {k:Nat} {st Q3 st' :F0}
theorem Tr.refl (N:Nat->Prop)(k:Nat)(st:F0):Tr N k st st :=
 ⟨fun _ h=>h,fun _ _ _ _ h=>h,fun _ _ _ h=>h,fun _ l _ _ h=>⟨l,h,rfl⟩,rfl,rfl,fun _ _ h=>h⟩
theorem gv {t t' :List Touch}(h:∀ p:Touch->Bool,t.any p=true->t'.any p=true){p:Touch->Bool}(h' :t'.any p=false):t.any p=false:=by
 cases he:t.any p with
 |false=>rfl
 |true=>rw [h p he] at h';cases h'
theorem Tr.trans (a:Tr N k st Q3)(b:Tr N k Q3 st'):Tr N k st st' where
 n7 p h:=b.n7 p (a.n7 p h)
 L m id off hm h:=a.L m id off hm (b.L m id off hm h)
 T s id off h:=a.T s id off (b.T s id off h)
 H id l' hN ht h:=by
  obtain ⟨l1,h1,e1⟩:=b.H id l' hN ht h;obtain ⟨l,h2,e2⟩:=a.H id l1 hN (gv b.n7 ht) h1;exact ⟨l,h2,e2.trans e1⟩
 U7:=b.U7.trans a.U7
 gq:=b.gq.trans a.gq
 Qp m hm h:=b.Qp m hm (a.Qp m hm h)
theorem Tr.put (v:b6):Tr N k st (put st k v) where
 n7 _ h:=h
 L m id off hm h:=by
  simp only [z7.put] at h;rw [s8 (fun e=>hm e.symm)] at h;exact h
 T _ _ _ h:=h
 H _ l _ _ h:=⟨l,h,rfl⟩
 U7:=rfl
 gq:=by simp [z7.put]
 Qp m hm h:=by
  simp only [z7.put];rw [s8 (fun e=>hm e.symm)];exact h
theorem sX {l:List b6}{j m id off:Nat}{x:Data}(h:(l.set j (.d x))[m]? =some (.ptr id off)):l[m]? =some (.ptr id off):=by
 by_cases hj:j=m
 ·subst hj
  rcases p9 j l.length with hl|hl
  ·rw [E0 hl] at h;cases h
  ·rw [q9 (by simpa using hl)] at h;cases h
 ·rwa [s8 hj] at h
theorem tW {l:List b6}{j m:Nat}{z n:Nat}{c:List Data}{v:b6}(hj:l[j]? =some (.own z n c))(h:l[m]? =some (b6.tuple [])):(l.set j v)[m]? =some (b6.tuple []):=by
 have:j≠m:=by rintro rfl;rw [hj] at h;cases h
 rw [s8 this];exact h
theorem Tr.D8 (y:u5):Tr N k st (D8 st y).2:=by
 cases y with
 |loc j =>
  simp only [z7.D8];split
  ·rename_i hj
   exact ⟨fun _ h=>h,fun m id off _ h=>sX h,fun _ _ _ h=>h,fun _ l _ _ h=>⟨l,h,rfl⟩,rfl,by simp,fun _ _ h=>tW hj h⟩
  ·exact Tr.refl _ _ _
 |slot s=>exact Tr.refl _ _ _
 |const v=>exact Tr.refl _ _ _
theorem Tr.newObj {u9:Option Nat}(hi:∀ i,u9=some i->i<st.H.length)(hn:¬ N (newId st u9))(o:z6):Tr N k st (J5 st u9 o) where
 n7 p h:=by cases u9<;>exact h
 L m id off _ h:=by cases u9<;>exact h
 T s id off h:=by cases u9<;>exact h
 H id l' hN _ h:=by
  rcases ic hi o id _ h with ⟨rfl,_⟩|⟨_,h⟩
  ·exact absurd hN hn
  ·exact ⟨l',h,rfl⟩
 U7:=by cases u9<;>rfl
 gq:=by cases u9<;>rfl
 Qp m _ h:=by cases u9<;>exact h
theorem Tr.heap {H' :o6}{n7:List Touch}(h1:∀ p:Touch->Bool,st.n7.any p=true->n7.any p=true)(h2:∀ id,N id->n7.any (Touch.K1 id)=false->H'[id]? =st.H[id]?):Tr N k st { st with H:=H',n7 } where
 n7:=h1
 L _ _ _ _ h:=h
 T _ _ _ h:=h
 H id l' hN ht h:=by
  simp only at h;rw [h2 id hN ht] at h;exact ⟨l',h,rfl⟩
 U7:=rfl
 gq:=rfl
 Qp _ _ h:=h
theorem Tr.U9 {l:H7}{sz len:Nat}{cells:List Data}{op:y6}(h:U9 l st sz op=some (len,cells,st')):Tr N k st st' :=by
 unfold z7.U9 at h;split at h
 ·split at h
  ·cases h
  ·split at h
   ·split at h
    ·cases h
     exact ⟨fun p hp=>by simp only [List.any_cons,hp,Bool.or_true],fun _ _ _ _ h=>h,fun s id off h=>sX h,fun _ l _ _ h=>⟨l,h,rfl⟩,by simp,rfl,fun _ _ h=>h⟩
    ·cases h
   ·cases h
 ·split at h
  ·rename_i id off Na
   split at h
   ·cases h
   ·split at h
    ·rename_i cs hcs
     split at h
     ·split at h
      ·cases h
       refine ⟨fun p hp=>by simp only [List.any_cons,hp,Bool.or_true],fun _ _ _ _ h=>h,fun _ _ _ h=>h,fun id' l' _ _ h=> ?_,rfl,rfl,fun _ _ h=>h⟩;simp only at h
       by_cases he:id=id'
       ·subst he
        rw [E0 (o4 hcs)] at h;cases h;exact ⟨cs,hcs,by simp⟩
       ·rw [s8 he] at h
        exact ⟨l',h,rfl⟩
      ·cases h
     ·cases h
    ·cases h
  ·cases h
 ·cases h
theorem Tr.P6 {l:H7}{j4:List n9}{sz len:Nat}{cells:List Data}{y:u5}(h:P6 l j4 st sz y=some (len,cells,st')):Tr N k st st' :=by
 unfold z7.P6 at h;split at h
 ·split at h
  ·cases h;exact Tr.refl _ _ _
  ·cases h
 ·cases h
 ·cases h
 ·split at h
  ·rename_i hj
   split at h
   ·cases h
    exact ⟨fun _ h=>h,fun m id off _ h=>sX h,fun _ _ _ h=>h,fun _ l _ _ h=>⟨l,h,rfl⟩,rfl,by simp,fun _ _ h=>tW hj h⟩
   ·cases h
  ·split at h
   ·exact Tr.U9 h
   ·cases h
  ·cases h
theorem Nj {v:b6}{id i o:Nat}(h:v.kill id= .ptr i o):v= .ptr i o:=by
 cases v<;>simp only [b6.kill] at h<;>first|(cases h;done)|(split at h<;>first|(cases h;done)|exact h)|exact h
theorem zR {l:List b6}{id m i o:Nat}(h:(J0 id l)[m]? =some (.ptr i o)):l[m]? =some (.ptr i o):=by
 rw [eu] at h;cases hl:l[m]? with
 |none=>rw [hl] at h;cases h
 |some v =>
  rw [hl] at h;simp only [F1,Option.some.injEq] at h;rw [Nj h]
theorem Tr.W9 {E:Env}{sz bytes id lo len:Nat}{y:b6}(h:W9 E k sz bytes st id lo len y=some st'):Tr N k st st' :=by
 unfold z7.W9 at h;split at h
 ·split at h
  ·rename_i l0 m cs hl0 _
   split at h
   ·cases h
    refine Tr.trans ?_ (Tr.put _);refine ⟨fun p hp=>by simp only [List.any_cons,hp,Bool.or_true],fun m' i o _ h=>zR h,fun s i o h=>zR h,fun id' l' _ ht h=> ?_,by simp [M4],by simp [M4],fun m' _ h=>by simp only [eu,h,F1,b6.kill,J0]⟩;have hne:id' ≠id:=by rintro rfl;simp [Touch.K1] at ht
    have h' :(nD st.H E.lim.base id (.cells (J0 id l0++cs)))[id']? =some (.cells l'):=h;unfold nD at h';rw [s8 (fun e=>hne e.symm)] at h'
    by_cases hb:id' <E.lim.base
    ·by_cases hlt:id' <st.H.length
     ·rw [p7 (by simp;omega),List.getElem?_take_of_lt hb] at h'
      exact ⟨l',h',rfl⟩
     ·rw [q9 (by simp;omega)] at h';cases h'
    ·by_cases hlt:id' <st.H.length
     ·rw [q8 (by simp;omega),List.getElem?_map,List.getElem?_drop] at h'
      rw [show E.lim.base+(id' - (List.take E.lim.base st.H).length)=id' from by simp;omega] at h';cases ho:st.H[id']? with
      |none=>rw [ho] at h';cases h'
      |some o =>
       rw [ho] at h';cases o<;>simp [z6.kill] at h';rename_i l1;exact ⟨l1,rfl,by rw [<- h'];simp [M4]⟩
     ·rw [q9 (by simp;omega)] at h';cases h'
   ·cases h
  ·cases h
 ·cases h
theorem Tr.B9 {E:Env}{f:FuncId}{args:List b6}(aY:∀ id,N id->id<st.H.length)(h:B9 E k f args st=some st'):Tr N k st st' :=by
 unfold z7.B9 at h;split at h
 ·split at h
  ·split at h
   ·cases h
    refine Tr.trans ?_ (Tr.put _);refine Tr.heap (fun p hp=>by simp only [List.any_cons,hp,Bool.or_true]) fun id hN ht=> ?_
    have:=aY id hN;simp [Touch.K1] at ht;omega
   ·cases h
  ·cases h
 ·simp only at h
  generalize H9 st.H E.lim.strict 8 (A9 args)=n at h;generalize (args.headD .any).N7=m at h;split at h
  ·rename_i aK
   split at h
   ·split at h
    ·split at h
     ·rename_i hlen
      cases h;refine Tr.trans ?_ (Tr.put _);refine Tr.heap (fun p hp=>by simp only [List.any_cons,hp,Bool.or_true]) fun id hN ht=> ?_
      have:=aY id hN;simp [Touch.K1] at ht;rw [q8 (by omega),List.getElem?_drop,hlen]
      congr 1;omega
     ·cases h
    ·cases h
   ·split at h
    ·split at h
     ·cases h
      exact Tr.put _
     ·cases h
    ·cases h
   ·split at h
    ·split at h
     ·rename_i hlen
      cases h;refine Tr.trans ?_ (Tr.put _);refine Tr.heap (fun p hp=>by simp only [List.any_cons,hp,Bool.or_true]) fun id hN ht=> ?_
      have:=aY id hN;simp [Touch.K1] at ht;rw [q8 (by simp;omega),List.getElem?_drop]
      congr 1;simp;omega
     ·cases h
    ·cases h
  ·cases h
theorem rE {H H' :o6}{id off:Nat}{vs:List b6}(h:wr H id off vs=some H'){id' :Nat}(hne:id' ≠id):H'[id']? =H[id']? :=by
 unfold wr at h;split at h
 ·split at h
  ·cases h
   rw [s8 (fun e=>hne e.symm)]
  ·cases h
 ·cases h
theorem Tr.Q0 {E:Env}{n:Nat}{a:b6}{x:u5}(h:Q0 E k n st a x=some st'):Tr N k st st' :=by
 unfold z7.Q0 at h;split at h
 ·split at h
  ·split at h
   ·split at h
    ·rename_i H' hw
     cases h;refine Tr.trans (Tr.trans (Tr.D8 x) ?_) (Tr.put _);refine Tr.heap (fun p hp=>by simp only [List.any_cons,hp,Bool.or_true]) fun id' hN ht=> ?_
     refine rE hw ?_;rintro rfl;simp [Touch.K1] at ht
    ·cases h
   ·cases h
  ·cases h
 ·cases h
theorem Tr.X0 {E:Env}{sz:Nat}{zero:List b6}{a:b6}(h:X0 E k sz zero st a=some st'):Tr N k st st' :=by
 unfold z7.X0 at h;split at h
 ·split at h
  ·split at h
   ·rename_i H' hw
    cases h;refine Tr.trans ?_ (Tr.put _);refine Tr.heap (fun p hp=>by simp only [List.any_cons,hp,Bool.or_true]) fun id' hN ht=> ?_
    refine rE hw ?_;rintro rfl;simp [Touch.K1] at ht
   ·cases h
  ·cases h
 ·cases h
  exact Tr.put _
 ·cases h
theorem Tr.T0 {E:Env}{kk:CK}{m key v:b6}(h:T0 E k kk st m key v=some st'):Tr N k st st' :=by
 unfold z7.T0 at h;split at h
 ·split at h
  ·split at h
   ·split at h
    ·split at h
     ·cases h
      refine Tr.trans ?_ (Tr.put _);refine Tr.heap (fun p hp=>by simp only [List.any_cons,hp,Bool.or_true]) fun id' hN ht=> ?_
      rw [s8];rintro rfl;simp [Touch.K1] at ht
     ·cases h
    ·cases h
   ·cases h
  ·cases h
 ·cases h
theorem Tr.K5 {E:Env}{j4:List n9}{u9:Option Nat}{sz bytes:Nat}{ob:Bool}{x:u5}{y:b6}(hi:∀ i,u9=some i->i<st.H.length)(hn:¬ N (newId st u9))
  (h:K5 E j4 u9 k sz bytes ob st x y=some st'):Tr N k st st' :=by
 unfold z7.K5 at h;split at h
 ·split at h
  ·split at h
   ·split at h
    ·cases h;exact Tr.put _
    ·cases h;exact (Tr.newObj hi hn _).trans (Tr.put _)
   ·cases h
  ·split at h
   ·split at h
    ·rename_i ht
     split at h
     ·cases h;exact (Tr.P6 ht).trans (Tr.put _)
     ·cases h
    ·cases h
   ·cases h
 ·cases h
theorem Tr.E9 {E:Env}{j4:List n9}{u9:Option Nat}{op:y6}(aY:∀ id,N id->id<st.H.length)(hi:∀ i,u9=some i->i<st.H.length)(hn:op.A0=true->¬ N (newId st u9))
  (h:E9 E j4 u9 k st op=some st'):Tr N k st st' :=by
 cases op<;>simp only [z7.E9] at h<;>try (cases h;done)
 case alloc zero=>cases h;exact (Tr.newObj hi (hn rfl) _).trans (Tr.put _)
 case box x =>
  split at h
  ·cases h;exact (Tr.newObj hi (hn rfl) _).trans (Tr.put _)
  ·cases h
 case makeMap=>cases h;exact (Tr.newObj hi (hn rfl) _).trans (Tr.put _)
 case A1 sz len zero parts ob =>
  cases ob
  ·cases h
  ·simp only at h
   split at h
   ·split at h
    ·cases h;exact (Tr.newObj hi (hn rfl) _).trans (Tr.put _)
    ·cases h
   ·cases h
 case store n a x=>exact Tr.Q0 h
 case append sz bytes ob x y =>
  split at h
  ·split at h
   ·exact Tr.W9 h
   ·cases h
  ·cases ob with
   |true=>exact Tr.K5 hi (hn rfl) h
   |false =>
    unfold z7.K5 at h;simp only [b7,if_false] at h;split at h
    ·split at h
     ·split at h
      ·rename_i ht
       split at h
       ·cases h;exact (Tr.P6 ht).trans (Tr.put _)
       ·cases h
      ·cases h
     ·cases h
    ·cases h
 case clear sz zero x=>exact Tr.X0 h
 case call f xs=>exact Tr.B9 aY h
 case au x xs =>
  split at h
  ·exact Tr.B9 aY h
  ·cases h
 case dn=>exact Tr.T0 h
 case defer x =>
  split at h
  ·split at h
   ·cases h;exact Tr.put _
   ·cases h
  ·cases h
theorem Tr.D7 {E:Env}{j4:List n9}{u9:Option Nat}{op:y6}{rs:List Nat}(aY:∀ id,N id->id<st.H.length)(hi:∀ i,u9=some i->i<st.H.length)(hn:op.A0=true->¬ N (newId st u9))
  (h:D7 E j4 u9 k op st=some (st',rs)):Tr N k st st' :=by
 unfold z7.D7 at h;split at h
 ·split at h
  ·rename_i he
   cases h;exact Tr.E9 aY hi hn he
  ·cases h
 ·split at h
  ·cases h
   exact (Tr.D8 _).trans (Tr.put _)
  ·split at h
   ·cases h
    exact Tr.put _
   ·cases h
end
structure uN (u9:Option Nat)(X:Cx)(l:H7)(S:Nat->Prop)(entry:Nat)(st:F0)(a:Act)(w:World)(G:Gh)(I:S4)(N:Nat->Prop)
  (st' :F0) (k:Nat) (x' :Value) (w' :World) (G' :Gh) (I' :S4) (N' :Nat->Prop):Prop where
 mid:cz X l S entry st a w G I N st' k x' w' G' I' N'
 cm:∀ id,N' id->id<st'.H.length
 old:∀ id,id<st.H.length->N' id->N id\/u9=some id
def dN (P:Program)(o:Oper)(a:Act)(w:World)(R:Act->World->Prop):Prop :=
 ∀ (K:Act->World->Prop) (Q:Exit->Act->World->Prop),(∀ a' w',R a' w' ->K a' w')->o.wp P a w K Q
section
variable {P:Program} {o:Oper} {a:Act} {w w' :World} {R:Act->World->Prop}
theorem dN.value {x:Value}(h:(execOp a.eval o).run P w= .ok (.value x) w')(hR:R (a.put o.dst x) w'):dN P o a w R:=by
 intro K Q hK;simp only [Oper.wp,h,Oper.upon];exact hK _ _ hR
theorem dN.skip (h:(execOp a.eval o).run P w= .ok .skip w')(hR:R (a.put o.dst undef) w'):dN P o a w R:=by
 intro K Q hK;simp only [Oper.wp,h,Oper.upon];exact hK _ _ hR
theorem dN.defer {d:Deferred}(h:(execOp a.eval o).run P w= .ok (.defer d) w')(hR:R ({ a with defers:=d::a.defers }.put o.dst undef) w'):dN P o a w R:=by
 intro K Q hK;simp only [Oper.wp,h,Oper.upon];exact hK _ _ hR
theorem dN.enter {f:FuncId}{args:Array Value}(h:(execOp a.eval o).run P w= .ok (.enter f args) w)(hR:Calls P f args w fun e w' =>∃ x,e= .returned x/\R (a.put o.dst x) w'):dN P o a w R:=by
 intro K Q hK;simp only [Oper.wp,h,Oper.upon];refine Calls.mono hR ?_;rintro e w' ⟨x,rfl,hx⟩;exact hK _ _ hx
end
def uO (P:Program)(ck:Operand->u5->Bool)(o:Oper)(op:y6):Bool :=
 match o.op,op with
 | .call ⟨.value (.func f),args,_⟩,.call g ys=>f==g&&Mz ck args.toList ys&&U1 P f
 | .call ⟨.value x,args,_⟩,.au y ys=>ck x y&&Mz ck args.toList ys
 |_,_=>false
def Dh (ck:Operand->u5->Bool)(o:Oper)(op:y6):Bool :=
 match o.op,op with
 | .defer ⟨.value x,args,_⟩,.defer y=>ck x y&&args.isEmpty
 |_,_=>false
def Mx (ck:Operand->u5->Bool)(o:Oper)(y:u5):Bool :=
 match o.op with
 | .move x=>ck x y
 | .assign x=>ck x y
 |_=>false
def aH (P:Program)(ck:Operand->u5->Bool)(o:Oper)(op:y6):Bool :=
 match op with
 | .N8 y=>Mx ck o y
 | .alloc _=>cX P ck o op
 | .box _=>cX P ck o op
 | .makeMap=>cX P ck o op
 | .A1 .. =>cX P ck o op
 | .store .. =>vN P ck o op
 | .append _ _ _ _ _=>fR P ck o op
 | .dn .. =>Gz P ck o op
 | .call .. =>uO P ck o op
 | .au .. =>uO P ck o op
 | .defer _=>Dh ck o op
 | .clear .. =>vL P ck o op
 | .bad=>true
 |op=>B0 P ck o op
section
variable {P:Program} {X:Cx} {l:H7} {S:Nat->Prop} {st st' :F0} {a:Act} {w w' :World} {G G' :Gh} {I I' :S4} {N N' :Nat->Prop} {D:Nat->Bool} {j4:List n9}
theorem uN.jC {u9:Option Nat}{entry k:Nat}{x:Value}(aY:∀ id,N id->id<st.H.length)(h:cz X l S entry st a w G I N st' k x w' G' I' N):uN u9 X l S entry st a w G I N st' k x w' G' I' N :=
 ⟨h,fun id hid=>Nat.lt_of_lt_of_le (aY id hid) h.len,fun _ _ h=>Or.inl h⟩
theorem uN.Nv {entry k:Nat}{x:Value}{u9:Option Nat}(aY:∀ id,N id->id<st.H.length){o:z6}{v:b6}(hi:∀ i,u9=some i->i<st.H.length)
  (h:cz X l S entry st a w G I N (put (J5 st u9 o) k v) k x w' G' I' N') (hN:∀ i,N' i↔N i\/i=newId st u9) :
  uN u9 X l S entry st a w G I N (put (J5 st u9 o) k v) k x w' G' I' N' :=by
 refine ⟨h,fun id hid=> ?_,fun id hlt hid=> ?_⟩
 ·rcases (hN id).1 hid with h1|rfl
  ·exact Nat.lt_of_lt_of_le (aY id h1) h.len
  ·cases u9 with
   |none=>simp [put,J5,newId]
   |some i=>simp only [put,J5,newId,Option.getD_some,List.length_set];exact hi i rfl
 ·rcases (hN id).1 hid with h1|rfl
  ·exact Or.inl h1
  ·cases u9 with
   |none=>simp [newId] at hlt
   |some i=>exact Or.inr rfl
theorem oI {l1 l2:List b6}{v1 v2:List Value}:∀ (_:G8 G I N w l1 v1) (_:G8 G I N w l2 v2),G8 G I N w (l1++l2) (v1++v2):=by
 induction l1 generalizing v1 with
 |nil=>intro h1 h2;simp [G8] at h1;subst h1;simpa using h2
 |cons b bs ih =>
  intro h1 h2;simp only [G8] at h1;obtain ⟨x,xs,rfl,h3,h4⟩:=h1;simp only [D9,G8];exact ⟨x,xs++v2,rfl,h3,ih h4 h2⟩
structure iZ (X:Cx)(st:F0)(a:Act)(w:World)(I:S4)(op:y6)(x:Value):Prop where
 N8:∀ s t,op= .N8 (.slot s)->X.names[s]? =some t->x=a.tmps.getD t undef
 load:∀ y id off,op= .load none y->Z6 st y=some (id,off)->w.cell? (ad (I id).1 ((I id).2+off))=some x
theorem iZ.other {X:Cx}{st:F0}{a:Act}{w:World}{I:S4}{op:y6}{x:Value}(h1:∀ y,op≠ .N8 y)(h2:∀ n y,op≠ .load n y):iZ X st a w I op x :=
 ⟨fun _ _ h=>absurd h (h1 _),fun _ _ _ h=>absurd h (h2 _ _)⟩
theorem RR {st:F0}{y:u5}{id off:Nat}(h:Z6 st y=some (id,off)):F8 st.T st.L y= .ptr id off:=by
 unfold Z6 at h;split at h
 ·split at h
  ·rename_i hl
   cases h;simp [F8,List.getD,hl,b6.G9]
  ·cases h
 ·split at h
  ·cases h
  ·split at h
   ·rename_i hl
    cases h;simp [F8,List.getD,hl,b6.G9]
   ·cases h
 ·cases h
theorem Lr {ck:Operand->u5->Bool}{η:Operand->Value}{ρ:u5->b6}{H:o6}(hρ:aF ck G I N w η ρ)(hH:HR G I N w H){o:Oper}{y:u5}(hc:B0 P ck o (.load none y)=true){v:b6}{rs:List Nat}
  (h:m7 ρ H (.load none y)=some (v,rs)) {id off:Nat} (hp:ρ y= .ptr id off) {x:Value} (hx:(execOp η o).run P w= .ok (.value x) w):w.cell? (ad (I id).1 ((I id).2+off))=some x:=by
 obtain ⟨dst,bK,ty,pos,after,guard⟩:=o;cases bK<;>simp [B0] at hc;rename_i t x';have h1:=hρ _ _ hc.1;have ha:er P t=some false:=by simpa [oY] using hc.2
 simp only [m7,hp] at h;rw [hp] at h1;simp only [VR] at h1;split at h
 ·rename_i u hu
  obtain ⟨_,xs,g1,_,g3,g4⟩:=hH.rd hu (by omega);obtain ⟨z,rfl⟩:∃ z,xs=[z]:=by
   match xs,g1 with
   |[z],_=>exact ⟨z,rfl⟩
  have hz:=g3 0 z rfl;simp at hz;simp [execOp,Instr.loadAt,h1.2,Instr.sureAddr,loadVar,cL ha,hz] at hx;rw [hz,hx]
 ·cases h
def CQ (P:Program)(idle:FuncId->Bool)(u9:Option Nat)(X:Cx)(l:H7)(S:Nat->Prop)(entry:Nat)(st:F0)(a:Act)(w:World)(G:Gh)(I:S4)(N:Nat->Prop)(st' :F0)(k:Nat)(o:Oper)(op:y6)(a' :Act)(w' :World):Prop :=
 ∃ x ds G' I' N',iZ X st a w I op x/\a' =({ a with defers:=ds }:Act).put o.dst x/\(ds=a.defers\/∃ d,ds=d::a.defers/\CV P idle d)/\uN u9 X l S entry st a w G I N st' k x w' G' I' N'
theorem EJ {E:Env}(CP:lG P E.cf E.prom)(dU:∀ f args H lm r,E.cf f args H lm=some r->U1 P f=true)(hE:E.lim=l)(h:RI X l S st a w G I N)(hpv:PV X j4 S st a w I)(hT:st.T.length=X.names.length)
  (aY:∀ id,N id->id<st.H.length) (hb:l.base<=st.H.length) (hs:l.strict<=l.base) (hD:∀ j,D j=true->S j) {k:Nat} (hk:¬ S k) (aq:k<st.L.length) {o:Oper} {op:y6} (hc:aH P (X.ck D) o op=true)
  {u9:Option Nat} (hid:op.A0=true->CU l st N u9) {rs:List Nat} (he:D7 E j4 u9 k op st=some (st',rs)) :
  dN P o a w (CQ P E.idle u9 X l S E.entry st a w G I N st' k o op):=by
 have hρ:=h.T6 hD;have fin:∀ {x:Value} {w' :World} {G' :Gh} {I' :S4} {N' :Nat->Prop},iZ X st a w I op x->uN u9 X l S E.entry st a w G I N st' k x w' G' I' N' ->CQ P E.idle u9 X l S E.entry st a w G I N st' k o op (a.put o.dst x) w' :=
  fun {x w' G' I' N'} hF hS=>⟨x,a.defers,G',I',N',hF,rfl,Or.inl rfl,hS⟩
 have Oa:∀ {v:b6} {rs:List Nat},(∀ y,op≠ .N8 y)->B0 P (X.ck D) o op=true->m7 (F8 st.T st.L) st.H op=some (v,rs)->st' =put st k v->dN P o a w (CQ P E.idle u9 X l S E.entry st a w G I N st' k o op):=by
  intro v rs hm h1 h2 h3;subst h3;obtain ⟨x,g1,g2⟩:=Ht (P:=P) (fun v=>by rfl) hρ h.H h1 h2;refine dN.value g1 (fin ⟨fun s t e=>absurd e (hm _),fun y id off e hp=> ?_⟩ (uN.jC aY (cz.same h hk aq E.entry g2.place)));subst e;exact Lr hρ h.H h1 h2 (RR hp) g1
 have Df:(∀ y,op≠ .N8 y)->(∀ n y,op≠ .load n y)->∀ (f:FuncId) (args:List b6) (M0:Array Value),G8 G I N w args M0.toList->B9 E k f args st=some st' ->(execOp a.eval o).run P w=(callFunc f M0).run P w->dN P o a w (CQ P E.idle u9 X l S E.entry st a w G I N st' k o op):=by
  intro hm hl f args M0 h1 h2 h3;have hcan:U1 P f=true:=by
   unfold B9 at h2;split at h2
   ·split at h2
    ·rename_i GM
     exact dU f _ _ _ _ GM
    ·cases h2
   ·simp only at h2
    split at h2
    ·split at h2
     ·split at h2
      ·rename_i GM
       exact dU f _ _ _ _ GM
      ·cases h2
     ·split at h2
      ·rename_i GM
       exact dU f _ _ _ _ GM
      ·cases h2
     ·split at h2
      ·rename_i GM
       exact dU f _ _ _ _ GM
      ·cases h2
    ·cases h2
  refine dN.enter (f:=f) (args:=M0) (by rw [h3];exact qS hcan M0) ?_;refine Calls.mono (KU CP hE h aY hb hs hk aq E.entry h1 h2) ?_;rintro e w' ⟨x,G',I',N',rfl,hC⟩;exact ⟨x,rfl,fin (iZ.other hm hl) ⟨hC.mid,hC.cm,fun id hlt hid=>Or.inl (hC.old id hlt hid)⟩⟩
 unfold D7 at he;cases op
 case N8 y =>
  simp only [y6.E2,b7,if_false] at he;cases he;simp only [aH] at hc;have key:∀ x,X.ck D x y=true->(execOp a.eval o).run P w= .ok (.value (a.eval x)) w->dN P o a w (CQ P E.idle u9 X l S E.entry st a w G I N (put (D8 st y).2 k (D8 st y).1) k o (.N8 y)):=by
   intro x hx hrun;obtain ⟨G1,hX⟩:=h.D8 hD hx (pl:= .loc k) (by simp);have hM:=cz.same hX.ri hk (by rw [yh];exact aq) E.entry hX.val;exact dN.value hrun (fin ⟨fun s t e hn=>by cases e;simp only [Cx.ck] at hx;split at hx<;>simp_all [Act.eval],fun _ _ _ e=>by cases e⟩ (uN.jC aY (cz.pre hX.ext hX.keeps hX.obj (yg st y) hM)))
  obtain ⟨dst,bK,ty,pos,after,guard⟩:=o;cases bK<;>simp only [Mx] at hc<;>try (cases hc;done)
  ·exact key _ hc (by simp [execOp])
  ·exact key _ hc (by simp [execOp])
 case alloc zero =>
  simp only [y6.E2,if_true,E9] at he;cases he;have h1:=hid rfl;obtain ⟨x,w',G',I',N',g1,g2,g3⟩:=Lt h hk aq E.entry h1 (by simpa [aH] using hc);exact dN.value g1 (fin (iZ.other (by simp) (by simp)) (uN.Nv aY h1.inside g2 g3))
 case box y =>
  simp only [y6.E2,if_true,E9] at he;split at he
  ·rename_i hcs
   split at hcs
   ·rename_i cs oU
    cases hcs;cases he;have h1:=hid rfl;obtain ⟨x,w',G',I',N',g1,g2,g3⟩:=Ro h hρ hk aq E.entry h1 (by simpa [aH] using hc) oU;exact dN.value g1 (fin (iZ.other (by simp) (by simp)) (uN.Nv aY h1.inside g2 g3))
   ·cases hcs
  ·cases he
 case makeMap =>
  simp only [y6.E2,if_true,E9] at he;cases he;have h1:=hid rfl;obtain ⟨x,w',G',I',N',g1,g2,g3⟩:=Rp (P:=P) h hk aq E.entry h1 (by simpa [aH] using hc);exact dN.value g1 (fin (iZ.other (by simp) (by simp)) (uN.Nv aY h1.inside g2 g3))
 case A1 sz len zero parts ob =>
  cases ob with
  |false =>
   simp only [y6.E2,b7,if_false] at he;split at he
   ·rename_i v rs' hp
    cases he;obtain ⟨x,w',G',g1,g2⟩:=Lu h hρ hk aq E.entry (by simpa [aH] using hc) hp;exact dN.value g1 (fin (iZ.other (by simp) (by simp)) (uN.jC aY g2))
   ·cases he
  |true =>
   simp only [y6.E2,if_true,E9] at he;split at he
   ·rename_i hcs
    split at hcs
    ·rename_i cs oU
     split at hcs
     ·rename_i hl
      cases hcs;cases he;have h1:=hid rfl;obtain ⟨x,w',G',I',N',g1,g2,g3⟩:=BR h hρ hk aq E.entry h1 (by simpa [aH] using hc) oU hl.2;exact dN.value g1 (fin (iZ.other (by simp) (by simp)) (uN.Nv aY h1.inside g2 g3))
     ·cases hcs
    ·cases hcs
   ·cases he
 case store n x y =>
  simp only [y6.E2,if_true,E9] at he;split at he
  ·rename_i hst
   cases he;obtain ⟨w',G',g1,g2⟩:=KW h hD hk aq E.entry (by simpa [aH] using hc) hE hst;exact dN.skip g1 (fin (iZ.other (by simp) (by simp)) (uN.jC aY g2))
  ·cases he
 case append sz bytes ob x y =>
  simp only [aH] at hc;simp only [y6.E2,if_true,E9] at he;split at he
  ·rename_i hst
   cases he;split at hst
   ·rename_i id z lo len hx
    split at hst
    ·rename_i hz
     subst hz;obtain ⟨v,w',G',I',g1,g2⟩:=yT h hD hk aq hc hE hx hst;exact dN.value g1 (fin (iZ.other (by simp) (by simp)) (uN.jC aY g2))
    ·cases hst
   ·cases ob with
    |false =>
     obtain ⟨v,w',G',g1,g2⟩:=GC h hpv hT hD hk aq E.entry hc hE hst;exact dN.value g1 (fin (iZ.other (by simp) (by simp)) (uN.jC aY g2))
    |true =>
     have h1:=hid rfl
     rcases yS h hpv hT hD hk aq E.entry h1 hc hE hst with ⟨v,w',G',g1,g2⟩|⟨v,w',G',I',N',ob,av,g1,rfl,g2,g3⟩
     ·exact dN.value g1 (fin (iZ.other (by simp) (by simp)) (uN.jC aY g2))
     ·exact dN.value g1 (fin (iZ.other (by simp) (by simp)) (uN.Nv aY h1.inside g2 g3))
  ·cases he
 case dn kk m ky v =>
  simp only [y6.E2,if_true,E9] at he;split at he
  ·rename_i hst
   cases he;obtain ⟨w',g1,g2⟩:=GD h hD hk aq E.entry (by simpa [aH] using hc) hE hst;exact dN.skip g1 (fin (iZ.other (by simp) (by simp)) (uN.jC aY g2))
  ·cases he
 case call f ys =>
  simp only [y6.E2,if_true,E9] at he;split at he
  ·rename_i hst
   cases he;simp only [aH,uO] at hc;split at hc
   ·rename_i f' args _ g ys' hop heq
    cases heq;simp only [b5,beq_iff_eq] at hc;obtain ⟨⟨rfl,hcs⟩,hcan⟩:=hc;refine Df (by simp) (by simp) f' (ys.map (F8 st.T st.L)) (args.map a.eval) (by simpa using fS hρ _ _ hcs) hst ?_;simp [execOp,hop,resolve,Act.eval,Deferred.ofValue,invoke]
   ·rename_i heq;cases heq
   ·cases hc
  ·cases he
 case au y ys =>
  simp only [y6.E2,if_true,E9] at he;split at he
  ·rename_i hst
   cases he;simp only [aH,uO] at hc;split at hc
   ·rename_i heq;cases heq
   ·rename_i x args _ y' ys' hop heq
    cases heq;simp only [b5] at hc;have hv:=hρ _ _ hc.1;split at hst
    ·rename_i f first caps hy
     rw [hy] at hv;simp only [VR] at hv;obtain ⟨vf,vc,e1,e2,e3⟩:=hv;refine Df (by simp) (by simp) f (first++ys.map (F8 st.T st.L)++caps) (vf++args.map a.eval++vc) ?_ hst ?_
     ·simp only [Array.toList_append,Array.toList_map]
      exact oI (oI e2 (fS hρ _ _ hc.2)) e3
     ·simp [execOp,hop,resolve,e1,Deferred.ofValue,invoke]
    ·cases hst
   ·cases hc
  ·cases he
 case defer y =>
  simp only [y6.E2,if_true,E9] at he;split at he
  ·rename_i hst
   cases he;simp only [aH,Dh] at hc;split at hc
   ·rename_i x args _ y' hop heq
    cases heq;simp only [b5] at hc;have hv:=hρ _ _ hc.1;split at hst
    ·rename_i f first caps hy
     split at hst
     ·rename_i zJ
      cases hst;rw [hy] at hv;simp only [VR] at hv;obtain ⟨vf,vc,e1,e2,e3⟩:=hv;have hrun:(execOp a.eval o).run P w= .ok (.defer { target:= .fn (.func f) vc,args:=vf++args.map a.eval }) w:=by
       simp [execOp,hop,resolve,e1,Deferred.ofValue]
      refine dN.defer hrun ⟨undef,_,G,I,N,iZ.other (by simp) (by simp),rfl,Or.inr ⟨_,rfl,f,vc,rfl,zJ⟩,uN.jC aY (cz.same h hk aq E.entry (by simp [VR]))⟩
     ·cases hst
    ·cases hst
   ·cases hc
  ·cases he
 case clear sz zero y =>
  simp only [y6.E2,if_true,E9] at he;split at he
  ·rename_i hst
   cases he;obtain ⟨w',g1,g2⟩:=KV h hD hk aq E.entry (by simpa [aH] using hc) hE hst;exact dN.value g1 (fin (iZ.other (by simp) (by simp)) (uN.jC aY g2))
  ·cases he
 case bad=>simp [y6.E2,m7] at he
 all_goals
  simp only [y6.E2,b7,if_false] at he;split at he
  ·rename_i hp
   cases he;exact Oa (by simp) (by simpa only [aH] using hc) hp rfl
  ·cases he
end
def lJ (names:List Tmp):Option Tmp->Option Nat->Bool
 |none,none=>true
 |some d,none=> !names.contains d
 |some d,some s=>names[s]? ==some d
 |none,some _=>false
def lK (X:Cx)(D:Nat->Bool):Option (Nat×Bool)->Option (Nat×Bool)->Bool
 |none,none=>true
 |some (g,b),some (g',b')=>g==g' &&b==b' &&D g&&(match (X.ops[g]?).bind (·.dst) with
  |some d=> !X.names.contains d
  |none=>false)
 |_,_=>false
def oK (X:Cx)(D:Nat->Bool)(o:Oper)(i:n9):Bool :=
 aH X.P (X.ck D) o i.op&&lJ X.names o.dst i.dst&&lK X D o.guard i.guard
structure Stat (X:Cx)(nt:Nat):Prop where
 dup:∀ (i j:Nat) d,(X.ops[i]?).bind (·.dst)=some d->(X.ops[j]?).bind (·.dst)=some d->X.names.contains d=false->i=j
 lt:∀ (i:Nat) d,(X.ops[i]?).bind (·.dst)=some d->d<nt
 nod:∀ (s s' :Nat) t,X.names[s]? =some t->X.names[s']? =some t->s=s'
def tw (X:Cx)(S:Nat->Prop):u5->Prop
 | .loc m=>S m/\∃ t,(X.ops[m]?).bind (·.dst)=some t/\X.names.contains t=false
 | .slot s=>∃ t,X.names[s]? =some t
 | .const _=>True
structure Rg (X:Cx)(j4:List n9)(E:Env)(nt:Nat)(S:Nat->Prop)(st:F0)(a:Act)(w:World)(G:Gh)(I:S4)(N:Nat->Prop):Prop where
 ri:RI X E.lim S st a w G I N
 pv:PV X j4 S st a w I
 cl:∀ (j:Nat) ai y,S j->j4[j]? =some ai->ai.op=y6.load none y->tw X S y
 U7:st.T.length=X.names.length
 gq:st.L.length=j4.length
 cm:∀ id,N id->id<st.H.length
 Dp:E.entry<=st.H.length
 size:a.tmps.size=nt
 idle:∀ d,d ∈ a.defers->CV X.P E.idle d
structure W5 (E:Env)(H0:o6)(w0:World)(G0:Gh)(I0:S4)(N0:Nat->Prop)(H:o6)(w:World)(G:Gh)(I:S4)(N:Nat->Prop):Prop where
 ext:Ext G0 w0 G w
 ey:jc E.lim G0 w0 G w
 inj:∀ id,id<E.entry->N0 id->I id=I0 id
 mono:∀ id,id<E.entry->N0 id->N id
 old:∀ id,id<E.entry->N id->N0 id
 hle:∀ (id:Nat) (o' :z6),id<E.lim.base->H[id]? =some o' ->o'.N7<=id+1\/∃ o:z6,H0[id]? =some o/\o'.N7<=o.N7
theorem W5.refl (E:Env)(H:o6)(w:World)(G:Gh)(I:S4)(N:Nat->Prop):W5 E H w G I N H w G I N :=
 ⟨Ext.refl _ _,jc.refl _ _ _,fun _ _ _=>rfl,fun _ _ h=>h,fun _ _ h=>h,fun _ o _ h=>Or.inr ⟨o,h,k9 _⟩⟩
theorem W5.trans {E:Env}{H0 H1 H2:o6}{w0 w1 w2:World}{G0 G1 G2:Gh}{I0 I1 I2:S4}{N0 N1 N2:Nat->Prop}
  (h:W5 E H0 w0 G0 I0 N0 H1 w1 G1 I1 N1) (k:W5 E H1 w1 G1 I1 N1 H2 w2 G2 I2 N2):W5 E H0 w0 G0 I0 N0 H2 w2 G2 I2 N2 where
 ext:=h.ext.trans k.ext
 ey:=h.ey.trans k.ey
 inj id hid hN:=(k.inj id hid (h.mono id hid hN)).trans (h.inj id hid hN)
 mono id hid hN:=k.mono id hid (h.mono id hid hN)
 old id hid hN:=h.old id hid (k.old id hid hN)
 hle id o' hb ho:=by
  rcases k.hle id o' hb ho with h1|⟨o1,h1,h2⟩
  ·exact Or.inl h1
  ·rcases h.hle id o1 hb h1 with h3|⟨o,h3,h4⟩
   ·exact Or.inl (by omega)
   ·exact Or.inr ⟨o,h3,by omega⟩
section
variable {X:Cx} {j4:List n9} {E:Env} {nt:Nat} {S:Nat->Prop} {st Q3 aj:F0} {a:Act} {w w' :World} {G G' :Gh} {I I' :S4} {N N' :Nat->Prop} {D:Nat->Bool}
theorem Rg.aC7 (h:Rg X j4 E nt S st a w G I N){y:u5}(hy:tw X S y){id off:Nat}(hp:Z6 st y=some (id,off)):N id:=by
 unfold Z6 at hp;split at hp
 ·rename_i m
  split at hp
  ·rename_i hl
   cases hp;obtain ⟨h1,t,h2,h3⟩:=hy;have:=h.ri.L m h1 t h2 h3;rw [X3 hl] at this;simp only [VR] at this;exact this.1
  ·cases hp
 ·rename_i s
  split at hp
  ·cases hp
  ·split at hp
   ·rename_i hl
    cases hp;obtain ⟨t,ht⟩:=hy;have:=h.ri.T s t ht;rw [X3 hl] at this;simp only [VR] at this;exact this.1
   ·cases hp
 ·cases hp
theorem Q8 {u9:Option Nat}{k:Nat}{dst:Option Nat}(h:u7 u9 Q3 k dst=some aj) :
  (dst=none/\aj=Q3)\/∃ s n7,dst=some s/\s<Q3.T.length/\aj={ (D8 Q3 (.loc k)).2 with T:=Q3.T.set s (D8 Q3 (.loc k)).1,n7 }/\(n7= .slot s::Q3.n7\/(n7=Q3.n7/\Q3.n7.any (Touch.R1 s)=true)):=by
 unfold u7 at h;split at h
 ·cases dst with
  |none=>cases h;exact Or.inl ⟨rfl,rfl⟩
  |some s =>
   simp only [G4] at h;split at h
   ·rename_i hs
    cases h;exact Or.inr ⟨s,_,rfl,hs,rfl,Or.inl rfl⟩
   ·cases h
 ·cases dst with
  |none=>cases h;exact Or.inl ⟨rfl,rfl⟩
  |some s =>
   simp only [X6] at h;split at h
   ·rename_i hs
    simp only [b5,decide_eq_true_eq] at hs;cases h;refine Or.inr ⟨s,Q3.n7,rfl,hs.1,?_,Or.inr ⟨rfl,hs.2⟩⟩;have:(D8 Q3 (.loc k)).2.n7=Q3.n7:=Pc _ _;cases hx:(D8 Q3 (.loc k)).2 with
    |mk T H L n7=>rw [hx] at this;simp only at this;subst this;rfl
   ·cases h
theorem xW {u9:Option Nat}{k:Nat}{dst:Option Nat}(h:u7 u9 Q3 k dst=some aj)(p:Touch->Bool)(hp:Q3.n7.any p=true):aj.n7.any p=true:=by
 rcases Q8 h with ⟨_,rfl⟩|⟨s,n7,_,_,rfl,rfl|⟨rfl,_⟩⟩
 ·exact hp
 ·simp only [List.any_cons,hp,Bool.or_true]
 ·exact hp
theorem xU {u9:Option Nat}{k s:Nat}{dst:Option Nat}(h:u7 u9 Q3 k dst=some aj)(hd:dst=some s):aj.n7.any (Touch.R1 s)=true:=by
 rcases Q8 h with ⟨h0,_⟩|⟨s',n7,h1,_,rfl,rfl|⟨rfl,h2⟩⟩
 ·rw [h0] at hd;cases hd
 ·rw [h1] at hd;cases hd;simp [Touch.R1]
 ·rw [h1] at hd;cases hd;exact h2
theorem mO {u9:Option Nat}{k:Nat}{dst:Option Nat}(h:u7 u9 Q3 k dst=some aj):aj.H=Q3.H:=by
 rcases Q8 h with ⟨_,rfl⟩|⟨s,n7,_,_,rfl,_⟩
 ·rfl
 ·exact yg _ _
theorem EV {u9:Option Nat}{k:Nat}{dst:Option Nat}(h:u7 u9 Q3 k dst=some aj):aj.L.length=Q3.L.length:=by
 rcases Q8 h with ⟨_,rfl⟩|⟨s,n7,_,_,rfl,_⟩
 ·rfl
 ·exact yh _ _
theorem EW {u9:Option Nat}{k:Nat}{dst:Option Nat}(h:u7 u9 Q3 k dst=some aj):aj.T.length=Q3.T.length:=by
 rcases Q8 h with ⟨_,rfl⟩|⟨s,n7,_,_,rfl,_⟩
 ·rfl
 ·simp
theorem pJ (st:F0)(k m:Nat)(h:m≠k):(D8 st (.loc k)).2.L[m]? =st.L[m]? :=by
 simp only [D8];split
 ·simp only
  rw [s8 (fun e=>h e.symm)]
 ·rfl
theorem EU {u9:Option Nat}{k:Nat}{dst:Option Nat}(h:u7 u9 Q3 k dst=some aj){m:Nat}(hm:m≠k):aj.L[m]? =Q3.L[m]? :=by
 rcases Q8 h with ⟨_,rfl⟩|⟨s,n7,_,_,rfl,_⟩
 ·rfl
 ·exact pJ Q3 k m hm
theorem HS {u9:Option Nat}{k:Nat}{dst:Option Nat}(h:u7 u9 Q3 k dst=some aj){y:u5}(hy:∀ m,y= .loc m->m≠k){id off:Nat}(hp:Z6 aj y=some (id,off)):Z6 Q3 y=some (id,off):=by
 cases y with
 |const v=>exact hp
 |loc m =>
  simp only [Z6] at hp ⊢;rw [EU h (hy m rfl)] at hp;exact hp
 |slot s' =>
  simp only [Z6] at hp ⊢;split at hp
  ·cases hp
  ·rename_i hn
   have hn' :aj.n7.any (Touch.R1 s')=false:=by simpa using hn
   rw [if_neg (by rw [gv (xW h) hn'];simp)];have hne:dst≠some s' :=by
    intro e;rw [xU h e] at hn';cases hn'
   have:aj.T[s']? =Q3.T[s']? :=by
    rcases Q8 h with ⟨_,rfl⟩|⟨s,n7,h1,_,rfl,_⟩
    ·rfl
    ·simp only
     rw [s8 (fun e=>hne (by rw [h1,e]))]
   rw [this] at hp;exact hp
theorem Tr.ptr {k:Nat}(h:Tr N k st Q3){y:u5}(hy:∀ m,y= .loc m->m≠k){id off:Nat}(hp:Z6 Q3 y=some (id,off)):Z6 st y=some (id,off):=by
 cases y with
 |const v=>exact hp
 |loc m =>
  simp only [Z6] at hp ⊢;split at hp
  ·rename_i hl
   cases hp;rw [h.L m _ _ (hy m rfl) hl]
  ·cases hp
 |slot s =>
  simp only [Z6] at hp ⊢;split at hp
  ·cases hp
  ·rename_i hn
   rw [if_neg (by rw [gv h.n7 (by simpa using hn)];simp)];split at hp
   ·rename_i hl
    cases hp;rw [h.T s _ _ hl]
   ·cases hp
theorem aE {d:Tmp}{x:Value}(h:d<a.tmps.size):(a.put (some d) x).tmps.getD d undef=x:=by
 simp [Act.put,h]
theorem V7 {dst:Option Tmp}{t:Tmp}{x:Value}(h:dst≠some t):(a.put dst x).tmps.getD t undef=a.tmps.getD t undef:=by
 cases dst with
 |none=>rfl
 |some d =>
  have:d≠t:=fun e=>h (by rw [e])
  simp [Act.put,Array.getElem?_setIfInBounds_ne this]
theorem EA {dst:Option Tmp}{x:Value}:(a.put dst x).tmps.size=a.tmps.size:=by
 cases dst<;>simp [Act.put]
theorem jY {dst:Option Tmp}{x:Value}:(a.put dst x).defers=a.defers:=by
 cases dst<;>simp [Act.put]
theorem RI.defers {l:H7}{ds:List Deferred}(h:RI X l S st a w G I N):RI X l S st { a with defers:=ds } w G I N :=
 ⟨h.T,h.L,h.H,h.wf,h.U6⟩
theorem RI.after {l:H7}(hst:Stat X nt)(hsz:a.tmps.size=nt)(hT:Q3.T.length=X.names.length){k:Nat}(hk:¬ S k)(aq:k<Q3.L.length){o:Oper}(ho:X.ops[k]? =some o){dst:Option Nat}(hd:lJ X.names o.dst dst=true)
  (h:RI X l S Q3 a w G I N) {x:Value} (hv:VR G I N w (.loc k) (Q3.L.getD k .any) x) {u9:Option Nat} (hts:u7 u9 Q3 k dst=some aj) :
  ∃ G',Ext G w G' w/\(∀ id off,aN (.cell id off) G w G' w)/\(∀ b id,G b= .obj id->G' b= .obj id)/\RI X l (fun j=>S j\/j=k) aj (a.put o.dst x) w G' I N:=by
 have lX:(X.ops[k]?).bind (·.dst)=o.dst:=by rw [ho];rfl
 rcases Q8 hts with ⟨rfl,rfl⟩|⟨s,dD,rfl,hs,rfl,_⟩
 ·have DD:∀ d,o.dst=some d->X.names.contains d=false:=by
   intro d hd';rw [hd'] at hd;simpa [lJ] using hd
  refine ⟨G,Ext.refl _ _,fun _ _ _ _ h=>⟨h,rfl⟩,fun _ _ h=>h,?_,?_,h.H,h.wf,h.U6⟩
  ·intro s t ht
   rw [V7 ?_]
   ·exact h.T s t ht
   ·intro e
    have h1:=DD t e;have h2:t ∈ X.names:=List.mem_of_getElem? ht;simp [h2] at h1
  ·intro j hj d uC hjn
   rcases hj with hj|rfl
   ·rw [V7 ?_]
    ·exact h.L j hj d uC hjn
    ·intro e
     have:=hst.dup j k d uC (by rw [lX];exact e) hjn;subst this;exact hk hj
   ·rw [lX] at uC
    rw [uC,aE (by rw [hsz];exact hst.lt j d (by rw [lX];exact uC))];exact hv
 ··cases hod:o.dst with
   |none=>rw [hod] at hd;simp [lJ] at hd
   |some d =>
    rw [hod] at hd;have aY:X.names[s]? =some d:=by simpa [lJ] using hd
    have hdn:X.names.contains d=true:=by
     have:d ∈ X.names:=List.mem_of_getElem? aY;simp [this]
    have au0:d<a.tmps.size:=by rw [hsz];exact hst.lt k d (by rw [lX];exact hod)
    have main:∀ (v:b6) (Wz:F0) (G' :Gh),jb (.loc k) G w G' ->VR G' I N w (.slot s) v x->Wz.H=Q3.H->(∀ m,m≠k->Wz.L[m]? =Q3.L[m]?)->Wz.T=Q3.T.set s v ->
      RI X l (fun j=>S j\/j=k) Wz (a.put (some d) x) w G' I N:=by
     intro v Wz G' hm hv' hH hL hT3;refine ⟨?_,?_,?_,hm.wf h.wf,?_⟩
     ·intro s' t ht
      rw [hT3]
      by_cases he:s' =s
      ·subst he
       rw [aY] at ht;cases ht;rw [L8 _ _ _ _ hs,aE au0];exact hv'
      ·rw [H6 _ _ _ _ _ (fun e=>he e.symm),V7 (fun e=>he (hst.nod s' s t ht (by rw [aY,<- Option.some_inj.1 e])))]
       exact VR.mono hm.ext (fun _ _=>rfl) (fun _ h=>h) _ _ _ (Or.inr (hm.keeps _ (by simp))) (h.T s' t ht)
     ·intro j hj d' uC hjn
      have hjk:S j:=by
       rcases hj with hj|rfl
       ·exact hj
       ·rw [lX,hod] at uC;cases uC;rw [hdn] at hjn;cases hjn
      have hne:j≠k:=by rintro rfl;exact hk hjk
      have e1:Wz.L.getD j .any=Q3.L.getD j .any:=by simp only [List.getD,hL j hne]
      rw [e1,V7 (fun e=>by cases e;rw [hdn] at hjn;cases hjn)];exact VR.mono hm.ext (fun _ _=>rfl) (fun _ h=>h) _ _ _ (Or.inr (hm.keeps _ (by simp;exact hne))) (h.L j hjk d' uC hjn)
     ·rw [hH];exact h.H.DT hm (by simp)
     ·rw [hH];exact h.U6
    by_cases hown:∃ z n c,Q3.L[k]? =some (.own z n c)
    ·obtain ⟨z,n,c,Te⟩:=hown
     rw [X3 Te] at hv;obtain ⟨G',hm,hv'⟩:=gw (uI := .slot s) (by simp) hv;refine ⟨G',hm.ext,fun id off=>hm.keeps _ (by simp),hm.obj,?_⟩;have e1:(z7.D8 Q3 (.loc k)).1= .own z n c:=by simp only [z7.D8,Te]
     exact main (.own z n c) _ G' hm hv' (yg _ _) (fun m hm=>pJ Q3 k m hm) (by simp only [e1])
    ·have e1:z7.D8 Q3 (.loc k)=(F8 Q3.T Q3.L (.loc k),Q3):=by
      simp only [z7.D8];split
      ·rename_i z n c hj;exact absurd ⟨z,n,c,hj⟩ hown
      ·rfl
     refine ⟨G,Ext.refl _ _,fun _ _ _ _ h=>⟨h,rfl⟩,fun _ _ h=>h,?_⟩;refine main (F8 Q3.T Q3.L (.loc k)) _ G (jb.refl _ _ _) ?_ (yg _ _) (fun m hm=>pJ Q3 k m hm) (by simp only [e1]);simp only [F8];exact hv.G9
theorem PV.after (hst:Stat X nt)(hR:Rg X j4 E nt S st a w G I N){k:Nat}(hk:¬ S k){o:Oper}(ho:X.ops[k]? =some o){i:n9}(hi:j4[k]? =some i)(hd:lJ X.names o.dst i.dst=true)
  (hcl:∀ y,i.op= .load none y->tw X S y) (htr:Tr N k st Q3) {u9:Option Nat} (hts:u7 u9 Q3 k i.dst=some aj) {x:Value} {ds:List Deferred}
  (hko:∀ id,N id->Q3.n7.any (Touch.K1 id)=false->I' id=I id/\∀ b,G b= .obj id->w'.heap[b]? =w.heap[b]?)
  (hf:aj.L[k]? =some (.tuple [])\/iZ X st a w I i.op x):PV X j4 (fun j=>S j\/j=k) aj ({ a with defers:=ds }.put o.dst x) w' I' :=by
 have lX:(X.ops[k]?).bind (·.dst)=o.dst:=by rw [ho];rfl
 have Qp:∀ j,j≠k->aj.L[j]? ≠some (.tuple [])->st.L[j]? ≠some (.tuple []):=by
  intro j hj h1 h2;rw [EU hts hj] at h1;exact h1 (htr.Qp j hj h2)
 have Hi:∀ p,aj.n7.any p=false->st.n7.any p=false/\Q3.n7.any p=false:=by
  intro p hp;have h1:=gv (xW hts) hp;exact ⟨gv htr.n7 h1,h1⟩
 have OE:∀ (s:Nat) t,X.names[s]? =some t->aj.n7.any (Touch.R1 s)=false->o.dst≠some t:=by
  intro s t ht hh e;rw [e] at hd;cases hdi:i.dst with
  |none =>
   rw [hdi] at hd;have:t ∈ X.names:=List.mem_of_getElem? ht;simp [lJ,this] at hd
  |some s' =>
   rw [hdi] at hd hts;have h1:X.names[s']? =some t:=by simpa [lJ] using hd
   have:=hst.nod s s' t ht h1;subst this;rw [xU hts rfl] at hh;cases hh
 have It:∀ (j:Nat) d,S j->(X.ops[j]?).bind (·.dst)=some d->X.names.contains d=false->o.dst≠some d:=by
  intro j d hj uC hjn e;have:=hst.dup j k d uC (by rw [lX];exact e) hjn;subst this;exact hk hj
 have Dg:∀ y id off l0,tw X S y->Z6 aj y=some (id,off)->aj.H[id]? =some (.cells l0)->off<l0.length->aj.n7.any (Touch.aJ id off)=false ->
   Z6 st y=some (id,off)/\st.n7.any (Touch.aJ id off)=false/\(∃ l,st.H[id]? =some (.cells l)/\off<l.length)/\w'.cell? (ad (I' id).1 ((I' id).2+off))=w.cell? (ad (I id).1 ((I id).2+off)):=by
  intro y id off l0 hy hp hH hoff hh;have hym:∀ m,y= .loc m->m≠k:=by
   rintro m rfl rfl;exact hk hy.1
  have hp1:=HS hts hym hp;have hp0:=htr.ptr hym hp1;have hN:=hR.aC7 hy hp0;have Mj:Q3.n7.any (Touch.K1 id)=false:=by
   have h1:=(Hi _ hh).2;cases he:Q3.n7.any (Touch.K1 id) with
   |false=>rfl
   |true =>
    rw [List.any_eq_true] at he;obtain ⟨t,ht,hth⟩:=he;have:Q3.n7.any (Touch.aJ id off)=true:=by
     rw [List.any_eq_true];refine ⟨t,ht,?_⟩;cases t<;>simp only [Touch.K1,Touch.aJ] at hth ⊢<;>first|exact hth|cases hth
    rw [this] at h1;cases h1
  rw [mO hts] at hH;obtain ⟨l,hl,hle⟩:=htr.H id l0 hN Mj hH;obtain ⟨e1,e2⟩:=hko id hN Mj;have hO:=hR.ri.H id _ hl;simp only [OR] at hO;obtain ⟨_,c,e,f,g1,g2,_⟩:=hO;refine ⟨hp0,(Hi _ hh).1,⟨l,hl,by omega⟩,?_⟩;rw [e1];simp only [World.cell?,e2 _ g2]
 refine ⟨?_,?_⟩
 ·intro j ai s t d hj hsk hai hop ht uC hjn hh
  rw [V7 (OE s t ht hh)]
  rcases hj with hj|rfl
  ·rw [V7 (It j d hj uC hjn)]
   exact hR.pv.slot j ai s t d hj (Qp j (by rintro rfl;exact hk hj) hsk) hai hop ht uC hjn (Hi _ hh).1
  ·rw [hi] at hai;cases hai
   rw [lX] at uC;rw [uC,aE (by simp only;rw [hR.size];exact hst.lt j d (by rw [lX];exact uC))]
   rcases hf with hf|hf
   ·exact absurd hf hsk
   ·exact hf.N8 s t hop ht
 ·intro j ai y id off d l0 hj hsk hai hop hp hH hoff hh uC hjn
  rcases hj with hj|rfl
  ·have hy:=hR.cl j ai y hj hai hop
   obtain ⟨h1,h2,⟨l,h3,h4⟩,h5⟩:=Dg y id off l0 hy hp hH hoff hh;rw [V7 (It j d hj uC hjn),h5];exact hR.pv.cell j ai y id off d l hj (Qp j (by rintro rfl;exact hk hj) hsk) hai hop h1 h3 h4 h2 uC hjn
  ·rw [hi] at hai;cases hai
   have hy:=hcl y hop;obtain ⟨h1,h2,⟨l,h3,h4⟩,h5⟩:=Dg y id off l0 hy hp hH hoff hh;rw [lX] at uC;rw [uC,aE (by simp only;rw [hR.size];exact hst.lt j d (by rw [lX];exact uC)),h5]
   rcases hf with hf|hf
   ·exact absurd hf hsk
   ·exact hf.load y id off hop h1
end
end Go.z7


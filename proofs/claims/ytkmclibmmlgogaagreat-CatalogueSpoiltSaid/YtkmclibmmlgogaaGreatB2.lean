/- Texts A16 A17 A18 A18b A19 A20 A21 A22 A23 (made short by a program) -/
import Derived.Test.YtkmclibmmlgogaaGreatB1
set_option linter.unusedVariables false
set_option linter.unusedSimpArgs false
open Bool renaming and_eq_true → b5, false_eq_true → b7, not_eq_true' → j5
open List renaming getElem?_append_left → x9, getElem?_append_right → s7, getElem?_eq_getElem → s9, getElem?_eq_none → A8, getElem?_set_ne → A1, length_append → E0, replicate → c9
open Nat renaming le_refl → n5, lt_or_ge → u9
namespace Go.y3
mutual
theorem VR.kill {G:Gh}{I:T0}{N:Nat->Prop}{w:World}(id:Nat):∀ (pl:Place) (a:b6) (x:Value),VR G I N w pl a x->VR G I (fun i=>N i/\i≠id) w pl (a.kill id) x
 |_,.any,_,_=>by simp [b6.kill,VR]
 |_,.d _,_,h=>by simpa [b6.kill,VR] using h
 |_,.ptr i o,x,h=>by
  unfold b6.kill;split
  ·simp [VR]
  ·rename_i hne
   simp only [VR] at h ⊢;exact ⟨⟨h.1,hne⟩,h.2⟩
 |_,.Q5 _,_,h=>by simpa [b6.kill,VR] using h
 |_,.D4 i z lo n,x,h=>by
  unfold b6.kill;split
  ·simp [VR]
  ·rename_i hne
   simp only [VR] at h ⊢;exact ⟨⟨h.1,hne⟩,h.2⟩
 |_,.own _ _ _,_,h=>by simpa only [b6.kill,VR] using h
 |_,.I8,_,h=>by simpa only [b6.kill,VR] using h
 |_,.agg l,x,h=>by
  simp only [b6.kill,VR] at h ⊢;obtain ⟨cs,h1,h2⟩:=h;exact ⟨cs,h1,I7.kill id l _ h2⟩
 |_,.tuple l,x,h=>by
  simp only [b6.kill,VR] at h ⊢;obtain ⟨cs,h1,h2⟩:=h;exact ⟨cs,h1,I7.kill id l _ h2⟩
 |_,.func f a b,x,h=>by
  simp only [b6.kill,VR] at h ⊢;obtain ⟨u,v,h1,h2,h3⟩:=h;exact ⟨u,v,h1,I7.kill id a _ h2,I7.kill id b _ h3⟩
 |_,.map i,x,h=>by
  unfold b6.kill;split
  ·simp [VR]
  ·rename_i hne
   simp only [VR] at h ⊢;exact ⟨⟨h.1,hne⟩,h.2⟩
theorem I7.kill {G:Gh}{I:T0}{N:Nat->Prop}{w:World}(id:Nat):∀ (l:List b6) (xs:List Value),I7 G I N w l xs->I7 G I (fun i=>N i/\i≠id) w (G5 id l) xs
 |[],_,h=>by simpa [G5,I7] using h
 |a::as,xs,h=>by
  simp only [G5,I7] at h ⊢;obtain ⟨x,xs',h1,h2,h3⟩:=h;exact ⟨x,xs',h1,VR.kill id _ a x h2,I7.kill id as xs' h3⟩
end
mutual
theorem VR.low {G:Gh}{I:T0}{N:Nat->Prop}{w:World}(n:Nat):∀ (pl:Place) (a:b6) (x:Value),a.N4<=n->VR G I N w pl a x->VR G I (fun i=>N i/\i<n) w pl a x
 |_,.any,_,_,_=>by simp [VR]
 |_,.d _,_,_,h=>by simpa [VR] using h
 |_,.ptr i o,x,hb,h=>by simp only [b6.N4] at hb;simp only [VR] at h ⊢;exact ⟨⟨h.1,by omega⟩,h.2⟩
 |_,.Q5 _,_,_,h=>by simpa [VR] using h
 |_,.D4 i z lo n',x,hb,h=>by simp only [b6.N4] at hb;simp only [VR] at h ⊢;exact ⟨⟨h.1,by omega⟩,h.2⟩
 |_,.own _ _ _,_,_,h=>by simpa only [VR] using h
 |_,.I8,_,_,h=>by simpa only [VR] using h
 |_,.agg l,x,hb,h=>by
  simp only [b6.N4] at hb;simp only [VR] at h ⊢;obtain ⟨cs,h1,h2⟩:=h;exact ⟨cs,h1,I7.low n l _ hb h2⟩
 |_,.tuple l,x,hb,h=>by
  simp only [b6.N4] at hb;simp only [VR] at h ⊢;obtain ⟨cs,h1,h2⟩:=h;exact ⟨cs,h1,I7.low n l _ hb h2⟩
 |_,.func f a b,x,hb,h=>by
  simp only [b6.N4] at hb;simp only [VR] at h ⊢;obtain ⟨u,v,h1,h2,h3⟩:=h;exact ⟨u,v,h1,I7.low n a _ (by omega) h2,I7.low n b _ (by omega) h3⟩
 |_,.map i,x,hb,h=>by simp only [b6.N4] at hb;simp only [VR] at h ⊢;exact ⟨⟨h.1,by omega⟩,h.2⟩
theorem I7.low {G:Gh}{I:T0}{N:Nat->Prop}{w:World}(n:Nat):∀ (l:List b6) (xs:List Value),A4 l<=n->I7 G I N w l xs->I7 G I (fun i=>N i/\i<n) w l xs
 |[],_,_,h=>by simpa [I7] using h
 |a::as,xs,hb,h=>by
  simp only [A4] at hb;simp only [I7] at h ⊢;obtain ⟨x,xs',h1,h2,h3⟩:=h;exact ⟨x,xs',h1,VR.low n _ a x (by omega) h2,I7.low n as xs' (by omega) h3⟩
end
section
variable {P:Program} {X:Cx} {l:G9} {S:Nat->Prop} {st:E5} {a:Act} {w w' :World} {G:Gh} {I:T0} {N:Nat->Prop} {D:Nat->Bool} {j4:List n8}
theorem ER.kill (id:Nat):∀ (es:List (Key×b6)) (xs:List MapEntry),ER G I N w es xs->ER G I (fun i=>N i/\i≠id) w (es.map fun p=>(p.1,p.2.kill id)) xs
 |[],_,h=>by simpa [ER] using h
 |(k,v)::r,xs,h=>by
  simp only [List.map_cons,ER] at h ⊢;obtain ⟨e,es',h1,h2,h3,h4⟩:=h;exact ⟨e,es',h1,h2,VR.kill id _ v _ h3,ER.kill id r es' h4⟩
theorem ER.low (n:Nat):∀ (es:List (Key×b6)) (xs:List MapEntry),A4 (es.map (·.2))<=n->ER G I N w es xs->ER G I (fun i=>N i/\i<n) w es xs
 |[],_,_,h=>by simpa [ER] using h
 |(k,v)::r,xs,hb,h=>by
  simp only [List.map_cons,A4] at hb;simp only [ER] at h ⊢;obtain ⟨e,es',h1,h2,h3,h4⟩:=h;exact ⟨e,es',h1,h2,VR.low n _ v _ (by omega) h3,ER.low n r es' (by omega) h4⟩
theorem eC (id:Nat):∀ (l:List b6) (i:Nat),(G5 id l)[i]? =(l[i]?).map (b6.kill id)
 |[],i=>by simp [G5]
 |v::vs,0=>by simp [G5]
 |v::vs,i+1=>by simp [G5,eC id vs i]
theorem N5 (id:Nat)(l:List b6):(G5 id l).length=l.length:=by
 induction l with
 |nil=>rfl
 |cons v vs ih=>simp [G5,ih]
theorem tr (id:Nat)(l:List b6)(i:Nat):(G5 id l).getD i .any=(l.getD i .any).kill id:=by
 simp only [List.getD,eC];cases l[i]? <;>simp [b6.kill]
mutual
theorem Ec (id:Nat):∀ (a:b6),(a.kill id).N4<=a.N4
 | .any=>by simp [b6.kill]
 | .d _=>by simp [b6.kill]
 | .ptr i o=>by unfold b6.kill;split<;>simp [b6.N4]
 | .Q5 _=>by simp [b6.kill]
 | .D4 i z lo n=>by unfold b6.kill;split<;>simp [b6.N4]
 | .own _ _ _=>by simp [b6.kill]
 | .I8=>by simp [b6.kill]
 | .agg l=>by simp only [b6.kill,b6.N4];exact cM id l
 | .tuple l=>by simp only [b6.kill,b6.N4];exact cM id l
 | .func f a b=>by
  simp only [b6.kill,b6.N4];have:=cM id a;have:=cM id b;omega
 | .map i=>by unfold b6.kill;split<;>simp [b6.N4]
theorem cM (id:Nat):∀ (l:List b6),A4 (G5 id l)<=A4 l
 |[]=>by simp [G5]
 |v::vs=>by
  simp only [G5,A4];have:=Ec id v;have:=cM id vs;omega
end
theorem As (id:Nat):∀ (es:List (Key×b6)),A4 ((es.map fun p=>(p.1,p.2.kill id)).map (·.2))<=A4 (es.map (·.2))
 |[]=>by simp
 |(k,v)::r=>by
  simp only [List.map_cons,A4];have:=Ec id v;have:=As id r;omega
theorem AU (id:Nat)(o:y7):(o.kill id).N4<=o.N4:=by
 cases o with
 |dead=>simp [y7.kill]
 |cells l=>simpa [y7.kill,y7.N4] using cM id l
 |map es=>simpa only [y7.kill,y7.N4] using As id es
theorem OR.kill (id:Nat){id' :Nat}(hne:id' ≠id)(o:y7)(h:OR G I N w id' o):OR G I (fun i=>N i/\i≠id) w id' (o.kill id):=by
 cases o with
 |dead=>simp [y7.kill,OR]
 |cells l0 =>
  simp only [y7.kill,OR] at h ⊢;obtain ⟨hN,c,e,f,h1,h2,h3,h4,h5⟩:=h
  ·refine ⟨⟨hN,hne⟩,c,e,f,h1,h2,h3,by rw [N5];exact h4,fun i x hx=> ?_⟩
   rw [eC] at hx;cases hl:l0[i]? with
   |none=>simp [hl] at hx
   |some y =>
    simp [hl] at hx;subst hx;obtain ⟨v,g1,g2⟩:=h5 i y hl;exact ⟨v,g1,VR.kill id _ y v g2⟩
 |map es =>
  simp only [y7.kill,OR] at h ⊢;obtain ⟨hN,arr,My,h1,h2,h3⟩:=h;exact ⟨⟨hN,hne⟩,arr,My,h1,h2,ER.kill id es _ h3⟩
theorem qw:∀ (l:List b6) (i:Nat) (x:b6),l[i]? =some x->x.N4<=A4 l
 |[],_,_,h=>by simp at h
 |v::vs,0,x,h=>by simp at h;subst h;simp only [A4];omega
 |v::vs,i+1,x,h=>by have:=qw vs i x (by simpa using h);simp only [A4];omega
theorem OR.low {id n:Nat}(hn:id<n)(o:y7)(hb:o.N4<=n)(h:OR G I N w id o):OR G I (fun i=>N i/\i<n) w id o:=by
 cases o with
 |dead=>simp [OR]
 |cells l0 =>
  simp only [OR] at h ⊢;obtain ⟨hN,c,e,f,h1,h2,h3,h4,h5⟩:=h
  ·refine ⟨⟨hN,hn⟩,c,e,f,h1,h2,h3,h4,fun i x hx=> ?_⟩
   obtain ⟨v,g1,g2⟩:=h5 i x hx;exact ⟨v,g1,VR.low n _ x v (by simp only [y7.N4] at hb;exact Nat.le_trans (qw _ _ _ hx) hb) g2⟩
 |map es =>
  simp only [OR] at h ⊢;obtain ⟨hN,arr,My,h1,h2,h3⟩:=h;exact ⟨⟨hN,hn⟩,arr,My,h1,h2,ER.low n es _ (by simpa [y7.N4] using hb) h3⟩
end
section
variable {P:Program} {X:Cx} {l:G9} {S:Nat->Prop} {st:E5} {a:Act} {w w' :World} {G G' :Gh} {I I' :T0} {N:Nat->Prop} {D:Nat->Bool} {j4:List n8}
def oa (H:o6)(base id:Nat)(o:y7):o6:=(H.take base++(H.drop base).map (y7.kill id)).set id o
theorem mK {H:o6}{base id:Nat}{o:y7}(hid:id<H.length){id' :Nat}{o' :y7}(h:(oa H base id o)[id']? =some o') :
  (id' =id/\o' =o)\/(id' ≠id/\id' <base/\H[id']? =some o')\/(id' ≠id/\base<=id' /\∃ o0,H[id']? =some o0/\o' =o0.kill id):=by
 unfold oa at h;have hlen:(H.take base++(H.drop base).map (y7.kill id)).length=H.length:=by simp;omega
 by_cases he:id' =id
 ·simp_all
 ·by_cases hb:id' <base
  ·grind
  ·by_cases hl:base<=H.length
   ·grind
   grind
theorem cK.Po (h:RI X l S st a w G I N){k:Nat}(hk:¬ S k)(aV:k<st.L.length){entry id:Nat}{o0:y7}(h0:st.H[id]? =some o0)(hbase:l.base<=id)(aH1:entry<=id)(hmay:l.may id=true)
  (hx:Ext G w G' w') (hkp:∀ q,aR q G w G' w') (ho:∀ id',id' ≠id->∀ b,G b= .obj id' ->G' b= .obj id' /\w'.heap[b]? =w.heap[b]?) (hwf:WF G' w') (hI:∀ i,i≠id->I' i=I i)
  {cs:List b6} (Ts:OR G' I' N w' id (.cells cs)) (mD:A4 cs<=max o0.N4 (id+1)) {v:b6} {x:Value} (hv:VR G' I' N w' (.loc k) v x) (n6:List Touch) (EG:n6.any (Touch.K4 id)=true) :
  cK X l S entry st a w G I N (put { T:=G5 id st.T,H:=oa st.H l.base id (.cells cs),L:=G5 id st.L,n6 } k v) k x w' G' I' N:=by
 have hid:=p6 h0;have hI' :∀ i,(N i/\i≠id)->I' i=I i:=fun i hi=>hI i hi.2
 have hNN:∀ i,(N i/\i≠id)->N i:=fun i hi=>hi.1
 have vr:∀ {pl:Place} {b:b6} {u:Value},VR G I N w pl b u->VR G' I' N w' pl (b.kill id) u :=
  fun hb=>VR.mono hx hI' hNN _ _ _ (Or.inr (hkp _)) (VR.kill id _ _ _ hb)
 refine ⟨⟨?_,?_,?_,hwf,?_⟩,?_,hx,?_,?_,?_,fun _ h=>h,?_,?_⟩
 ·intro s t ht
  simp only [y3.put,tr];exact vr (h.T s t ht)
 ·intro j hj d hd hn
  have:k≠j:=by grind
  simp only [y3.put];rw [O1 _ _ _ _ _ this,tr];exact vr (h.L j hj d hd hn)
 ·intro id' o' ho'
  rcases mK hid ho' with ⟨rfl,rfl⟩|⟨hne,hb,hold⟩|⟨hne,hb,o1,hold,rfl⟩
  ·exact Ts
  ·have OS:=OR.low (n:=l.base) hb o' ((h.U8 id' o' hold).2 hb) (h.H id' o' hold)
   exact OR.mono hx (fun i hi=>hI i (by omega)) (fun i hi=>hi.1) id' o' (fun hb' =>ho id' hne _ hb') (fun _=>hkp _) OS
  ·exact OR.mono hx hI' hNN id' _ (fun hb' =>ho id' hne _ hb') (fun _=>hkp _) (OR.kill id hne o1 (h.H id' o1 hold))
 ·intro id' o' ho'
  rcases mK hid ho' with ⟨rfl,rfl⟩|⟨hne,hb,hold⟩|⟨hne,hb,o1,hold,rfl⟩
  ·obtain ⟨d1,d2⟩:=h.U8 id' o0 h0
   grind [y7.N4]
  ·exact h.U8 id' o' hold
  ·obtain ⟨d1,d2⟩:=h.U8 id' o1 hold
   grind [AU]
 ·simp_all [y3.put,M6,N5]
 ·intro id' hm
  grind
 ·grind [y3.put]
 all_goals grind [y3.put,oa]
theorem Fb {cs:List b6}{vs:List Value}(h:cs.all b6.one=true)(hv:I7 G I N w cs vs):IA vs:=kP _ _ h hv
theorem Aa (h:RI X l S st a w G I N)(hD:∀ j,D j=true->S j){k:Nat}(hk:¬ S k)(aV:k<st.L.length){o:Oper}{sz bytes:Nat}{ob:Bool}{x y:q7}
  (hc:gp P (X.ck D) o (.append sz bytes ob x y)=true) {E:Env} (hE:E.lim=l) {id lo len:Nat} (hx:F5 st.T st.L x= .D4 id sz lo len) {st' :E5} (he:S2 E k sz bytes st id lo len (F5 st.T st.L y)=some st') :
  ∃ v w' G' I',(execOp a.eval o).run P w= .ok (.value v) w' /\cK X l S E.entry st a w G I N st' k v w' G' I' N:=by
 obtain ⟨x0,y0,t,t2,e,i,z,hop,hcx,hcy,ht2,hsz,hu,hi,hsi,Tg,hz,hzs,hbp⟩:=fJ hc;unfold S2 at he;rw [hE] at he;split at he
 ·rename_i dw
  split at he
  ·rename_i l0 m cs hl0 hcs
   split at he
   ·rename_i hcc
    obtain ⟨rfl,hlen,hroom,aG6,hone,_⟩:=hcc;cases he;obtain ⟨vn,hl,hf,Sx,hcl⟩:=tP (P:=P) h.H (h.R8 hD _ _ hcy) hsz hcs;have hval:=h.R8 hD _ _ hcx;rw [hx] at hval;simp only [VR] at hval;obtain ⟨Tf,cap,hx0,hcap,c,e',f,hb,NS⟩:=hval;have mF:(execOp a.eval o).run P w=((Builtin.append_ #[t,t2] o.type #[a.eval x0,a.eval y0]).run P w).andThen fun v w' => .ok (.value v) w' :=by
     simp_all [guard,execOp,resolve,invoke,builtin]
    have uo:vn.length=m * sz:=by grind [I7.length]
    subst hsi Tg;have hO:=h.H id _ hl0;simp only [OR] at hO;obtain ⟨_,c0,e0,f0,h1,Ih,hnf,bq8,h5⟩:=hO;rw [hb] at h1;cases h1;have mD:A4 (G5 id l0++cs)<=max (y7.cells l0).N4 (id+1):=by
     grind [cL,cM,y7.N4]
    have OU:=Fb hone Sx;have vrk:∀ {pl:Place} {b:b6} {u:Value},VR G I N w pl b u->VR G I N w pl (b.kill id) u :=
     fun hb=>VR.mono (Ext.refl _ _).sub (fun _ _=>rfl) (fun i hi=>hi.1) _ _ _ (Or.inr (fun _ _ h=>⟨h,rfl⟩)) (VR.kill id _ _ _ hb)
    by_cases hfit:len+m<=cap
    ·
     have hrun:=eV (P:=P) (w:=w) (ty:=o.type) hu hi ht2 (base:=some (ad (I id).1 ((I id).2+0))) (sLen:=len) (sCap:=cap) hl (hf w rfl) hfit;have hbig:(len+m) * i.size<=cap * i.size:=Nat.mul_le_mul_right _ hfit;rw [Nat.add_mul] at hbig;have aI8:(I id).2+len * i.size+vn.length<=c.size:=by omega
     have hst:=run_storeCells_at (P:=P) (I id).1 ((I id).2+0+len * i.size) e' f vn 0 c w hb hnf (by omega) OU;have um :(I id).2+0+len * i.size+vn.length<=c.toList.length:=by simp;omega
     have vk :(L4 c.toList ((I id).2+0+len * i.size) vn).toArray.size=c.size:=by simp_all [List.size_toArray,nc,Array.length_toList]
     have hw:=Bu (G:=G) hb Ih vk;refine ⟨.slice (some (ad (I id).1 ((I id).2+0))) (len+m) cap,w.setRow (I id).1 (L4 c.toList ((I id).2+0+len * i.size) vn).toArray,G,I,?_,
      cK.Po h hk aV hl0 dw.1 dw.2.1 dw.2.2 hw.ext hw.keeps (fun id' hne=>hw.xO hne) (fun b' hb' =>h.wf b' (by simp_all)) (fun _ _=>rfl) ?_ mD ?_ (.obj id::st.n6) (by simp [Touch.K4])⟩
     ·simp_all [ak,Nat.add_zero]
     ·simp only [OR]
      have mono:∀ {pl:Place} {b:b6} {u:Value},VR G I N w pl b u->VR G I N (w.setRow (I id).1 (L4 c.toList ((I id).2+0+len * i.size) vn).toArray) pl b u :=
       fun hq=>VR.mono hw.ext (fun _ _=>rfl) (fun _ h=>h) _ _ _ (Or.inr (hw.keeps _)) hq
      refine ⟨Tf,_,e',f,setRow_heap w _ c _ e' f hb,Ih,by simp_all,?_,fun j b hj=> ?_⟩
      ·grind [E0,N5]
      ·rw [show (L4 c.toList ((I id).2+0+len * i.size) vn).toArray[(I id).2+j]? =(L4 c.toList ((I id).2+0+len * i.size) vn)[(I id).2+j]? from by simp,iO _ _ _ um]
       have hjl:=p6 hj;rw [E0,N5,hcl] at hjl
       by_cases hjc:j<l0.length
       ·rw [x9 (by grind [N5]),eC] at hj
        grind
       ·rw [s7 (by rw [N5];omega),N5] at hj
        rw [if_neg (by omega),if_pos (by omega)];obtain ⟨u,r1,r2⟩:=I7.get _ _ Sx (j - l0.length) b hj;exact ⟨u,by grind,mono r2.place⟩
     ·simp only [VR]
      exact ⟨Tf,cap,rfl,hfit,_,e',f,setRow_heap w _ c _ e' f hb,by omega⟩
    ·
     have hlt:cap<len+m:=by omega
     have ag8:∃ vo:List Value,vo.length=len * i.size/\(∀ w2:World,w2.heap=w.heap->(Builtin.firstCells i.size len (.slice (some (ad (I id).1 ((I id).2+0))) len cap)).run P w2= .ok vo.toArray w2) /\
       (∀ (j:Nat) b,l0[j]? =some b->∃ v,vo[j]? =some v/\VR G I N w (.cell id j) b v):=by
      refine ⟨(List.range (len * i.size)).map (fun j=>(c[(I id).2+j]?).getD default),by simp,fun w2 MR=> ?_,fun j b hj=> ?_⟩
      ·have:=run_loadCells_list (P:=P) w2 (ad (I id).1 ((I id).2+0)) ((List.range (len * i.size)).map (fun j=>(c[(I id).2+j]?).getD default)) (fun j v hj=>by
        have hjn:j<len * i.size:=by
         grind
        simp [hjn] at hj
        grind [ak,gn,T8])
       simp_all [Builtin.firstCells]
      grind
     obtain ⟨vo,aK2,aK3,br8⟩:=ag8;obtain ⟨jj,EC,hrun⟩:=gT (P:=P) (w:=w) (ty:=o.type) hu hi hz ht2 (base:=some (ad (I id).1 ((I id).2+0))) (sLen:=len) (sCap:=cap) hl (hf w.drew rfl) (aK3 w.drew rfl) hlt (Dg hroom hbp) (tH hroom hlt);have hnb:jr w (w.drew.alloc (.cells (vo.toArray++vn.toArray++Builtin.zeroCells z.cells (jj - (len+m))) e)) (.cells (vo.toArray++vn.toArray++Builtin.zeroCells z.cells (jj - (len+m))) e):=by
      have:=jr.alloc w.drew (.cells (vo.toArray++vn.toArray++Builtin.zeroCells z.cells (jj - (len+m))) e);exact ⟨this.os,this.tape,this.output,this.size,this.old,this.new⟩
     have hsize:(vo.toArray++vn.toArray++Builtin.zeroCells z.cells (jj - (len+m))).size=jj * i.size:=by
      simp only [Array.size_append,List.size_toArray,wq,hzs,aK2,uo];have:jj * i.size=(len+m) * i.size+(jj - (len+m)) * i.size:=by rw [<- Nat.add_mul];simp_all
      grind
     refine ⟨.slice (some (ad w.heap.size 0)) (len+m) jj,_,lu G w.heap.size (.obj id),yW I id (w.heap.size,0),?_,
      cK.Po h hk aV hl0 dw.1 dw.2.1 dw.2.2 (hnb.ext h.wf _) (hnb.keeps h.wf _) (fun id' _=>hnb.xO h.wf _ id') (hnb.wf h.wf _) (fun i hi=>eM hi) ?_ mD ?_ (.obj id::st.n6) (by simp [Touch.K4])⟩
     ·simp_all
     ·simp only [OR]
      have mono:∀ {pl:Place} {b:b6} {u:Value},VR G I N w pl b u->VR (lu G w.heap.size (.obj id)) (yW I id (w.heap.size,0)) N _ pl (b.kill id) u :=
       fun hq=>VR.mono (hnb.ext h.wf _).sub (fun i hi=>eM hi.2) (fun i hi=>hi.1) _ _ _ (Or.inr (hnb.keeps h.wf _ _)) (VR.kill id _ _ _ hq)
      refine ⟨Tf,_,e,(0,0),by rw [cV];exact hnb.new,by simp,sW _,?_,fun j b hj=> ?_⟩
      ·grind [cV,E0,N5,Nat.mul_le_mul_right,Nat.add_mul]
      ·have hjl:=p6 hj
       rw [E0,N5,hcl] at hjl;simp only [cV,Nat.zero_add];rw [show (vo.toArray++vn.toArray++Builtin.zeroCells z.cells (jj - (len+m)))[j]? =(vo++vn++(Builtin.zeroCells z.cells (jj - (len+m))).toList)[j]? from by grind,
        x9 (by simp_all)]
       by_cases hjc:j<l0.length
       ·grind [x9,N5,eC,s9]
       ·rw [s7 (by rw [N5];omega),N5] at hj
        rw [s7 (by omega)];obtain ⟨u,r1,r2⟩:=I7.get _ _ Sx (j - l0.length) b hj;refine ⟨u,by simp_all,?_⟩;have hb' :b.N4<=id:=Nat.le_trans (qw _ _ _ hj) aG6;exact (VR.mono (hnb.ext h.wf _).sub (fun i hi=>eM (by omega)) (fun i hi=>hi.1) _ _ _ (Or.inl rfl) (VR.low id _ _ _ hb' r2)).place
     ·simp only [VR]
      refine ⟨Tf,jj,by simp,EC,_,e,(0,0),by rw [cV];exact hnb.new,?_⟩;simp_all
   ·cases he
  ·cases he
 ·cases he
end
section
variable {P:Program} {X:Cx} {l:G9} {S:Nat->Prop} {st:E5} {a:Act} {w w' :World} {G G' :Gh} {I I' :T0} {N:Nat->Prop} {D:Nat->Bool} {j4:List n8}
def HQ (P:Program)(ck:Operand->q7->Bool)(o:Oper)(op:q9):Bool :=
 match o.op,op with
 | .mapUpdate t m k v,.dD kk m' k' v' =>ck m m' &&ck k k' &&ck v v' &&(match P.underlying t with
  |some (.map kt _)=>tC P kt kk
  |_=>false)
 |_,_=>false
theorem wQ:∀ {ks:List CK} {l m:List KD},V1 ks (l.map KD.av) (m.map KD.av)=some true->l=m
 |[],[],[],_=>rfl
 |[],_::_,_,h=>by simp [V1] at h
 |[],[],_::_,h=>by simp [V1] at h
 |k::ks,[],m,h=>by simp [V1] at h
 |k::ks,x::l,[],h=>by simp_all [V1,KD.av]
 |k::ks,x::l,y::m,h=>by
  have hd:∀ (a b:Data),KD.av x= .d a->KD.av y= .d b->V1 (k::ks) (.d a::l.map KD.av) (.d b::m.map KD.av)=some true->x=y/\l=m:=by
   intro a b ha hb h;simp [V1] at h;split at h
   ·split at h
    ·rename_i u hu
     simp at h;obtain ⟨rfl,rfl⟩:=h;refine ⟨?_,wQ hu⟩;simp_all [KD.av,Data.Cn]<;>grind
    ·cases h
   ·cases h
  simp_all [KD.av]<;>grind
theorem Io {kk:KK}{a b:Key}(h:Data.aW kk a b=some true):a=b:=by
 unfold Data.aW at h
 grind [wQ]
theorem Ph (k:Key):Instr.sameBits 10000 k.val k.val=true:=by
 have h:∀ x:KD,Instr.sameBits 9999 x.val x.val=true:=by intro x;cases x<;>simp [KD.val,Instr.sameBits,beq_toListBytes]
 cases k<;>simp [Key.val,Instr.sameBits,beq_toListBytes]
 grind
theorem Ke {kk:KK}{t:TypeId}{d:TypeDesc}(ht:tC P t kk=true)(hd:P.underlying t=some d){key:Key}{nv:b6}{x:Value}(hx:VR G I N w .none nv x) :
  ∀ (es:List (Key×b6)) (xs:List MapEntry) (i:Nat) (es' :List (Key×b6)),ER G I N w es xs->cC kk key nv es=some es' ->
   (oA (kX P w t d key.val kk) xs i none/\∀ born,ER G I N w es' (xs++[{ key:=key.val,val:=x,born }])) \/
   (∃ j v0,oA (kX P w t d key.val kk) xs i (some (i+j,v0))/\(∃ e0,xs[j]? =some e0/\e0.key=key.val)/\ER G I N w es' (xs.modify j fun e=>{ e with key:=key.val,val:=x }))
 |[],xs,i,es',hE,h=>by
  subst hE;simp [cC] at h;refine Or.inl ⟨rfl,fun born=> ?_⟩
  grind [ER]
 |(k',v')::rest,xs,i,es',hE,h=>by
  obtain ⟨e,ys,rfl,h2,h3,h4⟩:=hE;unfold cC at h;split at h
  ·rename_i hk
   have he:=Io hk;subst he;refine Or.inr ⟨0,e.val,.inl ⟨by simp_all [rM],rfl⟩,⟨e,rfl,h2⟩,?_⟩
   grind [List.modify_zero_cons,ER]
  ·split at h
   ·rename_i r' hr
    have hne:kX P w t d key.val kk e.key false:=by simp_all [rM]
    rcases Ke ht hd hx rest ys (i+1) r' h4 hr with ⟨g1,g2⟩|⟨j,v0,g1,g2,g3⟩
    ·refine Or.inl ⟨.inr ⟨hne,g1⟩,fun born=> ?_⟩
     grind [ER]
    ·refine Or.inr ⟨j+1,v0,.inr ⟨hne,?_⟩,by simp_all,?_⟩
     all_goals grind [List.modify_succ_cons,ER]
   ·cases h
  ·cases h
theorem wJ {kk:KK}{key:Key}{nv:b6}:∀ (es es' :List (Key×b6)),cC kk key nv es=some es' ->A4 (es'.map (·.2))<=max (A4 (es.map (·.2))) nv.N4
 |[],es',h=>by grind [cC,A4]
 |(k',v')::rest,es',h=>by
  unfold cC at h;split at h
  ·grind [A4]
  ·split at h
   ·rename_i r' hr
    have:=wJ rest r' hr
    grind [A4]
   ·cases h
  ·cases h
theorem HW (h:RI X l S st a w G I N)(hD:∀ j,D j=true->S j){k:Nat}(hk:¬ S k)(aV:k<st.L.length)(entry:Nat){o:Oper}{kk:KK}{m ky v:q7}(hc:HQ P (X.ck D) o (.dD kk m ky v)=true){E:Env}(hE:E.lim=l)
  {st' :E5} (he:T5 E k kk st (F5 st.T st.L m) (F5 st.T st.L ky) (F5 st.T st.L v)=some st'):∃ w',(execOp a.eval o).run P w= .ok .skip w' /\cK X l S entry st a w G I N st' k undef w' G I N:=by
 obtain ⟨dst,ct,ty,pos,after,guard⟩:=o;cases ct<;>simp [HQ] at hc<;>try simp_all
 rename_i t m' k' v';obtain ⟨⟨⟨hm,hky⟩,hv⟩,ht⟩:=hc;have h1:=h.R8 hD _ _ hm;have h2:=h.R8 hD _ _ hky;have h3:=h.R8 hD _ _ hv;split at ht
 ·rename_i kt et hu
  obtain ⟨dk,hdk⟩:∃ d,P.underlying kt=some d:=by
   simp_all [tC,eo,cy]<;>grind
  unfold T5 at he;split at he
  ·rename_i id kd hp hq
   rw [hp] at h1;simp [VR] at h1;have h2:=CJ hq h2;split at he
   ·rename_i es Zn
    split at he
    ·split at he
     ·rename_i hkk
      split at he
      ·rename_i es' af6
       have hO:=h.H id _ Zn;obtain ⟨hN,arr,My,g1,g2,g3⟩:=hO;have hgo:(getObj (I id).1).run P w= .ok (.map arr My) w:=by simp [getObj,Sem.run,g1]
       have hlt:(I id).1<w.heap.size:=by
        grind
       have tw:∀ ob:Obj,(setObj (I id).1 ob).run P w= .ok () { w with heap:=w.heap.setIfInBounds (I id).1 ob }:=by
        simp_all [setObj,Sem.run]
       have wrote:∀ ob:Obj,oB id (I id).1 w { w with heap:=w.heap.setIfInBounds (I id).1 ob } G:=by
        intro ob;refine ⟨g2,rfl,rfl,rfl,by simp,fun b' hne=> ?_,fun c e f hc=> ?_⟩
        all_goals grind
       have mD:(y7.map es').N4<=max (y7.map es).N4 (id+1)\/(l.base<=id/\l.strict<=id):=by
        have:=wJ es es' af6
        grind [y7.N4]
       have fin:∀ (Od :Array MapEntry) (SM :Nat),ER G I N w es' Od.toList->cK X l S entry st a w G I N (put { st with H:=st.H.set id (.map es'),n6:= .obj id::st.n6 } k .any) k undef { w with heap:=w.heap.setIfInBounds (I id).1 (.map Od SM) } G I N:=by
        intro Od SM hER;have hw:=wrote (.map Od SM);refine cK.write h hk aV entry hw Zn ?_ (by simp_all) mD (fun _=>Iff.rfl) (by simp [VR]) (.obj id::st.n6) (by simp [Touch.K4]);exact ⟨hN,Od,SM,by simp [hlt],g2,ER.mono hw.ext (fun _ _=>rfl) (fun _ h=>h) _ _ hER⟩
       have hck:=gG (P:=P) (w:=w) ht (JG hkk) false 9998;have hp:=Ke (P:=P) (w:=w) (key:=kd) ht hdk h3 es arr.toList 0 es' g3 af6;rw [<- h2] at hp
       rcases hp with ⟨f1,f2⟩|⟨j,v0,f1,⟨e0,f2,f2'⟩,f3⟩
       ·have Zo:(Instr.findKey kt (a.eval k') arr.toList).run P w= .ok none w:=mA hdk f1
        simp_all [execOp,Instr.mapUpdate,run_underlying]
       ·have Zo:(Instr.findKey kt (a.eval k') arr.toList).run P w= .ok (some (0+j,v0)) w:=mA hdk f1
        have hkeep:(Instr.keyThatStays (((arr[0+j]?).map (·.key)).getD (a.eval k')) (a.eval k')).run P w= .ok (a.eval k') w:=by
         simp_all [Ph,Option.map_some,Option.getD_some,Instr.keyThatStays,if_true,Sem.run_pure]
        simp_all [execOp,Instr.mapUpdate,Sem.run_bind,run_underlying,Result.andThen_ok,Sem.run_pure]
      ·cases he
     ·cases he
    ·cases he
   ·cases he
  ·cases he
 ·cases ht
end
section
variable {P:Program} {X:Cx} {l:G9} {S:Nat->Prop} {st:E5} {a:Act} {w w' :World} {G G' :Gh} {I I' :T0} {N:Nat->Prop} {D:Nat->Bool} {j4:List n8}
theorem EJ (h:RI X l S st a w G I N)(hpv:PV X j4 S st a w I)(hT:st.T.length=X.names.length)(hD:∀ j,D j=true->S j){x:Operand}{y:q7}(hc:X.ck D x y=true)(hn:isNil l j4 st y=true) :
  a.eval x= .slice none 0 0:=by
 unfold isNil at hn;split at hn
 ·unfold Cx.ck at hc
  split at hc
  ·simp_all
  ·simp_all
  ·rename_i v' b heq
   cases heq;have:=bS (G:=G) (I:=I) (N:=N) (w:=w) _ _ hc;simpa [VR,Act.eval] using this
  all_goals simp_all
 ·rename_i j
  have WO:∃ t,x= .tmp t/\D j=true/\(X.ops[j]?).bind (·.dst)=some t/\X.names.contains t=false:=by
   unfold Cx.ck at hc;split at hc
   ·simp_all
   ·rename_i t j' heq
    cases heq;simp only [b5,beq_iff_eq,j5] at hc;exact ⟨t,rfl,hc.1.1,hc.1.2,hc.2⟩
   all_goals simp_all
  obtain ⟨t,rfl,hDj,xw,Hw⟩:=WO;have UY:=hD j hDj;simp only [Act.eval];split at hn
  ·rename_i hj
   have h1:=h.L j UY t xw Hw;rw [au hj] at h1;simpa [VR] using h1
  ·rename_i n0 c0 hj
   split at hn
   ·rename_i ai hai
    unfold mP at hn;split at hn
    ·rename_i s hop
     simp only [b5,j5] at hn;obtain ⟨hun,hs⟩:=hn;split at hs
     ·rename_i hs'
      obtain ⟨ts,hts⟩:∃ ts,X.names[s]? =some ts:=by
       have:=p6 hs';exact ⟨_,s9 (by omega)⟩
      have h1:=h.T s ts hts;rw [au hs'] at h1;have he:=hpv.slot j ai s ts t UY (by rw [hj];simp) hai hop hts xw Hw hun;rw [he];simpa [VR] using h1
     ·cases hs
    ·rename_i x' hop
     split at hn
     ·rename_i id off OY
      simp only [b5,j5] at hn;obtain ⟨⟨hun,hmay⟩,hs⟩:=hn;split at hs
      ·rename_i cs hcs
       split at hs
       ·rename_i Tj
        have hO:=h.H id _ hcs;simp only [OR] at hO;obtain ⟨hN,c,e,f,g1,g2,g3,g4,g5⟩:=hO;obtain ⟨v,e1,e2⟩:=g5 off _ Tj;have he:=hpv.cell j ai x' id off t cs UY (by rw [hj];simp) hai hop OY hcs (p6 Tj) hun xw Hw;rw [T8 g1,e1] at he;rw [<- Option.some_inj.1 he];simpa [VR] using e2
       ·cases hs
      ·cases hs
     ·cases hn
    ·cases hn
   ·cases hn
  ·cases hn
 ·cases hn
theorem zZ (h:RI X l S st a w G I N)(hpv:PV X j4 S st a w I)(hT:st.T.length=X.names.length)(hD:∀ j,D j=true->S j){k:Nat}(hk:¬ S k)(aV:k<st.L.length)(entry:Nat){u5:Option Nat}(hid:DS l st N u5){o:Oper}{sz bytes:Nat}{x y:q7}
  (hc:gp P (X.ck D) o (.append sz bytes true x y)=true) {E:Env} (hE:E.lim=l) {st' :E5} (he:L0 E j4 u5 k sz bytes true st x (F5 st.T st.L y)=some st') :
  (∃ v w' G',(execOp a.eval o).run P w= .ok (.value v) w' /\cK X l S entry st a w G I N st' k v w' G' I N) \/
  ∃ v w' G' I' N' ob av,(execOp a.eval o).run P w= .ok (.value v) w' /\st' =put (J7 st u5 ob) k av/\cK X l S entry st a w G I N st' k v w' G' I' N' /\(∀ i,N' i↔N i\/i=newId st u5):=by
 obtain ⟨x0,y0,t,t2,e,i,z,hop,hcx,hcy,ht2,hsz,hu,hi,hsi,Tg,hz,hzs,hbp⟩:=fJ hc;have mF:(execOp a.eval o).run P w=((Builtin.append_ #[t,t2] o.type #[a.eval x0,a.eval y0]).run P w).andThen fun v w' => .ok (.value v) w' :=by
  obtain ⟨dst,ct,ty,pos,after,guard⟩:=o;simp only at hop;subst hop;simp [execOp,resolve,invoke,builtin]
 unfold L0 at he;rw [hE] at he;simp only [if_true] at he;split at he
 ·rename_i m cs hcs
  split at he
  ·rename_i dw
   obtain ⟨hnil,hroom,_⟩:=dw;have hx0:=EJ h hpv hT hD hcx hnil;obtain ⟨vn,hl,hf,Sx,hcl⟩:=tP (P:=P) h.H (h.R8 hD _ _ hcy) hsz hcs;have uo:vn.length=m * sz:=by rw [I7.length _ _ Sx,hcl]
   subst hsi Tg;split at he
   ·rename_i hm
    subst hm;cases he;have hrun:=eV (P:=P) (w:=w) (ty:=o.type) hu hi ht2 (base:=none) (sLen:=0) (sCap:=0) hl (hf w rfl) (n5 _);refine Or.inl ⟨.slice none 0 0,w,G,?_,cK.same h hk aV entry (by simp [VR])⟩;rw [mF,hx0,hrun];rfl
   ·rename_i hm
    cases he;have hlt:0<0+m:=by omega
    obtain ⟨jj,EC,hrun⟩:=gT (P:=P) (w:=w) (ty:=o.type) hu hi hz ht2 (base:=none) (sLen:=0) (sCap:=0) (old:= #[]) hl (hf w.drew rfl) (by simp [Builtin.firstCells]) hlt (by rw [Nat.zero_add];exact Dg hroom hbp) (by rw [Nat.zero_add];exact tH hroom (by omega));rw [Nat.zero_add] at EC hrun;have hnb:jr w (w.drew.alloc (.cells (#[]++vn.toArray++Builtin.zeroCells z.cells (jj - m)) e)) (.cells (#[]++vn.toArray++Builtin.zeroCells z.cells (jj - m)) e):=by
     have:=jr.alloc w.drew (.cells (#[]++vn.toArray++Builtin.zeroCells z.cells (jj - m)) e);exact ⟨this.os,this.tape,this.output,this.size,this.old,this.new⟩
    have hsize:(#[]++vn.toArray++Builtin.zeroCells z.cells (jj - m):Array Value).size=jj * i.size:=by
     simp only [Array.size_append,List.size_toArray,wq,hzs,uo,List.size_toArray,List.length_nil,Nat.zero_add];rw [<- Nat.add_mul];congr 1;omega
    refine Or.inr ⟨.slice (some (ad w.heap.size 0)) m jj,_,_,_,_,.cells cs,_,by rw [mF,hx0,hrun];rfl,rfl,cK.newObj h hk aV entry hid hnb (.cells cs) ?_ ?_,fun i=>Iff.rfl⟩
    ·simp only [OR]
     refine ⟨Or.inr trivial,_,e,(0,0),by rw [cV];exact hnb.new,by simp,sW _,?_,fun j b hj=> ?_⟩
     ·rw [hsize]
      simp only [cV,hcl,Nat.zero_add];exact Nat.mul_le_mul_right _ EC
     ·simp only [cV,Nat.zero_add]
      obtain ⟨u,r1,r2⟩:=I7.get _ _ Sx j b hj;have hjl:=p6 r1;refine ⟨u,?_,?_⟩
      ·rw [show (#[]++vn.toArray++Builtin.zeroCells z.cells (jj - m))[j]? =(vn++(Builtin.zeroCells z.cells (jj - m)).toList)[j]? from by rw [<- Array.getElem?_toList];simp,x9 hjl]
       exact r1
      ·exact (hnb.vr h.wf _ (fun j hj=>eM (by rintro rfl;exact hid.new hj)) (fun _ h=>Or.inl h) r2).place
    ·simp only [VR]
     refine ⟨Or.inr trivial,jj,by simp,EC,_,e,(0,0),by rw [cV];exact hnb.new,?_⟩;rw [hsize];simp
  ·cases he
 ·cases he
def wS (P:Program)(ck:Operand->q7->Bool)(o:Oper)(op:q9):Bool :=
 match o.op,op with
 | .call ⟨.builtin .clear,args,argTypes⟩,.clear sz zero y =>
  (match args.toList,argTypes.toList with
   |[x],[t]=>ck x y&&decide (0<sz)&&(match P.underlying t with
    |some (.slice e)=>(match P.info? e with
     |some i=>(match i.zero with|some z=>consts z.cells.toList zero&&z.cells.size==sz&&zero.all b6.one|none=>false)
     |none=>false)
    |_=>false)
   |_,_=>false)
 |_,_=>false
theorem Et {α:Type}(zero:List α):∀ (n i:Nat),((c9 n zero).flatten)[i]? =if i<n * zero.length then zero[i % zero.length]? else none
 |0,i=>by simp
 |n+1,i=>by
  rw [List.replicate_succ,List.flatten_cons]
  by_cases h:i<zero.length
  ·rw [x9 h,if_pos (by rw [Nat.succ_mul];omega),Nat.mod_eq_of_lt h]
  ·rw [s7 (by omega),Et zero n (i - zero.length)]
   by_cases h2:i - zero.length<n * zero.length
   ·rw [if_pos h2,if_pos (by rw [Nat.succ_mul];omega),Nat.mod_eq_sub_mod (a:=i) (b:=zero.length) (by omega)]
   ·rw [if_neg h2,if_neg (by rw [Nat.succ_mul];omega)]
theorem Eb {zero:List b6}(h:A4 zero=0):∀ n:Nat,A4 (c9 n zero).flatten=0
 |0=>by simp [A4]
 |n+1=>by rw [List.replicate_succ,List.flatten_cons,cL,h,Eb h n];rfl
theorem MB (h:RI X l S st a w G I N)(hD:∀ j,D j=true->S j){k:Nat}(hk:¬ S k)(aV:k<st.L.length)(entry:Nat){o:Oper}{sz:Nat}{zero:List b6}{y:q7}
  (hc:wS P (X.ck D) o (.clear sz zero y)=true) {E:Env} (hE:E.lim=l) {st' :E5} (he:X0 E k sz zero st (F5 st.T st.L y)=some st') :
  ∃ w',(execOp a.eval o).run P w= .ok (.value (.tuple #[])) w' /\cK X l S entry st a w G I N st' k (.tuple #[]) w' G I N:=by
 unfold wS at hc;split at hc
 ·rename_i args argTypes sz' zero' y' hop heq
  cases heq;split at hc
  ·rename_i x t ha ht
   have e1:args= #[x]:=by apply Array.toList_inj.1;simpa using ha
   have e2:argTypes= #[t]:=by apply Array.toList_inj.1;simpa using ht
   subst e1 e2;simp only [b5,decide_eq_true_eq] at hc;obtain ⟨⟨hx,hsz⟩,hc⟩:=hc;split at hc
   ·rename_i e hu
    split at hc
    ·rename_i i hi
     split at hc
     ·rename_i z hz
      simp only [b5,beq_iff_eq] at hc;obtain ⟨⟨hcs,hzs⟩,hone⟩:=hc;have mF:(execOp a.eval o).run P w=((Builtin.clear_ #[t] o.type #[a.eval x]).run P w).andThen fun v w' => .ok (.value v) w' :=by
       obtain ⟨dst,ct,ty,pos,after,guard⟩:=o;simp only at hop;subst hop;simp [execOp,resolve,invoke,builtin]
      have hv:=h.R8 hD _ _ hx;unfold X0 at he;split at he
      ·rename_i id z' lo len hy
       rw [hy] at hv;simp only [VR] at hv;obtain ⟨hN,cap,hx0,hcap,_⟩:=hv;split at he
       ·rename_i dw
        obtain ⟨rfl,hzl,hzb,hmay⟩:=dw;split at he
        ·rename_i H' hw
         cases he;obtain ⟨l0,c,e',f,g1,g2,g3,g4,g5,g6,g7,g8,g9⟩:=h.H.wr hw;have hvz:=di (G:=G) (I:=I) (N:=N) (w:=w) _ _ hcs
         by_cases hlen:len=0
         ·subst hlen
          have hH' :H' =st.H:=by
           rw [g2];simp only [List.replicate_zero,List.flatten_nil,splice,List.length_nil,Nat.add_zero,List.append_nil,List.take_append_drop];apply List.ext_getElem?;intro j
           by_cases hj:id=j
           ·subst hj;rw [List.getElem?_set_self (p6 g1),g1]
           ·rw [A1 hj]
          have hM:=cK.write (D1:=N) h hk aV entry (w' :=w) (G:=G) (id:=id) (b:=(I id).1) ⟨g6,rfl,rfl,rfl,rfl,fun _ _=>rfl,fun c _ _ h=>⟨c,h,rfl⟩⟩ g1 (h.H id _ g1) (by rw [<- hE];exact hmay) (Or.inl (by omega)) (fun _=>Iff.rfl) (v:= .tuple []) (x:= .tuple #[]) (by simp only [VR];exact ⟨#[],rfl,by simp [I7]⟩) (.obj id::st.n6) (by simp [Touch.K4]);have tw:st.H.set id (.cells l0)=st.H:=by
           apply List.ext_getElem?;intro j
           by_cases hj:id=j
           ·subst hj;rw [List.getElem?_set_self (p6 g1),g1]
           ·rw [A1 hj]
          rw [tw] at hM;refine ⟨w,?_,by rw [hH'];exact hM⟩;rw [mF,hx0];simp [Builtin.clear_,run_underlying hu]
         ·have hzc:(Builtin.zeroCells z.cells len).toList.length=len * z' :=by simp [wq,hzs]
          have hfl:((c9 len zero).flatten).length=len * z' :=by simp [hzl]
          have Ey:∀ (j:Nat) b,((c9 len zero).flatten)[j]? =some b->∃ u,(Builtin.zeroCells z.cells len).toList[j]? =some u/\VR G I N w .none b u:=by
           intro j b hj;rw [Et] at hj;split at hj
           ·rename_i hjl
            rw [hzl] at hj hjl;obtain ⟨u,r1,r2⟩:=I7.get _ _ hvz (j % z') b hj;refine ⟨u,?_,r2⟩;have hzj:z.cells[j % z']? =some u:=by simpa using r1
            have aK9 :z.cells[j % z.cells.size]! =u:=by
             rw [hzs,getElem!_def,hzj]
            have hjr:(Array.range (len * z.cells.size))[j]? =some j:=by
             rw [hzs];simp [hjl]
            rw [Array.getElem?_toList];unfold Builtin.zeroCells;rw [Array.getElem?_map,hjr];simp only [Option.map_some,aK9]
           ·cases hj
          obtain ⟨hO,hW⟩:=Ap g4 g5 g6 g7 g8 g9 g3 (vs:=(Builtin.zeroCells z.cells len).toList) (by rw [hzc,hfl]) (fun j b hj=>by
           obtain ⟨u,r1,r2⟩:=Ey j b hj;exact ⟨u,r1,r2.place⟩)
          have OU:IA (Builtin.zeroCells z.cells len).toList:=by
           intro u hu';obtain ⟨j,hj,rfl⟩:=List.getElem_of_mem hu';have hjl:j<((c9 len zero).flatten).length:=by rw [hfl,<- hzc];exact hj
           obtain ⟨u',r1,r2⟩:=Ey j _ (s9 hjl);rw [s9 hj] at r1;cases r1;have hmem:((c9 len zero).flatten)[j] ∈ zero:=by
            have:=List.getElem_mem hjl;simp only [List.mem_flatten,List.mem_replicate] at this;obtain ⟨q,hq,Sv⟩:=this;rw [hq.2] at Sv;exact Sv
           exact (jM (List.all_eq_true.1 hone _ hmem) r2).1
          have hrun:=run_storeCells_at (P:=P) (I id).1 ((I id).2+lo) e' f (Builtin.zeroCells z.cells len).toList 0 c w g5 g7 (by rw [hzc,Nat.add_zero];omega) OU;simp only [Nat.add_zero] at hrun;have mD:(y7.cells (splice l0 lo (c9 len zero).flatten)).N4<=max (y7.cells l0).N4 (id+1)\/(l.base<=id/\l.strict<=id):=by
           left;have:=tZ l0 lo (c9 len zero).flatten;have hz0:=Eb hzb len;simp only [y7.N4];omega
          have hM:=cK.write (D1:=N) h hk aV entry hW g1 hO (by rw [<- hE];exact hmay) mD (fun _=>Iff.rfl) (v:= .tuple []) (x:= .tuple #[]) (by simp only [VR];exact ⟨#[],rfl,by simp [I7]⟩) (.obj id::st.n6) (by simp [Touch.K4]);refine ⟨_,?_,by rw [g2];exact hM⟩;rw [mF,hx0];have hzv:(zeroValue e).run P w= .ok z w:=by simp [zeroValue,typeInfo,hi,hz]
          obtain ⟨n',rfl⟩:∃ n',len=n' +1:=⟨len - 1,by omega⟩;simp [Builtin.clear_,run_underlying hu,hzv,hrun]
        ·cases he
       ·cases he
      ·rename_i cells hy
       cases he;rw [hy] at hv;simp only [VR,DR] at hv;refine ⟨w,?_,cK.same h hk aV entry (by simp only [VR];exact ⟨#[],rfl,by simp [I7]⟩)⟩;rw [mF]
       rcases hv with ⟨hv|⟨a0,hv⟩,_⟩|⟨b,o',cap,hv,_⟩
       ·rw [hv];simp [Builtin.clear_,run_underlying hu]
       ·rw [hv];simp [Builtin.clear_,run_underlying hu]
       ·rw [hv];simp [Builtin.clear_,run_underlying hu]
      ·cases he
     ·cases hc
    ·cases hc
   ·cases hc
  ·cases hc
 ·cases hc
end
def hold (G:Gh)(n:Nat):Gh:=fun b =>
 match G b with
 | .grow m (.cell id off)=>if id<n then .grow m (.cell id off) else .held m
 | .grow m _=> .held m
 | .obj id=>if id<n then .obj id else .held 0
 |x=>x
def cJ (G G1:Gh)(n:Nat):Gh:=fun b=>if hold G n b=G b then G1 b else G b
section
variable {G G1:Gh} {w w1:World} {n:Nat}
theorem wA (b o:Nat):jq (hold G n) b o↔jq G b o:=by
 unfold jq hold;cases h:G b with
 |grow m pl =>
  cases pl with
  |cell id off=>by_cases hid:id<n<;>simp [hid]
  |_=>simp
 |obj id=>by_cases hid:id<n<;>simp [hid]
 |_=>simp
theorem qQ:Ext G w (hold G n) w where
 os:=rfl
 tape:=rfl
 output:=rfl
 size:=n5 _
 kJ b o h:=⟨(wA b o).2 h,rfl⟩
 still b h:=⟨by rcases h with h|⟨m,h⟩<;>simp [hold,h],rfl⟩
 shape _ c _ _ h:=⟨c,h,rfl⟩
theorem JL (h:WF G w):WF (hold G n) w:=fun b hb=>by simp [hold,h b hb]
theorem mG {b id:Nat}(hid:id<n)(h:G b= .obj id):hold G n b= .obj id:=by simp [hold,h,hid]
theorem jG {id off:Nat}(hid:id<n):aR (.cell id off) G w (hold G n) w:=fun b m hb=>⟨by simp [hold,hb,hid],rfl⟩
theorem EE {b id:Nat}(h:hold G n b= .obj id):id<n:=by
 unfold hold at h;cases hg:G b with
 |grow m pl =>
  rw [hg] at h;cases pl with
  |cell i o=>simp only at h;split at h<;>cases h
  |_=>cases h
 |obj i =>
  rw [hg] at h;simp only at h;split at h
  ·cases h;assumption
  ·cases h
 |_=>rw [hg] at h;cases h
theorem hidden {b:Nat}(h:hold G n b≠G b):∃ m,hold G n b= .held m:=by
 unfold hold at h ⊢;cases hg:G b with
 |grow m pl =>
  simp only [hg] at h ⊢;cases pl<;>simp at h ⊢;rename_i id off;rw [if_neg (by omega)];exact ⟨m,rfl⟩
 |obj id =>
  simp only [hg] at h ⊢;simp at h;rw [if_neg (by omega)];exact ⟨0,rfl⟩
 |_=>simp [hg] at h
theorem fA {b:Nat}(he:Ext (hold G n) w G1 w1)(h:hold G n b≠G b):cJ G G1 n b=G b/\w1.heap[b]? =w.heap[b]? /\G1 b=hold G n b:=by
 obtain ⟨m,hm⟩:=hidden h;obtain ⟨h1,h2⟩:=he.still b (Or.inr ⟨m,hm⟩);exact ⟨by simp [cJ,h],h2,h1⟩
theorem fB {b:Nat}(h:hold G n b=G b):cJ G G1 n b=G1 b:=by simp [cJ,h]
theorem yV (he:Ext (hold G n) w G1 w1):Ext G w (cJ G G1 n) w1 where
 os:=he.os
 tape:=he.tape
 output:=he.output
 size:=he.size
 kJ b o h:=by
  obtain ⟨h1,h2⟩:=he.kJ b o ((wA b o).2 h);refine ⟨?_,h2⟩
  by_cases hh:hold G n b=G b
  ·unfold jq at h1 ⊢;rw [fB hh];exact h1
  ·unfold jq at h ⊢;rw [(fA he hh).1];exact h
 still b h:=by
  have hh:hold G n b=G b:=by rcases h with h|⟨m,h⟩<;>simp [hold,h]
  obtain ⟨h1,h2⟩:=he.still b (by rw [hh];exact h);exact ⟨by rw [fB hh,h1,hh],h2⟩
 shape:=he.shape
theorem kV (he:Ext (hold G n) w G1 w1):Sub G1 w1 (cJ G G1 n) w1 where
 kJ b o h:=by
  refine ⟨?_,rfl⟩
  by_cases hh:hold G n b=G b
  ·unfold jq at h ⊢;rw [fB hh];exact h
  ·obtain ⟨h1,h2,h3⟩:=fA he hh
   have:jq (hold G n) b o:=by unfold jq at h ⊢;rw [<- h3];exact h
   have:=(wA b o).1 this;unfold jq at this ⊢;rw [h1];exact this
 shape _ c _ _ h:=⟨c,h,rfl⟩
theorem aC (he:Ext (hold G n) w G1 w1){b:Nat}(h:∀ m,G1 b≠ .held m):cJ G G1 n b=G1 b:=by
 by_cases hh:hold G n b=G b
 ·exact fB hh
 ·obtain ⟨_,_,h3⟩:=fA he hh
  obtain ⟨m,hm⟩:=hidden hh;exact absurd (h3.trans hm) (h m)
theorem iU (he:Ext (hold G n) w G1 w1)(q:Place):aR q G1 w1 (cJ G G1 n) w1 :=
 fun b m hb=>⟨by rw [aC he (by intro m';rw [hb];simp)];exact hb,rfl⟩
theorem bf (he:Ext (hold G n) w G1 w1){q:Place}(hq:∀ id off,q= .cell id off->n<=id):aR q G w (cJ G G1 n) w1:=by
 intro b m hb;have hh:hold G n b≠G b:=by
  unfold hold;rw [hb];cases q with
  |cell id off=>have:=hq id off rfl;simp;omega
  |_=>simp
 obtain ⟨h1,h2,_⟩:=fA he hh;exact ⟨h1.trans hb,h2⟩
theorem qh (he:Ext (hold G n) w G1 w1){id:Nat}(hid:n<=id):∀ b,G b= .obj id->cJ G G1 n b= .obj id/\w1.heap[b]? =w.heap[b]? :=by
 intro b hb;have hh:hold G n b≠G b:=by unfold hold;rw [hb];simp;omega
 obtain ⟨h1,h2,_⟩:=fA he hh;exact ⟨h1.trans hb,h2⟩
theorem Br (he:Ext (hold G n) w G1 w1)(hwf:WF G w)(h1:WF G1 w1):WF (cJ G G1 n) w1:=by
 intro b hb;have hg:G b= .free:=hwf b (Nat.le_trans he.size hb);have hh:hold G n b=G b:=by simp [hold,hg]
 rw [fB hh];exact h1 b hb
end
structure Hy (l:G9)(H:o6)(w:World)(G:Gh)(I:T0)(N:Nat->Prop)(args:List b6)(O6:Array Value):Prop where
 args:I7 G I N w args O6.toList
 hr:HR G I N w H
 wf:WF G w
 cE:∀ id,N id->id<H.length
 U8:Mq l H
 base:l.base<=H.length
 strict:l.strict<=l.base
 jH:∀ b id:Nat,G b= .obj id->id<H.length
structure oz (l:G9)(H:o6)(w:World)(G:Gh)(I:T0)(N:Nat->Prop)(v:b6)(H1:o6)(x:Value)(w' :World)(G' :Gh)(I' :T0)(N' :Nat->Prop):Prop where
 val:VR G' I' N' w' .ret v x
 hr:HR G' I' N' w' H1
 wf:WF G' w'
 ext:Ext G w G' w'
 eE:jw l G w G' w'
 inj:∀ id,id<H.length->N id->I' id=I id
 mono:∀ id,N id->N' id
 old:∀ id,id<H.length->N' id->N id
 cE:∀ id,N' id->id<H1.length
 hle:∀ (id:Nat) (o' :y7),id<l.base->H1[id]? =some o' ->o'.N4<=id+1\/∃ o:y7,H[id]? =some o/\o'.N4<=o.N4
 U8:Mq l H1
def lV (P:Program)(cf:qp)(prom:FuncId->Bool):Prop :=
 ∀ f args H l v H1,cf f args H l=some (v,H1)->∀ w G I N O6,Hy l H w G I N args O6->(prom f=false->l.base=H.length) ->
  Calls P f O6 w fun e w' =>∃ x G' I' N',e= .returned x/\oz l H w G I N v H1 x w' G' I' N'
def U2 (P:Program)(f:FuncId):Bool :=
 match P.funcs[f]? with
 | some fn => fn.name != "runtime.NumGoroutine" && fn.body.isSome
 |none=>false
theorem rL {P:Program}{w:World}{f:FuncId}(h:U2 P f=true)(args:Array Value):(callFunc f args).run P w= .ok (.enter f args) w:=by
 unfold U2 at h;split at h
 ·rename_i fn hfn
  simp only [b5,bne_iff_ne] at h;obtain ⟨c,hc⟩:=Option.isSome_iff_exists.1 h.2;simp [callFunc,hfn,h.1,hc]
 ·cases h
theorem Ea:∀ (l:List y7) (i:Nat) (o:y7),l[i]? =some o->o.N4<=Y6 l
 |[],_,_,h=>by simp at h
 |v::vs,0,o,h=>by simp at h;subst h;simp only [Y6];omega
 |v::vs,i+1,o,h=>by have:=Ea vs i o (by simpa using h);simp only [Y6];omega
theorem qI:∀ (l:List y7) (k i:Nat) (o:y7),P8 l k=true->l[i]? =some o->o.N4<=k+i+1
 |[],_,_,_,_,h=>by simp at h
 |v::vs,k,0,o,hd,h=>by
  simp only [P8,b5,decide_eq_true_eq] at hd;simp at h;subst h;omega
 |v::vs,k,i+1,o,hd,h=>by
  simp only [P8,b5,decide_eq_true_eq] at hd;have:=qI vs (k+1) i o hd.2 (by simpa using h);omega
theorem oO {H:o6}{n s i:Nat}{o:y7}(hi:i<n)(hs:s<=i)(h:H[i]? =some o):((H.take n).drop s)[i - s]? =some o:=by
 rw [List.getElem?_drop,show s+(i - s)=i from by omega,List.getElem?_take_of_lt hi];exact h
theorem tN {l:G9}{H:o6}{n:Nat}(hd:Mq l H)(hc:Y6 ((H.take n).drop l.strict)<=n){id:Nat}{o:y7}(hid:id<n)(h:H[id]? =some o):o.N4<=n:=by
 by_cases hs:id<l.strict
 ·have:=(hd id o h).1 hs;omega
 ·have:=Ea _ _ _ (oO (s:=l.strict) hid (by omega) h);omega
theorem FP (H:o6)(s n:Nat):C8 H s n<=n:=by
 unfold C8;split
 ·omega
 ·split<;>omega
theorem Dm {l:G9}{H:o6}{n:Nat}(hd:Mq l H){id:Nat}{o:y7}(hid:id<C8 H l.strict n)(h:H[id]? =some o):o.N4<=id+1:=by
 unfold C8 at hid;split at hid
 ·exact (hd id o h).1 (by omega)
 ·split at hid
  ·rename_i hdf
   by_cases hs:id<l.strict
   ·exact (hd id o h).1 hs
   ·have:=qI _ _ _ _ hdf (oO (s:=l.strict) hid (by omega) h);omega
  ·exact (hd id o h).1 hid
theorem VR.DV {G:Gh}{I:T0}{N:Nat->Prop}{w:World}{pl vv :Place}{a:b6}{x:Value}(ha:∀ z n c,a≠ .own z n c)(h:VR G I N w pl a x):VR G I N w vv a x:=by
 cases a with
 |own z n c=>exact absurd rfl (ha z n c)
 |any=>simp only [VR]
 |_=>simpa only [VR] using h
structure SF (pl:Place)(l:G9)(H:o6)(w:World)(G:Gh)(I:T0)(N:Nat->Prop)(v:b6)(H1:o6)(x:Value)(w' :World)(G' :Gh)(I' :T0)(N' :Nat->Prop):Prop where
 val:VR G' I' N' w' pl v x
 hr:HR G' I' N' w' H1
 wf:WF G' w'
 ext:Ext G w G' w'
 eE:jw l G w G' w'
theorem oz.at {l:G9}{H:o6}{w:World}{G:Gh}{I:T0}{N:Nat->Prop}{v:b6}{H1:o6}{x:Value}{w' :World}{G' :Gh}{I' :T0}{N' :Nat->Prop}
  (h:oz l H w G I N v H1 x w' G' I' N') {pl:Place} (hp:pl≠ .none):∃ G2,SF pl l H w G I N v H1 x w' G2 I' N' :=by
 by_cases ho:∃ z n c,v= .own z n c
 ·obtain ⟨z,n,c,rfl⟩:=ho
  obtain ⟨G2,hm,hv⟩:=gP hp h.val;refine ⟨G2,hv,h.hr.EU hm (by simp),hm.wf h.wf,h.ext.trans hm.ext,h.eE.trans fun id _=>⟨fun b hb=>⟨hm.obj b id hb,rfl⟩,fun off=>hm.keeps _ (by simp)⟩⟩
 ·exact ⟨G',h.val.DV (fun z n c e=>ho ⟨z,n,c,e⟩),h.hr,h.wf,h.ext,h.eE⟩
section
variable {P:Program} {X:Cx} {l:G9} {S:Nat->Prop} {st:E5} {a:Act} {w w1:World} {G G1:Gh} {I I1:T0} {N N1:Nat->Prop}
structure Hz (X:Cx)(l:G9)(S:Nat->Prop)(entry:Nat)(st:E5)(a:Act)(w:World)(G:Gh)(I:T0)(N:Nat->Prop)
  (st' :E5) (k:Nat) (x' :Value) (w' :World) (G' :Gh) (I' :T0) (N' :Nat->Prop):Prop where
 mid:cK X l S entry st a w G I N st' k x' w' G' I' N'
 cE:∀ id,N' id->id<st'.H.length
 old:∀ id,id<st.H.length->N' id->N id
theorem pz (h:RI X l S st a w G I N)(cz:∀ id,N id->id<st.H.length){k:Nat}(hk:¬ S k)(aV:k<st.L.length)(entry:Nat){n m:Nat}(hn:n<=st.H.length)(hm:m<=n)
  {l' :G9} (hl' :l'.base=n) (hmay:∀ id,id<n->l.may id=false->l'.may id=false) (Va :∀ id,m<=id->id<n->l'.may id=false)
  {v:b6} {H1:o6} {x:Value} (hlen:H1.length=n) (hc:oz l' (st.H.take n) w (hold G n) I (fun i=>N i/\i<n) v H1 x w1 G1 I1 N1) {n6:List Touch} (EG:∀ id,n6.any (Touch.K4 id)=false->m<=id) :
  ∃ G' I',Hz X l S entry st a w G I N (put { st with H:=H1.take m++st.H.drop m,n6 } k v) k x w1 G' I' N:=by
 have Tt:(st.H.take n).length=n:=by simp;omega
 have hN1:∀ id,N1 id->N id/\id<n:=fun id hid=>by
  have:=hc.cE id hid;exact hc.old id (by rw [Tt];omega) hid
 have hI1:∀ id,N id->id<n->I1 id=I id:=fun id hid hlt=>hc.inj id (by rw [Tt];exact hlt) ⟨hid,hlt⟩
 obtain ⟨G2,hp⟩:=hc.at (pl:= .loc k) (by simp);have hx:=yV hp.ext;have JR:∀ id,m<=id->∀ b,G b= .obj id->cJ G G2 n b= .obj id/\w1.heap[b]? =w.heap[b]? :=by
  intro id hid b hb
  by_cases hlt:id<n
  ·obtain ⟨g1,g2⟩:=(hp.eE id (Va id hid hlt)).1 b (mG hlt hb)
   exact ⟨by rw [aC hp.ext (by intro m';rw [g1];simp)];exact g1,g2⟩
  ·exact qh hp.ext (by omega) b hb
 have Pg:∀ id,m<=id->∀ off,aR (.cell id off) G w (cJ G G2 n) w1:=by
  intro id hid off
  by_cases hlt:id<n
  ·intro b q hb
   obtain ⟨g1,_⟩:=jG (G:=G) (w:=w) (off:=off) hlt b q hb;obtain ⟨g3,g4⟩:=(hp.eE id (Va id hid hlt)).2 off b q g1;exact ⟨by rw [aC hp.ext (by intro m';rw [g3];simp)];exact g3,g4⟩
  ·exact bf hp.ext (by intro id' off' e;cases e;omega)
 have ae1:∀ id o',(H1.take m++st.H.drop m)[id]? =some o' ->(id<m/\H1[id]? =some o')\/(m<=id/\st.H[id]? =some o'):=by
  intro id o' ho'
  by_cases hlt:id<m
  ·rw [x9 (by simp;omega),List.getElem?_take_of_lt hlt] at ho'
   exact Or.inl ⟨hlt,ho'⟩
  ·rw [s7 (by simp;omega),List.getElem?_drop] at ho'
   rw [show m+(id - (H1.take m).length)=id from by simp;omega] at ho';exact Or.inr ⟨by omega,ho'⟩
 have hle:∀ id o',(H1.take m++st.H.drop m)[id]? =some o' ->o'.N4<=id+1\/∃ o:y7,st.H[id]? =some o/\o'.N4<=o.N4:=by
  intro id o' ho'
  rcases ae1 id o' ho' with ⟨hlt,ho⟩|⟨_,ho⟩
  ·rcases hc.hle id o' (by omega) ho with hb|⟨o,h1,h2⟩
   ·exact Or.inl hb
   ·rw [List.getElem?_take_of_lt (by omega)] at h1
    exact Or.inr ⟨o,h1,h2⟩
  ·exact Or.inr ⟨o',ho,n5 _⟩
 have ag7:(H1.take m++st.H.drop m).length=st.H.length:=by simp;omega
 have hII:∀ id,N id->I1 id=I id\/n<=id:=fun id hid=>by
  by_cases hlt:id<n
  ·exact Or.inl (hI1 id hid hlt)
  ·exact Or.inr (by omega)
 refine ⟨cJ G G2 n,fun id=>if id<n then I1 id else I id,?_,?_,?_⟩
 ·have Te:∀ id,N id->(if id<n then I1 id else I id)=I id:=by
   intro id hid;split
   ·rename_i hlt;exact hI1 id hid hlt
   ·rfl
  have hIn:∀ id,N1 id->(if id<n then I1 id else I id)=I1 id:=by
   intro id hid;rw [if_pos (hN1 id hid).2]
  have hNn:∀ id,N1 id->N id:=fun id hid=>(hN1 id hid).1
  refine ⟨⟨?_,?_,?_,Br hp.ext h.wf hp.wf,?_⟩,?_,hx,?_,?_,fun id _ hN=>Te id hN,fun _ h=>h,?_,?_⟩
  ·intro s t ht
   exact VR.mono hx Te (fun _ h=>h) _ _ _ (Or.inr (bf hp.ext (by simp))) (h.T s t ht)
  ·intro j hj d hd Hw
   have:k≠j:=by rintro rfl;exact hk hj
   simp only [y3.put];rw [O1 _ _ _ _ _ this];exact VR.mono hx Te (fun _ h=>h) _ _ _ (Or.inr (bf hp.ext (by simp))) (h.L j hj d hd Hw)
  ·intro id o' ho'
   rcases ae1 id o' ho' with ⟨hlt,ho⟩|⟨hge,ho⟩
   ·refine OR.mono (kV hp.ext) hIn hNn id o' (fun hb=> ?_) (fun off=>iU hp.ext _) (hp.hr id o' ho)
    exact ⟨by rw [aC hp.ext (by intro m';rw [hb];simp)];exact hb,rfl⟩
   ·exact OR.mono hx Te (fun _ h=>h) id o' (fun hb=>JR id hge _ hb) (Pg id hge) (h.H id o' ho)
  ·intro id o' ho'
   rcases hle id o' ho' with hb|⟨o,h1,h2⟩
   ·exact ⟨fun _=>hb,fun _=>by omega⟩
   ·obtain ⟨d1,d2⟩:=h.U8 id o h1
    exact ⟨fun hh=>by have:=d1 hh;omega,fun hh=>by have:=d2 hh;omega⟩
  ·simp only [y3.put]
   rw [M6 _ _ _ _ aV];exact VR.mono (kV hp.ext) hIn hNn _ _ _ (Or.inr (iU hp.ext _)) hp.val
  ·intro id hid
   by_cases hlt:id<n
   ·obtain ⟨p1,p2⟩:=hp.eE id (hmay id hlt hid)
    refine ⟨fun b hb=> ?_,fun off b q hb=> ?_⟩
    ·obtain ⟨g1,g2⟩:=p1 b (mG hlt hb)
     exact ⟨by rw [aC hp.ext (by intro m';rw [g1];simp)];exact g1,g2⟩
    ·obtain ⟨g1,_⟩:=jG (G:=G) (w:=w) (off:=off) hlt b q hb
     obtain ⟨g3,g4⟩:=p2 off b q g1;exact ⟨by rw [aC hp.ext (by intro m';rw [g3];simp)];exact g3,g4⟩
   ·exact ⟨qh hp.ext (by omega),fun off=>bf hp.ext (by intro id' off' e;cases e;omega)⟩
  ·intro id hN ht
   exact ⟨Te id hN,JR id (EG id ht)⟩
  ·simp only [y3.put];omega
  ·intro id o' _ ho'
   exact hle id o' ho'
 ·intro id hid
  simp only [y3.put];rw [ag7];exact cz id hid
 ·intro id _ hid
  exact hid
theorem HO (h:RI X l S st a w G I N)(cz:∀ id,N id->id<st.H.length){k:Nat}(hk:¬ S k)(aV:k<st.L.length)(entry:Nat)
  {v:b6} {H1:o6} {x:Value} (hlen:st.H.length<=H1.length) (hc:oz l st.H w (hold G st.H.length) I N v H1 x w1 G1 I1 N1) {n6:List Touch} (EG:∀ id,n6.any (Touch.K4 id)=false->st.H.length<=id) :
  ∃ G',Hz X l S entry st a w G I N (put { st with H:=H1,n6 } k v) k x w1 G' I1 N1:=by
 obtain ⟨G2,hp⟩:=hc.at (pl:= .loc k) (by simp);have hx:=yV hp.ext;have Te:∀ id,N id->I1 id=I id:=fun id hid=>hc.inj id (cz id hid) hid
 refine ⟨cJ G G2 st.H.length,?_,hc.cE,hc.old⟩;refine ⟨⟨?_,?_,?_,Br hp.ext h.wf hp.wf,hc.U8⟩,?_,hx,?_,?_,fun id _ hN=>Te id hN,hc.mono,hlen,fun id o' hb ho' =>hc.hle id o' hb ho'⟩
 ·intro s t ht
  exact VR.mono hx Te hc.mono _ _ _ (Or.inr (bf hp.ext (by simp))) (h.T s t ht)
 ·intro j hj d hd Hw
  have:k≠j:=by rintro rfl;exact hk hj
  simp only [y3.put];rw [O1 _ _ _ _ _ this];exact VR.mono hx Te hc.mono _ _ _ (Or.inr (bf hp.ext (by simp))) (h.L j hj d hd Hw)
 ·intro id o' ho'
  refine OR.mono (kV hp.ext) (fun _ _=>rfl) (fun _ h=>h) id o' (fun hb=> ?_) (fun off=>iU hp.ext _) (hp.hr id o' ho');exact ⟨by rw [aC hp.ext (by intro m';rw [hb];simp)];exact hb,rfl⟩
 ·simp only [y3.put]
  rw [M6 _ _ _ _ aV];exact VR.mono (kV hp.ext) (fun _ _=>rfl) (fun _ h=>h) _ _ _ (Or.inr (iU hp.ext _)) hp.val
 ·intro id hid
  by_cases hlt:id<st.H.length
  ·obtain ⟨p1,p2⟩:=hp.eE id hid
   refine ⟨fun b hb=> ?_,fun off b q hb=> ?_⟩
   ·obtain ⟨g1,g2⟩:=p1 b (mG hlt hb)
    exact ⟨by rw [aC hp.ext (by intro m';rw [g1];simp)];exact g1,g2⟩
   ·obtain ⟨g1,_⟩:=jG (G:=G) (w:=w) (off:=off) hlt b q hb
    obtain ⟨g3,g4⟩:=p2 off b q g1;exact ⟨by rw [aC hp.ext (by intro m';rw [g3];simp)];exact g3,g4⟩
  ·exact ⟨qh hp.ext (by omega),fun off=>bf hp.ext (by intro id' off' e;cases e;omega)⟩
 ·intro id hN ht
  have:=cz id hN;have:=EG id ht;omega
theorem xF {l:G9}{a b base strict id:Nat}(h:l.may id=false\/(a<=id/\id<b)):(l.mC a b base strict).may id=false:=by
 unfold G9.mC G9.may at *
 simp only [Bool.or_eq_false_iff,decide_eq_false_iff_not] at *
 split<;>simp only<;>omega
theorem iF (l:G9)(a b base strict:Nat):(l.mC a b base strict).base=base/\(l.mC a b base strict).strict=strict:=by
 unfold G9.mC;split<;>simp
theorem MA {E:Env}(JJ:lV P E.cf E.prom)(hE:E.lim=l)(h:RI X l S st a w G I N)(cz:∀ id,N id->id<st.H.length)(hb:l.base<=st.H.length)(hs:l.strict<=l.base)
  {k:Nat} (hk:¬ S k) (aV:k<st.L.length) (entry:Nat) {f:FuncId} {args:List b6} {O6:Array Value} (hargs:I7 G I N w args O6.toList) {st' :E5} (he:C7 E k f args st=some st') :
  Calls P f O6 w fun e w' =>∃ x G' I' N',e= .returned x/\Hz X l S entry st a w G I N st' k x w' G' I' N' :=by
 subst hE;unfold C7 at he;split at he
 ·rename_i xy
  split at he
  ·rename_i v H1 iG
   split at he
   ·rename_i hlen
    cases he;refine Calls.mono (JJ f args st.H E.lim v H1 iG w (hold G st.H.length) I N O6 ⟨?_,?_,JL h.wf,cz,h.U8,hb,hs,fun _ _=>EE⟩ (by rw [xy];simp)) ?_
    ·exact I7.mono qQ.sub (fun _ _=>rfl) (fun _ h=>h) _ _ hargs
    ·intro id o ho
     have hlt:=p6 ho;exact OR.mono qQ.sub (fun _ _=>rfl) (fun _ h=>h) id o (fun hb=>⟨mG hlt hb,rfl⟩) (fun _=>jG hlt) (h.H id o ho)
    ·rintro e w' ⟨x,G1,I1,N1,rfl,hc⟩
     obtain ⟨G',hd⟩:=HO h cz hk aV entry hlen hc (n6:= .below H1.length::st.n6) (by
      intro id ht;simp [Touch.K4] at ht;omega)
     exact ⟨x,G',I1,N1,rfl,hd⟩
   ·cases he
  ·cases he
 ·rename_i xy
  have xy:E.prom f=false:=by simpa using xy
  simp only at he;generalize Hw:I4 st.H E.lim.strict 8 (A4 args)=n at he;have hna:A4 args<=n:=by
   rw [<- Hw];have:∀ (j m:Nat),m<=I4 st.H E.lim.strict j m:=by
    intro j
    induction j with
    |zero=>intro m;simp [I4]
    |succ j ih =>
     intro m;unfold I4;split
     ·omega
     ·simp only
      split
      ·omega
      ·exact Nat.le_trans (Nat.le_max_left _ _) (ih _)
   exact this 8 _
  split at he
  ·rename_i dw
   obtain ⟨hn,hbO⟩:=dw;have Tt:(st.H.take n).length=n:=by simp;omega
   have pre:∀ l' :G9,l'.base=n->l'.strict=C8 st.H E.lim.strict n->Hy l' (st.H.take n) w (hold G n) I (fun i=>N i/\i<n) args O6:=by
    intro l' h1 h2;refine ⟨?_,?_,JL h.wf,fun id hid=>by rw [Tt];exact hid.2,?_,by rw [Tt,h1];exact n5 _,by rw [h1,h2];exact FP _ _ _,fun b id hb=>by rw [Tt];exact EE hb⟩
    ·exact I7.mono qQ.sub (fun _ _=>rfl) (fun _ h=>h) _ _ (I7.low n _ _ hna hargs)
    ·intro id o ho
     have hlt:id<n:=by have:=p6 ho;omega
     rw [List.getElem?_take_of_lt hlt] at ho;exact OR.mono qQ.sub (fun _ _=>rfl) (fun _ h=>h) id o (fun hb=>⟨mG hlt hb,rfl⟩) (fun _=>jG hlt) (OR.low hlt o (tN h.U8 hbO hlt ho) (h.H id o ho))
    ·intro id o ho
     have hlt:id<n:=by have:=p6 ho;omega
     rw [List.getElem?_take_of_lt hlt] at ho;rw [h1,h2];exact ⟨fun hh=>Dm h.U8 hh ho,fun _=>tN h.U8 hbO hlt ho⟩
   split at he
   ·split at he
    ·rename_i v H1 iG
     split at he
     ·rename_i hlen
      cases he;refine Calls.mono (JJ f args _ _ v H1 iG w (hold G n) I _ O6 (pre _ rfl rfl) (fun _=>Tt.symm)) ?_;rintro e w' ⟨x,G1,I1,N1,rfl,hc⟩;obtain ⟨G',I',hd⟩:=pz (l' :={ E.lim with base:=n,strict:=C8 st.H E.lim.strict n }) h cz hk aV entry hn (n5 n) rfl (fun id _ hid=>hid) (fun id h1 h2=>by omega) hlen hc (n6:= .below n::st.n6) (by
       intro id ht;simp [Touch.K4] at ht;omega)
      rw [<- hlen,List.take_length,hlen] at hd;exact ⟨x,G',I',N,rfl,hd⟩
     ·cases he
    ·cases he
   ·split at he
    ·rename_i v H1 iG
     split at he
     ·rename_i hlen
      cases he;refine Calls.mono (JJ f args _ _ v H1 iG w (hold G n) I _ O6 (pre _ rfl rfl) (fun _=>Tt.symm)) ?_;rintro e w' ⟨x,G1,I1,N1,rfl,hc⟩;obtain ⟨G',I',hd⟩:=pz (l' :=⟨0,n,n,C8 st.H E.lim.strict n⟩) h cz hk aV entry hn (Nat.zero_le n) rfl (fun id h1 _=>by simp [G9.may];omega) (fun id _ h2=>by simp [G9.may];omega) hlen hc (n6:=st.n6) (by intros;omega);refine ⟨x,G',I',N,rfl,?_⟩;simpa using hd
     ·cases he
    ·cases he
   ·split at he
    ·rename_i v H1 iG
     split at he
     ·rename_i hlen
      cases he;refine Calls.mono (JJ f args _ _ v H1 iG w (hold G n) I _ O6 (pre _ (iF _ _ _ _ _).1 (iF _ _ _ _ _).2) (fun _=>by rw [(iF _ _ _ _ _).1,Tt])) ?_;rintro e w' ⟨x,G1,I1,N1,rfl,hc⟩;obtain ⟨G',I',hd⟩:=pz h cz hk aV entry hn hlen.2 (iF _ _ _ _ _).1 (fun id _ hid=>xF (Or.inl hid)) (fun id h1 h2=>xF (Or.inr ⟨h1,h2⟩)) hlen.1 hc (n6:= .below (args.headD .any).N4::st.n6) (by
       intro id ht;simp [Touch.K4] at ht;simpa using ht.1)
      exact ⟨x,G',I',N,rfl,hd⟩
     ·cases he
    ·cases he
  ·cases he
end
structure Tr (N:Nat->Prop)(k:Nat)(st st' :E5):Prop where
 n6:∀ p:Touch->Bool,st.n6.any p=true->st'.n6.any p=true
 L:∀ m id off:Nat,m≠k->st'.L[m]? =some (b6.ptr id off)->st.L[m]? =some (b6.ptr id off)
 T:∀ s id off:Nat,st'.T[s]? =some (b6.ptr id off)->st.T[s]? =some (b6.ptr id off)
 H:∀ (id:Nat) (l' :List b6),N id->st'.n6.any (Touch.K4 id)=false->st'.H[id]? =some (y7.cells l')->∃ l:List b6,st.H[id]? =some (y7.cells l)/\l.length=l'.length
 U9:st'.T.length=st.T.length
 gN:st'.L.length=st.L.length
 SE:∀ m:Nat,m≠k->st.L[m]? =some (b6.tuple [])->st'.L[m]? =some (b6.tuple [])
section
variable {N:Nat->Prop} {k:Nat} {st S4 st' :E5}
theorem Tr.refl (N:Nat->Prop)(k:Nat)(st:E5):Tr N k st st :=
 ⟨fun _ h=>h,fun _ _ _ _ h=>h,fun _ _ _ h=>h,fun _ l _ _ h=>⟨l,h,rfl⟩,rfl,rfl,fun _ _ h=>h⟩
theorem gO {t t' :List Touch}(h:∀ p:Touch->Bool,t.any p=true->t'.any p=true){p:Touch->Bool}(h' :t'.any p=false):t.any p=false:=by
 cases he:t.any p with
 |false=>rfl
 |true=>rw [h p he] at h';cases h'
theorem Tr.trans (a:Tr N k st S4)(b:Tr N k S4 st'):Tr N k st st' where
 n6 p h:=b.n6 p (a.n6 p h)
 L m id off hm h:=a.L m id off hm (b.L m id off hm h)
 T s id off h:=a.T s id off (b.T s id off h)
 H id l' hN ht h:=by
  obtain ⟨l1,h1,e1⟩:=b.H id l' hN ht h;obtain ⟨l,h2,e2⟩:=a.H id l1 hN (gO b.n6 ht) h1;exact ⟨l,h2,e2.trans e1⟩
 U9:=b.U9.trans a.U9
 gN:=b.gN.trans a.gN
 SE m hm h:=b.SE m hm (a.SE m hm h)
theorem Tr.put (v:b6):Tr N k st (put st k v) where
 n6 _ h:=h
 L m id off hm h:=by
  simp only [y3.put] at h;rw [A1 (fun e=>hm e.symm)] at h;exact h
 T _ _ _ h:=h
 H _ l _ _ h:=⟨l,h,rfl⟩
 U9:=rfl
 gN:=by simp [y3.put]
 SE m hm h:=by
  simp only [y3.put];rw [A1 (fun e=>hm e.symm)];exact h
theorem tL {l:List b6}{j m id off:Nat}{x:Data}(h:(l.set j (.d x))[m]? =some (.ptr id off)):l[m]? =some (.ptr id off):=by
 by_cases hj:j=m
 ·subst hj
  rcases u9 j l.length with hl|hl
  ·rw [List.getElem?_set_self hl] at h;cases h
  ·rw [A8 (by simpa using hl)] at h;cases h
 ·rwa [A1 hj] at h
theorem uB {l:List b6}{j m:Nat}{z n:Nat}{c:List Data}{v:b6}(hj:l[j]? =some (.own z n c))(h:l[m]? =some (b6.tuple [])):(l.set j v)[m]? =some (b6.tuple []):=by
 have:j≠m:=by rintro rfl;rw [hj] at h;cases h
 rw [A1 this];exact h
theorem Tr.D7 (y:q7):Tr N k st (D7 st y).2:=by
 cases y with
 |loc j =>
  simp only [y3.D7];split
  ·rename_i hj
   exact ⟨fun _ h=>h,fun m id off _ h=>tL h,fun _ _ _ h=>h,fun _ l _ _ h=>⟨l,h,rfl⟩,rfl,by simp,fun _ _ h=>uB hj h⟩
  ·exact Tr.refl _ _ _
 |slot s=>exact Tr.refl _ _ _
 |const v=>exact Tr.refl _ _ _
theorem Tr.newObj {u5:Option Nat}(hi:∀ i,u5=some i->i<st.H.length)(hn:¬ N (newId st u5))(o:y7):Tr N k st (J7 st u5 o) where
 n6 p h:=by cases u5<;>exact h
 L m id off _ h:=by cases u5<;>exact h
 T s id off h:=by cases u5<;>exact h
 H id l' hN _ h:=by
  rcases iK hi o id _ h with ⟨rfl,_⟩|⟨_,h⟩
  ·exact absurd hN hn
  ·exact ⟨l',h,rfl⟩
 U9:=by cases u5<;>rfl
 gN:=by cases u5<;>rfl
 SE m _ h:=by cases u5<;>exact h
theorem Tr.heap {H' :o6}{n6:List Touch}(h1:∀ p:Touch->Bool,st.n6.any p=true->n6.any p=true)(h2:∀ id,N id->n6.any (Touch.K4 id)=false->H'[id]? =st.H[id]?):Tr N k st { st with H:=H',n6 } where
 n6:=h1
 L _ _ _ _ h:=h
 T _ _ _ h:=h
 H id l' hN ht h:=by
  simp only at h;rw [h2 id hN ht] at h;exact ⟨l',h,rfl⟩
 U9:=rfl
 gN:=rfl
 SE _ _ h:=h
theorem Tr.V2 {l:G9}{sz len:Nat}{cells:List Data}{op:q9}(h:V2 l st sz op=some (len,cells,st')):Tr N k st st' :=by
 unfold y3.V2 at h;split at h
 ·split at h
  ·cases h
  ·split at h
   ·split at h
    ·cases h
     exact ⟨fun p hp=>by simp only [List.any_cons,hp,Bool.or_true],fun _ _ _ _ h=>h,fun s id off h=>tL h,fun _ l _ _ h=>⟨l,h,rfl⟩,by simp,rfl,fun _ _ h=>h⟩
    ·cases h
   ·cases h
 ·split at h
  ·rename_i id off OY
   split at h
   ·cases h
   ·split at h
    ·rename_i cs hcs
     split at h
     ·split at h
      ·cases h
       refine ⟨fun p hp=>by simp only [List.any_cons,hp,Bool.or_true],fun _ _ _ _ h=>h,fun _ _ _ h=>h,fun id' l' _ _ h=> ?_,rfl,rfl,fun _ _ h=>h⟩;simp only at h
       by_cases he:id=id'
       ·subst he
        rw [List.getElem?_set_self (p6 hcs)] at h;cases h;exact ⟨cs,hcs,by simp⟩
       ·rw [A1 he] at h
        exact ⟨l',h,rfl⟩
      ·cases h
     ·cases h
    ·cases h
  ·cases h
 ·cases h
theorem Tr.Q1 {l:G9}{j4:List n8}{sz len:Nat}{cells:List Data}{y:q7}(h:Q1 l j4 st sz y=some (len,cells,st')):Tr N k st st' :=by
 unfold y3.Q1 at h;split at h
 ·split at h
  ·cases h;exact Tr.refl _ _ _
  ·cases h
 ·cases h
 ·cases h
 ·split at h
  ·rename_i hj
   split at h
   ·cases h
    exact ⟨fun _ h=>h,fun m id off _ h=>tL h,fun _ _ _ h=>h,fun _ l _ _ h=>⟨l,h,rfl⟩,rfl,by simp,fun _ _ h=>uB hj h⟩
   ·cases h
  ·split at h
   ·exact Tr.V2 h
   ·cases h
  ·cases h
theorem Pn {v:b6}{id i o:Nat}(h:v.kill id= .ptr i o):v= .ptr i o:=by
 cases v<;>simp only [b6.kill] at h<;>first|(cases h;done)|(split at h<;>first|(cases h;done)|exact h)|exact h
theorem AP {l:List b6}{id m i o:Nat}(h:(G5 id l)[m]? =some (.ptr i o)):l[m]? =some (.ptr i o):=by
 rw [eC] at h;cases hl:l[m]? with
 |none=>rw [hl] at h;cases h
 |some v =>
  rw [hl] at h;simp only [Option.map_some,Option.some.injEq] at h;rw [Pn h]
theorem Tr.S2 {E:Env}{sz bytes id lo len:Nat}{y:b6}(h:S2 E k sz bytes st id lo len y=some st'):Tr N k st st' :=by
 unfold y3.S2 at h;split at h
 ·split at h
  ·rename_i l0 m cs hl0 _
   split at h
   ·cases h
    refine Tr.trans ?_ (Tr.put _);refine ⟨fun p hp=>by simp only [List.any_cons,hp,Bool.or_true],fun m' i o _ h=>AP h,fun s i o h=>AP h,fun id' l' _ ht h=> ?_,by simp [N5],by simp [N5],fun m' _ h=>by simp only [eC,h,Option.map_some,b6.kill,G5]⟩;have hne:id' ≠id:=by rintro rfl;simp [Touch.K4] at ht
    have h' :(oa st.H E.lim.base id (.cells (G5 id l0++cs)))[id']? =some (.cells l'):=h;unfold oa at h';rw [A1 (fun e=>hne e.symm)] at h'
    by_cases hb:id' <E.lim.base
    ·by_cases hlt:id' <st.H.length
     ·rw [x9 (by simp;omega),List.getElem?_take_of_lt hb] at h'
      exact ⟨l',h',rfl⟩
     ·rw [A8 (by simp;omega)] at h';cases h'
    ·by_cases hlt:id' <st.H.length
     ·rw [s7 (by simp;omega),List.getElem?_map,List.getElem?_drop] at h'
      rw [show E.lim.base+(id' - (List.take E.lim.base st.H).length)=id' from by simp;omega] at h';cases ho:st.H[id']? with
      |none=>rw [ho] at h';cases h'
      |some o =>
       rw [ho] at h';cases o<;>simp [y7.kill] at h';rename_i l1;exact ⟨l1,rfl,by rw [<- h'];simp [N5]⟩
     ·rw [A8 (by simp;omega)] at h';cases h'
   ·cases h
  ·cases h
 ·cases h
theorem Tr.C7 {E:Env}{f:FuncId}{args:List b6}(cz:∀ id,N id->id<st.H.length)(h:C7 E k f args st=some st'):Tr N k st st' :=by
 unfold y3.C7 at h;split at h
 ·split at h
  ·split at h
   ·cases h
    refine Tr.trans ?_ (Tr.put _);refine Tr.heap (fun p hp=>by simp only [List.any_cons,hp,Bool.or_true]) fun id hN ht=> ?_
    have:=cz id hN;simp [Touch.K4] at ht;omega
   ·cases h
  ·cases h
 ·simp only at h
  generalize I4 st.H E.lim.strict 8 (A4 args)=n at h;generalize (args.headD .any).N4=m at h;split at h
  ·rename_i dw
   split at h
   ·split at h
    ·split at h
     ·rename_i hlen
      cases h;refine Tr.trans ?_ (Tr.put _);refine Tr.heap (fun p hp=>by simp only [List.any_cons,hp,Bool.or_true]) fun id hN ht=> ?_
      have:=cz id hN;simp [Touch.K4] at ht;rw [s7 (by omega),List.getElem?_drop,hlen]
      congr 1;omega
     ·cases h
    ·cases h
   ·split at h
    ·split at h
     ·cases h
      exact Tr.put _
     ·cases h
    ·cases h
   ·split at h
    ·split at h
     ·rename_i hlen
      cases h;refine Tr.trans ?_ (Tr.put _);refine Tr.heap (fun p hp=>by simp only [List.any_cons,hp,Bool.or_true]) fun id hN ht=> ?_
      have:=cz id hN;simp [Touch.K4] at ht;rw [s7 (by simp;omega),List.getElem?_drop]
      congr 1;simp;omega
     ·cases h
    ·cases h
  ·cases h
theorem rY {H H' :o6}{id off:Nat}{vs:List b6}(h:wr H id off vs=some H'){id' :Nat}(hne:id' ≠id):H'[id']? =H[id']? :=by
 unfold wr at h;split at h
 ·split at h
  ·cases h
   rw [A1 (fun e=>hne e.symm)]
  ·cases h
 ·cases h
theorem Tr.Q0 {E:Env}{n:Nat}{a:b6}{x:q7}(h:Q0 E k n st a x=some st'):Tr N k st st' :=by
 unfold y3.Q0 at h;split at h
 ·split at h
  ·split at h
   ·split at h
    ·rename_i H' hw
     cases h;refine Tr.trans (Tr.trans (Tr.D7 x) ?_) (Tr.put _);refine Tr.heap (fun p hp=>by simp only [List.any_cons,hp,Bool.or_true]) fun id' hN ht=> ?_
     refine rY hw ?_;rintro rfl;simp [Touch.K4] at ht
    ·cases h
   ·cases h
  ·cases h
 ·cases h
theorem Tr.X0 {E:Env}{sz:Nat}{zero:List b6}{a:b6}(h:X0 E k sz zero st a=some st'):Tr N k st st' :=by
 unfold y3.X0 at h;split at h
 ·split at h
  ·split at h
   ·rename_i H' hw
    cases h;refine Tr.trans ?_ (Tr.put _);refine Tr.heap (fun p hp=>by simp only [List.any_cons,hp,Bool.or_true]) fun id' hN ht=> ?_
    refine rY hw ?_;rintro rfl;simp [Touch.K4] at ht
   ·cases h
  ·cases h
 ·cases h
  exact Tr.put _
 ·cases h
theorem Tr.T5 {E:Env}{kk:KK}{m key v:b6}(h:T5 E k kk st m key v=some st'):Tr N k st st' :=by
 unfold y3.T5 at h;split at h
 ·split at h
  ·split at h
   ·split at h
    ·split at h
     ·cases h
      refine Tr.trans ?_ (Tr.put _);refine Tr.heap (fun p hp=>by simp only [List.any_cons,hp,Bool.or_true]) fun id' hN ht=> ?_
      rw [A1];rintro rfl;simp [Touch.K4] at ht
     ·cases h
    ·cases h
   ·cases h
  ·cases h
 ·cases h
theorem Tr.L0 {E:Env}{j4:List n8}{u5:Option Nat}{sz bytes:Nat}{ob:Bool}{x:q7}{y:b6}(hi:∀ i,u5=some i->i<st.H.length)(hn:¬ N (newId st u5))
  (h:L0 E j4 u5 k sz bytes ob st x y=some st'):Tr N k st st' :=by
 unfold y3.L0 at h;split at h
 ·split at h
  ·split at h
   ·split at h
    ·cases h;exact Tr.put _
    ·cases h;exact (Tr.newObj hi hn _).trans (Tr.put _)
   ·cases h
  ·split at h
   ·split at h
    ·rename_i ht
     split at h
     ·cases h;exact (Tr.Q1 ht).trans (Tr.put _)
     ·cases h
    ·cases h
   ·cases h
 ·cases h
theorem Tr.E6 {E:Env}{j4:List n8}{u5:Option Nat}{op:q9}(cz:∀ id,N id->id<st.H.length)(hi:∀ i,u5=some i->i<st.H.length)(hn:op.z8=true->¬ N (newId st u5))
  (h:E6 E j4 u5 k st op=some st'):Tr N k st st' :=by
 cases op<;>simp only [y3.E6] at h<;>try (cases h;done)
 case alloc zero=>cases h;exact (Tr.newObj hi (hn rfl) _).trans (Tr.put _)
 case box x =>
  split at h
  ·cases h;exact (Tr.newObj hi (hn rfl) _).trans (Tr.put _)
  ·cases h
 case makeMap=>cases h;exact (Tr.newObj hi (hn rfl) _).trans (Tr.put _)
 case p8 sz len zero parts ob =>
  cases ob
  ·cases h
  ·simp only at h
   split at h
   ·split at h
    ·cases h;exact (Tr.newObj hi (hn rfl) _).trans (Tr.put _)
    ·cases h
   ·cases h
 case store n a x=>exact Tr.Q0 h
 case append sz bytes ob x y =>
  split at h
  ·split at h
   ·exact Tr.S2 h
   ·cases h
  ·cases ob with
   |true=>exact Tr.L0 hi (hn rfl) h
   |false =>
    unfold y3.L0 at h;simp only [b7,if_false] at h;split at h
    ·split at h
     ·split at h
      ·rename_i ht
       split at h
       ·cases h;exact (Tr.Q1 ht).trans (Tr.put _)
       ·cases h
      ·cases h
     ·cases h
    ·cases h
 case clear sz zero x=>exact Tr.X0 h
 case call f xs=>exact Tr.C7 cz h
 case aO x xs =>
  split at h
  ·exact Tr.C7 cz h
  ·cases h
 case dD=>exact Tr.T5 h
 case defer x =>
  split at h
  ·split at h
   ·cases h;exact Tr.put _
   ·cases h
  ·cases h
theorem Tr.D6 {E:Env}{j4:List n8}{u5:Option Nat}{op:q9}{rs:List Nat}(cz:∀ id,N id->id<st.H.length)(hi:∀ i,u5=some i->i<st.H.length)(hn:op.z8=true->¬ N (newId st u5))
  (h:D6 E j4 u5 k op st=some (st',rs)):Tr N k st st' :=by
 unfold y3.D6 at h;split at h
 ·split at h
  ·rename_i he
   cases h;exact Tr.E6 cz hi hn he
  ·cases h
 ·split at h
  ·cases h
   exact (Tr.D7 _).trans (Tr.put _)
  ·split at h
   ·cases h
    exact Tr.put _
   ·cases h
end
structure vF (u5:Option Nat)(X:Cx)(l:G9)(S:Nat->Prop)(entry:Nat)(st:E5)(a:Act)(w:World)(G:Gh)(I:T0)(N:Nat->Prop)
  (st' :E5) (k:Nat) (x' :Value) (w' :World) (G' :Gh) (I' :T0) (N' :Nat->Prop):Prop where
 mid:cK X l S entry st a w G I N st' k x' w' G' I' N'
 cE:∀ id,N' id->id<st'.H.length
 old:∀ id,id<st.H.length->N' id->N id\/u5=some id
def dV (P:Program)(o:Oper)(a:Act)(w:World)(R:Act->World->Prop):Prop :=
 ∀ (K:Act->World->Prop) (Q:Exit->Act->World->Prop),(∀ a' w',R a' w' ->K a' w')->o.wp P a w K Q
section
variable {P:Program} {o:Oper} {a:Act} {w w' :World} {R:Act->World->Prop}
theorem dV.value {x:Value}(h:(execOp a.eval o).run P w= .ok (.value x) w')(hR:R (a.put o.dst x) w'):dV P o a w R:=by
 intro K Q hK;simp_all [Oper.wp,Oper.upon]
theorem dV.skip (h:(execOp a.eval o).run P w= .ok .skip w')(hR:R (a.put o.dst undef) w'):dV P o a w R:=by
 intro K Q hK;simp_all [Oper.wp,Oper.upon]
theorem dV.defer {d:Deferred}(h:(execOp a.eval o).run P w= .ok (.defer d) w')(hR:R ({ a with defers:=d::a.defers }.put o.dst undef) w'):dV P o a w R:=by
 intro K Q hK;simp_all [Oper.wp,Oper.upon]
theorem dV.enter {f:FuncId}{args:Array Value}(h:(execOp a.eval o).run P w= .ok (.enter f args) w)(hR:Calls P f args w fun e w' =>∃ x,e= .returned x/\R (a.put o.dst x) w'):dV P o a w R:=by
 intro K Q hK
 grind [Oper.wp,Oper.upon,Calls.mono]
end
def vJ (P:Program)(ck:Operand->q7->Bool)(o:Oper)(op:q9):Bool :=
 match o.op,op with
 | .call ⟨.value (.func f),args,_⟩,.call g ys=>f==g&&Oo ck args.toList ys&&U2 P f
 | .call ⟨.value x,args,_⟩,.aO y ys=>ck x y&&Oo ck args.toList ys
 |_,_=>false
def Ei (ck:Operand->q7->Bool)(o:Oper)(op:q9):Bool :=
 match o.op,op with
 | .defer ⟨.value x,args,_⟩,.defer y=>ck x y&&args.isEmpty
 |_,_=>false
def Om (ck:Operand->q7->Bool)(o:Oper)(y:q7):Bool :=
 match o.op with
 | .move x=>ck x y
 | .assign x=>ck x y
 |_=>false
def aM (P:Program)(ck:Operand->q7->Bool)(o:Oper)(op:q9):Bool :=
 match op with
 | .O3 y=>Om ck o y
 | .alloc _=>de P ck o op
 | .box _=>de P ck o op
 | .makeMap=>de P ck o op
 | .p8 .. =>de P ck o op
 | .store .. =>wU P ck o op
 | .append _ _ _ _ _=>gp P ck o op
 | .dD .. =>HQ P ck o op
 | .call .. =>vJ P ck o op
 | .aO .. =>vJ P ck o op
 | .defer _=>Ei ck o op
 | .clear .. =>wS P ck o op
 | .bad=>true
 |op=>A7 P ck o op
section
variable {P:Program} {X:Cx} {l:G9} {S:Nat->Prop} {st st' :E5} {a:Act} {w w' :World} {G G' :Gh} {I I' :T0} {N N' :Nat->Prop} {D:Nat->Bool} {j4:List n8}
theorem vF.jP {u5:Option Nat}{entry k:Nat}{x:Value}(cz:∀ id,N id->id<st.H.length)(h:cK X l S entry st a w G I N st' k x w' G' I' N):vF u5 X l S entry st a w G I N st' k x w' G' I' N :=
 ⟨h,fun id hid=>Nat.lt_of_lt_of_le (cz id hid) h.len,fun _ _ h=>Or.inl h⟩
theorem vF.PB {entry k:Nat}{x:Value}{u5:Option Nat}(cz:∀ id,N id->id<st.H.length){o:y7}{v:b6}(hi:∀ i,u5=some i->i<st.H.length)
  (h:cK X l S entry st a w G I N (put (J7 st u5 o) k v) k x w' G' I' N') (hN:∀ i,N' i↔N i\/i=newId st u5) :
  vF u5 X l S entry st a w G I N (put (J7 st u5 o) k v) k x w' G' I' N' :=by
 refine ⟨h,fun id hid=> ?_,fun id hlt hid=> ?_⟩
 all_goals (simp_all [put,J7,newId]<;>grind)
theorem wC {l1 l2:List b6}{v1 v2:List Value}:∀ (_:I7 G I N w l1 v1) (_:I7 G I N w l2 v2),I7 G I N w (l1++l2) (v1++v2):=by
 induction l1 generalizing v1 with
 |nil=>simp_all [I7]
 |cons b bs ih =>
  grind [I7]
structure jt (X:Cx)(st:E5)(a:Act)(w:World)(I:T0)(op:q9)(x:Value):Prop where
 O3:∀ s t,op= .O3 (.slot s)->X.names[s]? =some t->x=a.tmps.getD t undef
 load:∀ y id off,op= .load none y->Z8 st y=some (id,off)->w.cell? (ad (I id).1 ((I id).2+off))=some x
theorem jt.other {X:Cx}{st:E5}{a:Act}{w:World}{I:T0}{op:q9}{x:Value}(h1:∀ y,op≠ .O3 y)(h2:∀ n y,op≠ .load n y):jt X st a w I op x :=
 ⟨fun _ _ h=>absurd h (h1 _),fun _ _ _ h=>absurd h (h2 _ _)⟩
theorem TY {st:E5}{y:q7}{id off:Nat}(h:Z8 st y=some (id,off)):F5 st.T st.L y= .ptr id off:=by
 unfold Z8 at h
 grind [F5,List.getD,b6.G4]
theorem MY {ck:Operand->q7->Bool}{η:Operand->Value}{ρ:q7->b6}{H:o6}(hρ:aL ck G I N w η ρ)(hH:HR G I N w H){o:Oper}{y:q7}(hc:A7 P ck o (.load none y)=true){v:b6}{rs:List Nat}
  (h:m6 ρ H (.load none y)=some (v,rs)) {id off:Nat} (hp:ρ y= .ptr id off) {x:Value} (hx:(execOp η o).run P w= .ok (.value x) w):w.cell? (ad (I id).1 ((I id).2+off))=some x:=by
 obtain ⟨dst,ct,ty,pos,after,guard⟩:=o;cases ct<;>simp [A7] at hc;rename_i t x';have h1:=hρ _ _ hc.1;have ha:eB P t=some false:=by simp_all [pX]
 simp [m6,hp] at h;rw [hp] at h1;simp [VR] at h1;split at h
 ·rename_i u hu
  obtain ⟨_,xs,g1,_,g3,g4⟩:=hH.rd hu (by omega);obtain ⟨z,rfl⟩:∃ z,xs=[z]:=by
   match xs,g1 with
   |[z],_=>simp_all
  have hz:=g3 0 z rfl;simp_all [execOp,Instr.loadAt,Instr.sureAddr,loadVar,cS]
 ·cases h
def DN (P:Program)(idle:FuncId->Bool)(u5:Option Nat)(X:Cx)(l:G9)(S:Nat->Prop)(entry:Nat)(st:E5)(a:Act)(w:World)(G:Gh)(I:T0)(N:Nat->Prop)(st' :E5)(k:Nat)(o:Oper)(op:q9)(a' :Act)(w' :World):Prop :=
 ∃ x ds G' I' N',jt X st a w I op x/\a' =({ a with defers:=ds }:Act).put o.dst x/\(ds=a.defers\/∃ d,ds=d::a.defers/\DT P idle d)/\vF u5 X l S entry st a w G I N st' k x w' G' I' N'
theorem FO {E:Env}(JJ:lV P E.cf E.prom)(iG:∀ f args H lm r,E.cf f args H lm=some r->U2 P f=true)(hE:E.lim=l)(h:RI X l S st a w G I N)(hpv:PV X j4 S st a w I)(hT:st.T.length=X.names.length)
  (cz:∀ id,N id->id<st.H.length) (hb:l.base<=st.H.length) (hs:l.strict<=l.base) (hD:∀ j,D j=true->S j) {k:Nat} (hk:¬ S k) (aV:k<st.L.length) {o:Oper} {op:q9} (hc:aM P (X.ck D) o op=true)
  {u5:Option Nat} (hid:op.z8=true->DS l st N u5) {rs:List Nat} (he:D6 E j4 u5 k op st=some (st',rs)) :
  dV P o a w (DN P E.idle u5 X l S E.entry st a w G I N st' k o op):=by
 have hρ:=h.R8 hD;have fin:∀ {x:Value} {w' :World} {G' :Gh} {I' :T0} {N' :Nat->Prop},jt X st a w I op x->vF u5 X l S E.entry st a w G I N st' k x w' G' I' N' ->DN P E.idle u5 X l S E.entry st a w G I N st' k o op (a.put o.dst x) w' :=
  fun {x w' G' I' N'} hF hS=>⟨x,a.defers,G',I',N',hF,rfl,Or.inl rfl,hS⟩
 have an7:∀ {v:b6} {rs:List Nat},(∀ y,op≠ .O3 y)->A7 P (X.ck D) o op=true->m6 (F5 st.T st.L) st.H op=some (v,rs)->st' =put st k v->dV P o a w (DN P E.idle u5 X l S E.entry st a w G I N st' k o op):=by
  intro v rs hm h1 h2 h3;subst h3;obtain ⟨x,g1,g2⟩:=IG (P:=P) (fun v=>by rfl) hρ h.H h1 h2;refine dV.value g1 (fin ⟨fun s t e=>absurd e (hm _),fun y id off e hp=> ?_⟩ (vF.jP cz (cK.same h hk aV E.entry g2.place)));subst e;exact MY hρ h.H h1 h2 (TY hp) g1
 have Ee:(∀ y,op≠ .O3 y)->(∀ n y,op≠ .load n y)->∀ (f:FuncId) (args:List b6) (O6:Array Value),I7 G I N w args O6.toList->C7 E k f args st=some st' ->(execOp a.eval o).run P w=(callFunc f O6).run P w->dV P o a w (DN P E.idle u5 X l S E.entry st a w G I N st' k o op):=by
  intro hm hl f args O6 h1 h2 h3;have hcan:U2 P f=true:=by
   unfold C7 at h2;split at h2
   ·grind
   grind
  refine dV.enter (f:=f) (args:=O6) (by simp_all [rL]) ?_;refine Calls.mono (MA JJ hE h cz hb hs hk aV E.entry h1 h2) ?_;rintro e w' ⟨x,G',I',N',rfl,hC⟩;exact ⟨x,rfl,fin (jt.other hm hl) ⟨hC.mid,hC.cE,fun id hlt hid=>Or.inl (hC.old id hlt hid)⟩⟩
 unfold D6 at he;cases op
 case O3 y =>
  simp only [q9.E2,b7,if_false] at he;cases he;simp only [aM] at hc;have key:∀ x,X.ck D x y=true->(execOp a.eval o).run P w= .ok (.value (a.eval x)) w->dV P o a w (DN P E.idle u5 X l S E.entry st a w G I N (put (D7 st y).2 k (D7 st y).1) k o (.O3 y)):=by
   intro x hx hrun;obtain ⟨G1,hX⟩:=h.D7 hD hx (pl:= .loc k) (by simp);have hM:=cK.same hX.ri hk (by grind [zf]) E.entry hX.val;exact dV.value hrun (fin ⟨fun s t e hn=>by simp_all [Cx.ck,Act.eval]<;>grind,fun _ _ _ e=>by cases e⟩ (vF.jP cz (cK.pre hX.ext hX.keeps hX.obj (ze st y) hM)))
  obtain ⟨dst,ct,ty,pos,after,guard⟩:=o;cases ct<;>simp only [Om] at hc<;>try (cases hc;done)
  all_goals (simp_all [execOp]<;>grind)
 case alloc zero =>
  simp only [q9.E2,if_true,E6] at he;cases he;have h1:=hid rfl;obtain ⟨x,w',G',I',N',g1,g2,g3⟩:=MZ h hk aV E.entry h1 (by simpa [aM] using hc);exact dV.value g1 (fin (jt.other (by simp) (by simp)) (vF.PB cz h1.inside g2 g3))
 case box y =>
  simp only [q9.E2,if_true,E6] at he;split at he
  ·rename_i hcs
   split at hcs
   ·rename_i cs vk
    cases hcs;cases he;have h1:=hid rfl;obtain ⟨x,w',G',I',N',g1,g2,g3⟩:=TB h hρ hk aV E.entry h1 (by simpa [aM] using hc) vk;exact dV.value g1 (fin (jt.other (by simp) (by simp)) (vF.PB cz h1.inside g2 g3))
   ·cases hcs
  ·cases he
 case makeMap =>
  simp only [q9.E2,if_true,E6] at he;cases he;have h1:=hid rfl;obtain ⟨x,w',G',I',N',g1,g2,g3⟩:=TC (P:=P) h hk aV E.entry h1 (by simpa [aM] using hc);exact dV.value g1 (fin (jt.other (by simp) (by simp)) (vF.PB cz h1.inside g2 g3))
 case p8 sz len zero parts ob =>
  cases ob with
  |false =>
   simp only [q9.E2,b7,if_false] at he;split at he
   ·rename_i v rs' hp
    cases he;obtain ⟨x,w',G',g1,g2⟩:=Na h hρ hk aV E.entry (by simpa [aM] using hc) hp;exact dV.value g1 (fin (jt.other (by simp) (by simp)) (vF.jP cz g2))
   ·cases he
  |true =>
   simp only [q9.E2,if_true,E6] at he;split at he
   ·rename_i hcs
    split at hcs
    ·rename_i cs vk
     split at hcs
     ·rename_i hl
      cases hcs;cases he;have h1:=hid rfl;obtain ⟨x,w',G',I',N',g1,g2,g3⟩:=CQ h hρ hk aV E.entry h1 (by simpa [aM] using hc) vk hl.2;exact dV.value g1 (fin (jt.other (by simp) (by simp)) (vF.PB cz h1.inside g2 g3))
     ·cases hcs
    ·cases hcs
   ·cases he
 case store n x y =>
  simp only [q9.E2,if_true,E6] at he;split at he
  ·rename_i hst
   cases he;obtain ⟨w',G',g1,g2⟩:=MC h hD hk aV E.entry (by simpa [aM] using hc) hE hst;exact dV.skip g1 (fin (jt.other (by simp) (by simp)) (vF.jP cz g2))
  ·cases he
 case append sz bytes ob x y =>
  simp only [aM] at hc;simp only [q9.E2,if_true,E6] at he;split at he
  ·rename_i hst
   cases he;split at hst
   ·rename_i id z lo len hx
    split at hst
    ·rename_i hz
     subst hz;obtain ⟨v,w',G',I',g1,g2⟩:=Aa h hD hk aV hc hE hx hst;exact dV.value g1 (fin (jt.other (by simp) (by simp)) (vF.jP cz g2))
    ·cases hst
   ·cases ob with
    |false =>
     obtain ⟨v,w',G',g1,g2⟩:=HV h hpv hT hD hk aV E.entry hc hE hst;exact dV.value g1 (fin (jt.other (by simp) (by simp)) (vF.jP cz g2))
    |true =>
     have h1:=hid rfl
     rcases zZ h hpv hT hD hk aV E.entry h1 hc hE hst with ⟨v,w',G',g1,g2⟩|⟨v,w',G',I',N',ob,av,g1,rfl,g2,g3⟩
     ·exact dV.value g1 (fin (jt.other (by simp) (by simp)) (vF.jP cz g2))
     ·exact dV.value g1 (fin (jt.other (by simp) (by simp)) (vF.PB cz h1.inside g2 g3))
  ·cases he
 case dD kk m ky v =>
  simp only [q9.E2,if_true,E6] at he;split at he
  ·rename_i hst
   cases he;obtain ⟨w',g1,g2⟩:=HW h hD hk aV E.entry (by simpa [aM] using hc) hE hst;exact dV.skip g1 (fin (jt.other (by simp) (by simp)) (vF.jP cz g2))
  ·cases he
 case call f ys =>
  simp only [q9.E2,if_true,E6] at he;split at he
  ·rename_i hst
   cases he;simp only [aM,vJ] at hc;split at hc
   ·rename_i f' args _ g ys' hop heq
    cases heq;simp only [b5,beq_iff_eq] at hc;obtain ⟨⟨rfl,hcs⟩,hcan⟩:=hc;refine Ee (by simp) (by simp) f' (ys.map (F5 st.T st.L)) (args.map a.eval) (by simpa using gq hρ _ _ hcs) hst ?_;simp [execOp,hop,resolve,Act.eval,Deferred.ofValue,invoke]
   all_goals simp_all
  ·cases he
 case aO y ys =>
  simp only [q9.E2,if_true,E6] at he;split at he
  ·rename_i hst
   cases he;simp only [aM,vJ] at hc;split at hc
   ·simp_all
   ·rename_i x args _ y' ys' hop heq
    cases heq;simp only [b5] at hc;have hv:=hρ _ _ hc.1;split at hst
    ·rename_i f first caps hy
     rw [hy] at hv;simp only [VR] at hv;obtain ⟨vf,vc,e1,e2,e3⟩:=hv;refine Ee (by simp) (by simp) f (first++ys.map (F5 st.T st.L)++caps) (vf++args.map a.eval++vc) ?_ hst ?_
     all_goals grind [Array.toList_append,Array.toList_map,wC,gq,execOp,resolve,Deferred.ofValue,invoke]
    ·cases hst
   ·cases hc
  ·cases he
 case defer y =>
  simp only [q9.E2,if_true,E6] at he;split at he
  ·rename_i hst
   cases he;simp only [aM,Ei] at hc;split at hc
   ·rename_i x args _ y' hop heq
    cases heq;simp only [b5] at hc;have hv:=hρ _ _ hc.1;split at hst
    ·rename_i f first caps hy
     split at hst
     ·rename_i AK
      cases hst;rw [hy] at hv;simp only [VR] at hv;obtain ⟨vf,vc,e1,e2,e3⟩:=hv;have hrun:(execOp a.eval o).run P w= .ok (.defer { target:= .fn (.func f) vc,args:=vf++args.map a.eval }) w:=by
       simp [execOp,hop,resolve,e1,Deferred.ofValue]
      refine dV.defer hrun ⟨undef,_,G,I,N,jt.other (by simp) (by simp),rfl,Or.inr ⟨_,rfl,f,vc,rfl,AK⟩,vF.jP cz (cK.same h hk aV E.entry (by simp [VR]))⟩
     ·cases hst
    ·cases hst
   ·cases hc
  ·cases he
 case clear sz zero y =>
  simp only [q9.E2,if_true,E6] at he;split at he
  ·rename_i hst
   cases he;obtain ⟨w',g1,g2⟩:=MB h hD hk aV E.entry (by simpa [aM] using hc) hE hst;exact dV.value g1 (fin (jt.other (by simp) (by simp)) (vF.jP cz g2))
  ·cases he
 case bad=>simp [q9.E2,m6] at he
 all_goals
  grind [q9.E2,aM]
end
def mb (names:List Tmp):Option Tmp->Option Nat->Bool
 |none,none=>true
 |some d,none=> !names.contains d
 |some d,some s=>names[s]? ==some d
 |none,some _=>false
def mc (X:Cx)(D:Nat->Bool):Option (Nat×Bool)->Option (Nat×Bool)->Bool
 |none,none=>true
 |some (g,b),some (g',b')=>g==g' &&b==b' &&D g&&(match (X.ops[g]?).bind (·.dst) with
  |some d=> !X.names.contains d
  |none=>false)
 |_,_=>false
def pE (X:Cx)(D:Nat->Bool)(o:Oper)(i:n8):Bool :=
 aM X.P (X.ck D) o i.op&&mb X.names o.dst i.dst&&mc X D o.guard i.guard
structure Stat (X:Cx)(nt:Nat):Prop where
 dup:∀ (i j:Nat) d,(X.ops[i]?).bind (·.dst)=some d->(X.ops[j]?).bind (·.dst)=some d->X.names.contains d=false->i=j
 lt:∀ (i:Nat) d,(X.ops[i]?).bind (·.dst)=some d->d<nt
 nod:∀ (s s' :Nat) t,X.names[s]? =some t->X.names[s']? =some t->s=s'
def tY (X:Cx)(S:Nat->Prop):q7->Prop
 | .loc m=>S m/\∃ t,(X.ops[m]?).bind (·.dst)=some t/\X.names.contains t=false
 | .slot s=>∃ t,X.names[s]? =some t
 | .const _=>True
structure Rg (X:Cx)(j4:List n8)(E:Env)(nt:Nat)(S:Nat->Prop)(st:E5)(a:Act)(w:World)(G:Gh)(I:T0)(N:Nat->Prop):Prop where
 ri:RI X E.lim S st a w G I N
 pv:PV X j4 S st a w I
 cl:∀ (j:Nat) ai y,S j->j4[j]? =some ai->ai.op=q9.load none y->tY X S y
 U9:st.T.length=X.names.length
 gN:st.L.length=j4.length
 cE:∀ id,N id->id<st.H.length
 Eo:E.entry<=st.H.length
 size:a.tmps.size=nt
 idle:∀ d,d ∈ a.defers->DT X.P E.idle d
structure W6 (E:Env)(H0:o6)(w0:World)(G0:Gh)(I0:T0)(N0:Nat->Prop)(H:o6)(w:World)(G:Gh)(I:T0)(N:Nat->Prop):Prop where
 ext:Ext G0 w0 G w
 eE:jw E.lim G0 w0 G w
 inj:∀ id,id<E.entry->N0 id->I id=I0 id
 mono:∀ id,id<E.entry->N0 id->N id
 old:∀ id,id<E.entry->N id->N0 id
 hle:∀ (id:Nat) (o' :y7),id<E.lim.base->H[id]? =some o' ->o'.N4<=id+1\/∃ o:y7,H0[id]? =some o/\o'.N4<=o.N4
theorem W6.refl (E:Env)(H:o6)(w:World)(G:Gh)(I:T0)(N:Nat->Prop):W6 E H w G I N H w G I N :=
 ⟨Ext.refl _ _,jw.refl _ _ _,fun _ _ _=>rfl,fun _ _ h=>h,fun _ _ h=>h,fun _ o _ h=>Or.inr ⟨o,h,n5 _⟩⟩
theorem W6.trans {E:Env}{H0 H1 H2:o6}{w0 w1 w2:World}{G0 G1 G2:Gh}{I0 I1 I2:T0}{N0 N1 N2:Nat->Prop}
  (h:W6 E H0 w0 G0 I0 N0 H1 w1 G1 I1 N1) (k:W6 E H1 w1 G1 I1 N1 H2 w2 G2 I2 N2):W6 E H0 w0 G0 I0 N0 H2 w2 G2 I2 N2 where
 ext:=h.ext.trans k.ext
 eE:=h.eE.trans k.eE
 inj id hid hN:=(k.inj id hid (h.mono id hid hN)).trans (h.inj id hid hN)
 mono id hid hN:=k.mono id hid (h.mono id hid hN)
 old id hid hN:=h.old id hid (k.old id hid hN)
 hle id o' hb ho:=by
  rcases k.hle id o' hb ho with h1|⟨o1,h1,h2⟩
  ·omega
  ·rcases h.hle id o1 hb h1 with h3|⟨o,h3,h4⟩
   all_goals grind
section
variable {X:Cx} {j4:List n8} {E:Env} {nt:Nat} {S:Nat->Prop} {st S4 aB:E5} {a:Act} {w w' :World} {G G' :Gh} {I I' :T0} {N N' :Nat->Prop} {D:Nat->Bool}
theorem Rg.aP4 (h:Rg X j4 E nt S st a w G I N){y:q7}(hy:tY X S y){id off:Nat}(hp:Z8 st y=some (id,off)):N id:=by
 unfold Z8 at hp;split at hp
 ·rename_i m
  split at hp
  ·obtain ⟨h1,t,h2,h3⟩:=hy
   have:=h.ri.L m h1 t h2 h3;simp_all [au,VR]
  ·cases hp
 ·rename_i s
  split at hp
  ·cases hp
  ·split at hp
   ·obtain ⟨t,ht⟩:=hy
    have:=h.ri.T s t ht;simp_all [au,VR]
   ·cases hp
 ·cases hp
theorem R6 {u5:Option Nat}{k:Nat}{dst:Option Nat}(h:q8 u5 S4 k dst=some aB) :
  (dst=none/\aB=S4)\/∃ s n6,dst=some s/\s<S4.T.length/\aB={ (D7 S4 (.loc k)).2 with T:=S4.T.set s (D7 S4 (.loc k)).1,n6 }/\(n6= .slot s::S4.n6\/(n6=S4.n6/\S4.n6.any (Touch.R9 s)=true)):=by
 unfold q8 at h;split at h
 ·simp_all [F3]<;>grind
 ·cases dst with
  |none=>cases h;simp_all
  |some s =>
   grind [W5,D7]
theorem yR {u5:Option Nat}{k:Nat}{dst:Option Nat}(h:q8 u5 S4 k dst=some aB)(p:Touch->Bool)(hp:S4.n6.any p=true):aB.n6.any p=true:=by
 rcases R6 h with ⟨_,rfl⟩|⟨s,n6,_,_,rfl,rfl|⟨rfl,_⟩⟩
 all_goals simp_all
theorem yP {u5:Option Nat}{k s:Nat}{dst:Option Nat}(h:q8 u5 S4 k dst=some aB)(hd:dst=some s):aB.n6.any (Touch.R9 s)=true:=by
 grind [R6,Touch.R9]
theorem nr {u5:Option Nat}{k:Nat}{dst:Option Nat}(h:q8 u5 S4 k dst=some aB):aB.H=S4.H:=by
 grind [R6,ze]
theorem FZ {u5:Option Nat}{k:Nat}{dst:Option Nat}(h:q8 u5 S4 k dst=some aB):aB.L.length=S4.L.length:=by
 grind [R6,zf]
theorem Ga {u5:Option Nat}{k:Nat}{dst:Option Nat}(h:q8 u5 S4 k dst=some aB):aB.T.length=S4.T.length:=by
 grind [R6]
theorem qj (st:E5)(k m:Nat)(h:m≠k):(D7 st (.loc k)).2.L[m]? =st.L[m]? :=by
 grind [D7,A1]
theorem FY {u5:Option Nat}{k:Nat}{dst:Option Nat}(h:q8 u5 S4 k dst=some aB){m:Nat}(hm:m≠k):aB.L[m]? =S4.L[m]? :=by
 grind [R6,qj]
theorem Jf {u5:Option Nat}{k:Nat}{dst:Option Nat}(h:q8 u5 S4 k dst=some aB){y:q7}(hy:∀ m,y= .loc m->m≠k){id off:Nat}(hp:Z8 aB y=some (id,off)):Z8 S4 y=some (id,off):=by
 cases y with
 |const v=>exact hp
 |loc m =>
  grind [Z8,FY]
 |slot s' =>
  simp only [Z8] at hp ⊢;split at hp
  ·cases hp
  ·have hn' :aB.n6.any (Touch.R9 s')=false:=by simp_all
   rw [if_neg (by grind [gO,yR])]
   grind [yP,R6,A1]
theorem Tr.ptr {k:Nat}(h:Tr N k st S4){y:q7}(hy:∀ m,y= .loc m->m≠k){id off:Nat}(hp:Z8 S4 y=some (id,off)):Z8 st y=some (id,off):=by
 cases y with
 |const v=>exact hp
 |loc m =>
  simp [Z8] at hp ⊢;split at hp
  ·rename_i hl
   cases hp;rw [h.L m _ _ (hy m rfl) hl]
  ·cases hp
 |slot s =>
  simp only [Z8] at hp ⊢;split at hp
  ·cases hp
  ·rw [if_neg (by rw [gO h.n6 (by simp_all)];simp)]
   split at hp
   ·rename_i hl
    cases hp;rw [h.T s _ _ hl]
   ·cases hp
theorem aJ {d:Tmp}{x:Value}(h:d<a.tmps.size):(a.put (some d) x).tmps.getD d undef=x:=by
 simp [Act.put,h]
theorem W0 {dst:Option Tmp}{t:Tmp}{x:Value}(h:dst≠some t):(a.put dst x).tmps.getD t undef=a.tmps.getD t undef:=by
 simp_all [Act.put]<;>grind
theorem FF {dst:Option Tmp}{x:Value}:(a.put dst x).tmps.size=a.tmps.size:=by
 cases dst<;>simp [Act.put]
theorem kB {dst:Option Tmp}{x:Value}:(a.put dst x).defers=a.defers:=by
 cases dst<;>simp [Act.put]
theorem RI.defers {l:G9}{ds:List Deferred}(h:RI X l S st a w G I N):RI X l S st { a with defers:=ds } w G I N :=
 ⟨h.T,h.L,h.H,h.wf,h.U8⟩
theorem RI.after {l:G9}(hst:Stat X nt)(hsz:a.tmps.size=nt)(hT:S4.T.length=X.names.length){k:Nat}(hk:¬ S k)(aV:k<S4.L.length){o:Oper}(ho:X.ops[k]? =some o){dst:Option Nat}(hd:mb X.names o.dst dst=true)
  (h:RI X l S S4 a w G I N) {x:Value} (hv:VR G I N w (.loc k) (S4.L.getD k .any) x) {u5:Option Nat} (hts:q8 u5 S4 k dst=some aB) :
  ∃ G',Ext G w G' w/\(∀ id off,aR (.cell id off) G w G' w)/\(∀ b id,G b= .obj id->G' b= .obj id)/\RI X l (fun j=>S j\/j=k) aB (a.put o.dst x) w G' I N:=by
 have JK:(X.ops[k]?).bind (·.dst)=o.dst:=by rw [ho];rfl
 rcases R6 hts with ⟨rfl,rfl⟩|⟨s,ec,rfl,hs,rfl,_⟩
 ·have Hw:∀ d,o.dst=some d->X.names.contains d=false:=by
   grind [mb]
  refine ⟨G,Ext.refl _ _,fun _ _ _ _ h=>⟨h,rfl⟩,fun _ _ h=>h,?_,?_,h.H,h.wf,h.U8⟩
  ·intro s t ht
   rw [W0 ?_]
   ·exact h.T s t ht
   grind
  ·intro j hj d CF hjn
   rcases hj with hj|rfl
   ·rw [W0 ?_]
    ·exact h.L j hj d CF hjn
    ·intro e
     have:=hst.dup j k d CF (by simp_all) hjn;simp_all
   ·rw [JK] at CF
    rw [CF,aJ (by rw [hsz];exact hst.lt j d (by simp_all))];exact hv
 ··cases hod:o.dst with
   |none=>simp_all [mb]
   |some d =>
    have cz:X.names[s]? =some d:=by simp_all [mb]
    have hdn:X.names.contains d=true:=by
     grind
    have bo8:d<a.tmps.size:=by rw [hsz];exact hst.lt k d (by simp_all)
    have main:∀ (v:b6) (YT:E5) (G' :Gh),jv (.loc k) G w G' ->VR G' I N w (.slot s) v x->YT.H=S4.H->(∀ m,m≠k->YT.L[m]? =S4.L[m]?)->YT.T=S4.T.set s v ->
      RI X l (fun j=>S j\/j=k) YT (a.put (some d) x) w G' I N:=by
     intro v YT G' hm hv' hH hL hT3;refine ⟨?_,?_,?_,hm.wf h.wf,?_⟩
     ·intro s' t ht
      rw [hT3]
      by_cases he:s' =s
      ·grind [M6,aJ]
      ·rw [O1 _ _ _ _ _ (fun e=>he e.symm),W0 (fun e=>he (hst.nod s' s t ht (by simp_all)))]
       exact VR.mono hm.ext (fun _ _=>rfl) (fun _ h=>h) _ _ _ (Or.inr (hm.keeps _ (by simp))) (h.T s' t ht)
     ·intro j hj d' CF hjn
      have hjk:S j:=by
       grind
      have hne:j≠k:=by grind
      have e1:YT.L.getD j .any=S4.L.getD j .any:=by simp_all
      rw [e1,W0 (fun e=>by simp_all)];exact VR.mono hm.ext (fun _ _=>rfl) (fun _ h=>h) _ _ _ (Or.inr (hm.keeps _ (by simp_all))) (h.L j hjk d' CF hjn)
     ·rw [hH];exact h.H.EU hm (by simp)
     ·rw [hH];exact h.U8
    by_cases hown:∃ z n c,S4.L[k]? =some (.own z n c)
    ·obtain ⟨z,n,c,ag5⟩:=hown
     rw [au ag5] at hv;obtain ⟨G',hm,hv'⟩:=gP (vv := .slot s) (by simp) hv;refine ⟨G',hm.ext,fun id off=>hm.keeps _ (by simp),hm.obj,?_⟩
     grind [y3.D7,ze,qj]
    ·have e1:y3.D7 S4 (.loc k)=(F5 S4.T S4.L (.loc k),S4):=by
      simp_all [y3.D7,absurd]
     refine ⟨G,Ext.refl _ _,fun _ _ _ _ h=>⟨h,rfl⟩,fun _ _ h=>h,?_⟩;refine main (F5 S4.T S4.L (.loc k)) _ G (jv.refl _ _ _) ?_ (ze _ _) (fun m hm=>qj S4 k m hm) (by simp_all);exact hv.G4
theorem PV.after (hst:Stat X nt)(hR:Rg X j4 E nt S st a w G I N){k:Nat}(hk:¬ S k){o:Oper}(ho:X.ops[k]? =some o){i:n8}(hi:j4[k]? =some i)(hd:mb X.names o.dst i.dst=true)
  (hcl:∀ y,i.op= .load none y->tY X S y) (htr:Tr N k st S4) {u5:Option Nat} (hts:q8 u5 S4 k i.dst=some aB) {x:Value} {ds:List Deferred}
  (hko:∀ id,N id->S4.n6.any (Touch.K4 id)=false->I' id=I id/\∀ b,G b= .obj id->w'.heap[b]? =w.heap[b]?)
  (hf:aB.L[k]? =some (.tuple [])\/jt X st a w I i.op x):PV X j4 (fun j=>S j\/j=k) aB ({ a with defers:=ds }.put o.dst x) w' I' :=by
 have JK:(X.ops[k]?).bind (·.dst)=o.dst:=by rw [ho];rfl
 have SE:∀ j,j≠k->aB.L[j]? ≠some (.tuple [])->st.L[j]? ≠some (.tuple []):=by
  intro j hj h1 h2;rw [FY hts hj] at h1;exact h1 (htr.SE j hj h2)
 have XG:∀ p,aB.n6.any p=false->st.n6.any p=false/\S4.n6.any p=false:=by
  intro p hp;have h1:=gO (yR hts) hp;exact ⟨gO htr.n6 h1,h1⟩
 have QO:∀ (s:Nat) t,X.names[s]? =some t->aB.n6.any (Touch.R9 s)=false->o.dst≠some t:=by
  intro s t ht hh e;rw [e] at hd;cases hdi:i.dst with
  |none =>
   grind [List.mem_of_getElem?,mb]
  |some s' =>
   rw [hdi] at hd hts;have h1:X.names[s']? =some t:=by simp_all [mb]
   have:=hst.nod s s' t ht h1
   grind [yP]
 have JE:∀ (j:Nat) d,S j->(X.ops[j]?).bind (·.dst)=some d->X.names.contains d=false->o.dst≠some d:=by
  intro j d hj CF hjn e;have:=hst.dup j k d CF (by grind) hjn
  grind
 have Eh:∀ y id off l0,tY X S y->Z8 aB y=some (id,off)->aB.H[id]? =some (.cells l0)->off<l0.length->aB.n6.any (Touch.aP id off)=false ->
   Z8 st y=some (id,off)/\st.n6.any (Touch.aP id off)=false/\(∃ l,st.H[id]? =some (.cells l)/\off<l.length)/\w'.cell? (ad (I' id).1 ((I' id).2+off))=w.cell? (ad (I id).1 ((I id).2+off)):=by
  intro y id off l0 hy hp hH hoff hh;have hym:∀ m,y= .loc m->m≠k:=by
   rintro m rfl rfl;exact hk hy.1
  have hp1:=Jf hts hym hp;have hp0:=htr.ptr hym hp1;have hN:=hR.aP4 hy hp0;have Zr:S4.n6.any (Touch.K4 id)=false:=by
   cases he:S4.n6.any (Touch.K4 id) with
   |false=>rfl
   |true =>
    rw [List.any_eq_true] at he;obtain ⟨t,ht,hth⟩:=he;have:S4.n6.any (Touch.aP id off)=true:=by
     rw [List.any_eq_true];refine ⟨t,ht,?_⟩;cases t<;>simp only [Touch.K4,Touch.aP] at hth ⊢<;>first|exact hth|cases hth
    grind
  rw [nr hts] at hH;obtain ⟨l,hl,hle⟩:=htr.H id l0 hN Zr hH;have hO:=hR.ri.H id _ hl
  grind [OR,World.cell?]
 refine ⟨?_,?_⟩
 ·intro j ai s t d hj hsk hai hop ht CF hjn hh
  rw [W0 (QO s t ht hh)]
  rcases hj with hj|rfl
  ·rw [W0 (JE j d hj CF hjn)]
   exact hR.pv.slot j ai s t d hj (SE j (by grind) hsk) hai hop ht CF hjn (XG _ hh).1
  ·rw [hi] at hai;cases hai
   rw [JK] at CF;rw [CF,aJ (by simp only;rw [hR.size];exact hst.lt j d (by grind))]
   rcases hf with hf|hf
   ·grind
   ·exact hf.O3 s t hop ht
 ·intro j ai y id off d l0 hj hsk hai hop hp hH hoff hh CF hjn
  rcases hj with hj|rfl
  ·have hy:=hR.cl j ai y hj hai hop
   obtain ⟨h1,h2,⟨l,h3,h4⟩,h5⟩:=Eh y id off l0 hy hp hH hoff hh;rw [W0 (JE j d hj CF hjn),h5];exact hR.pv.cell j ai y id off d l hj (SE j (by grind) hsk) hai hop h1 h3 h4 h2 CF hjn
  ·rw [hi] at hai;cases hai
   have hy:=hcl y hop;obtain ⟨h1,h2,⟨l,h3,h4⟩,h5⟩:=Eh y id off l0 hy hp hH hoff hh;rw [JK] at CF;rw [CF,aJ (by simp only;rw [hR.size];exact hst.lt j d (by grind)),h5]
   rcases hf with hf|hf
   ·grind
   ·exact hf.load y id off hop h1
end
end Go.y3


/-
  Append to a slice of an object; maps written.; Append to a slice of an object, as an effect; maps written; deferred calls.; Maps written; the nil slice appended to where slices are objects.; Append to the nil slice where slices are objects; clear.; Calls: what is hidden from a callee, and what is known behind it.; A call as an effect: what the caller knows behind it.; What a step of a region leaves of the places that pointers come from.; Appends to a slice of an object that give a new object.; One wanted operation of a region, whatever it is.; One operation of a region with its guard and its slot: the region's invariant behind it.
  (Put together by a small program out of several texts; blanks left out to keep the folder small.)
-/
import Derived.Test.YtjnkccpijofgiaaGreatB1
set_option linter.unusedVariables false
set_option linter.unusedSimpArgs false
namespace Go.Abs
mutual
theorem VR.kill {G:Gh}{I:Inj}{N:Nat→Prop}{w:World}(id:Nat):∀ (pl:Place) (a:AVal) (x:Value),VR G I N w pl a x→VR G I (fun i=>N i∧i≠id) w pl (a.kill id) x
 |_,.any,_,_=>by simp [AVal.kill,VR]
 |_,.d _,_,h=>by simpa [AVal.kill,VR] using h
 |_,.ptr i o,x,h=>by
  unfold AVal.kill
  split
  ·simp [VR]
  ·rename_i hne
   simp only [VR] at h ⊢
   exact ⟨⟨h.1,hne⟩,h.2⟩
 |_,.iptr _,_,h=>by simpa [AVal.kill,VR] using h
 |_,.sref i z lo n,x,h=>by
  unfold AVal.kill
  split
  ·simp [VR]
  ·rename_i hne
   simp only [VR] at h ⊢
   exact ⟨⟨h.1,hne⟩,h.2⟩
 |_,.own _ _ _,_,h=>by simpa only [AVal.kill,VR] using h
 |_,.nils,_,h=>by simpa only [AVal.kill,VR] using h
 |_,.agg l,x,h=>by
  simp only [AVal.kill,VR] at h ⊢
  obtain ⟨cs,h1,h2⟩:=h
  exact ⟨cs,h1,VRs.kill id l _ h2⟩
 |_,.tuple l,x,h=>by
  simp only [AVal.kill,VR] at h ⊢
  obtain ⟨cs,h1,h2⟩:=h
  exact ⟨cs,h1,VRs.kill id l _ h2⟩
 |_,.func f a b,x,h=>by
  simp only [AVal.kill,VR] at h ⊢
  obtain ⟨u,v,h1,h2,h3⟩:=h
  exact ⟨u,v,h1,VRs.kill id a _ h2,VRs.kill id b _ h3⟩
 |_,.map i,x,h=>by
  unfold AVal.kill
  split
  ·simp [VR]
  ·rename_i hne
   simp only [VR] at h ⊢
   exact ⟨⟨h.1,hne⟩,h.2⟩
theorem VRs.kill {G:Gh}{I:Inj}{N:Nat→Prop}{w:World}(id:Nat):∀ (l:List AVal) (xs:List Value),VRs G I N w l xs→VRs G I (fun i=>N i∧i≠id) w (killL id l) xs
 |[],_,h=>by simpa [killL,VRs] using h
 |a::as,xs,h=>by
  simp only [killL,VRs] at h ⊢
  obtain ⟨x,xs',h1,h2,h3⟩:=h
  exact ⟨x,xs',h1,VR.kill id _ a x h2,VRs.kill id as xs' h3⟩
end
mutual
theorem VR.low {G:Gh}{I:Inj}{N:Nat→Prop}{w:World}(n:Nat):∀ (pl:Place) (a:AVal) (x:Value),a.bnd≤n→VR G I N w pl a x→VR G I (fun i=>N i∧i<n) w pl a x
 |_,.any,_,_,_=>by simp [VR]
 |_,.d _,_,_,h=>by simpa [VR] using h
 |_,.ptr i o,x,hb,h=>by simp only [AVal.bnd] at hb;simp only [VR] at h ⊢;exact ⟨⟨h.1,by omega⟩,h.2⟩
 |_,.iptr _,_,_,h=>by simpa [VR] using h
 |_,.sref i z lo n',x,hb,h=>by simp only [AVal.bnd] at hb;simp only [VR] at h ⊢;exact ⟨⟨h.1,by omega⟩,h.2⟩
 |_,.own _ _ _,_,_,h=>by simpa only [VR] using h
 |_,.nils,_,_,h=>by simpa only [VR] using h
 |_,.agg l,x,hb,h=>by
  simp only [AVal.bnd] at hb
  simp only [VR] at h ⊢
  obtain ⟨cs,h1,h2⟩:=h
  exact ⟨cs,h1,VRs.low n l _ hb h2⟩
 |_,.tuple l,x,hb,h=>by
  simp only [AVal.bnd] at hb
  simp only [VR] at h ⊢
  obtain ⟨cs,h1,h2⟩:=h
  exact ⟨cs,h1,VRs.low n l _ hb h2⟩
 |_,.func f a b,x,hb,h=>by
  simp only [AVal.bnd] at hb
  simp only [VR] at h ⊢
  obtain ⟨u,v,h1,h2,h3⟩:=h
  exact ⟨u,v,h1,VRs.low n a _ (by omega) h2,VRs.low n b _ (by omega) h3⟩
 |_,.map i,x,hb,h=>by simp only [AVal.bnd] at hb;simp only [VR] at h ⊢;exact ⟨⟨h.1,by omega⟩,h.2⟩
theorem VRs.low {G:Gh}{I:Inj}{N:Nat→Prop}{w:World}(n:Nat):∀ (l:List AVal) (xs:List Value),bndL l≤n→VRs G I N w l xs→VRs G I (fun i=>N i∧i<n) w l xs
 |[],_,_,h=>by simpa [VRs] using h
 |a::as,xs,hb,h=>by
  simp only [bndL] at hb
  simp only [VRs] at h ⊢
  obtain ⟨x,xs',h1,h2,h3⟩:=h
  exact ⟨x,xs',h1,VR.low n _ a x (by omega) h2,VRs.low n as xs' (by omega) h3⟩
end
section
variable {P:Program} {X:Cx} {l:Lim} {S:Nat→Prop} {st:RSt} {a:Act} {w w' :World} {G:Gh} {I:Inj} {N:Nat→Prop} {D:Nat→Bool} {ais:List AIns}
theorem ER.kill (id:Nat):∀ (es:List (Key×AVal)) (xs:List MapEntry),ER G I N w es xs→ER G I (fun i=>N i∧i≠id) w (es.map fun p=>(p.1,p.2.kill id)) xs
 |[],_,h=>by simpa [ER] using h
 |(k,v)::r,xs,h=>by
  simp only [List.map_cons,ER] at h ⊢
  obtain ⟨e,es',h1,h2,h3,h4⟩:=h
  exact ⟨e,es',h1,h2,VR.kill id _ v _ h3,ER.kill id r es' h4⟩
theorem ER.low (n:Nat):∀ (es:List (Key×AVal)) (xs:List MapEntry),bndL (es.map (·.2))≤n→ER G I N w es xs→ER G I (fun i=>N i∧i<n) w es xs
 |[],_,_,h=>by simpa [ER] using h
 |(k,v)::r,xs,hb,h=>by
  simp only [List.map_cons,bndL] at hb
  simp only [ER] at h ⊢
  obtain ⟨e,es',h1,h2,h3,h4⟩:=h
  exact ⟨e,es',h1,h2,VR.low n _ v _ (by omega) h3,ER.low n r es' (by omega) h4⟩
theorem killL_get (id:Nat):∀ (l:List AVal) (i:Nat),(killL id l)[i]? =(l[i]?).map (AVal.kill id)
 |[],i=>by simp [killL]
 |v::vs,0=>by simp [killL]
 |v::vs,i+1=>by simp [killL,killL_get id vs i]
theorem killL_len (id:Nat)(l:List AVal):(killL id l).length=l.length:=by
 induction l with
 |nil=>rfl
 |cons v vs ih=>simp [killL,ih]
theorem getD_kill (id:Nat)(l:List AVal)(i:Nat):(killL id l).getD i .any=(l.getD i .any).kill id:=by
 simp only [List.getD,killL_get]
 cases l[i]? <;>simp [AVal.kill]
mutual
theorem bnd_kill (id:Nat):∀ (a:AVal),(a.kill id).bnd≤a.bnd
 | .any=>by simp [AVal.kill]
 | .d _=>by simp [AVal.kill]
 | .ptr i o=>by unfold AVal.kill;split<;>simp [AVal.bnd]
 | .iptr _=>by simp [AVal.kill]
 | .sref i z lo n=>by unfold AVal.kill;split<;>simp [AVal.bnd]
 | .own _ _ _=>by simp [AVal.kill]
 | .nils=>by simp [AVal.kill]
 | .agg l=>by simp only [AVal.kill,AVal.bnd];exact bndL_kill id l
 | .tuple l=>by simp only [AVal.kill,AVal.bnd];exact bndL_kill id l
 | .func f a b=>by
  simp only [AVal.kill,AVal.bnd]
  have:=bndL_kill id a
  have:=bndL_kill id b
  omega
 | .map i=>by unfold AVal.kill;split<;>simp [AVal.bnd]
theorem bndL_kill (id:Nat):∀ (l:List AVal),bndL (killL id l)≤bndL l
 |[]=>by simp [killL]
 |v::vs=>by
  simp only [killL,bndL]
  have:=bnd_kill id v
  have:=bndL_kill id vs
  omega
end
theorem bndE_kill (id:Nat):∀ (es:List (Key×AVal)),bndL ((es.map fun p=>(p.1,p.2.kill id)).map (·.2))≤bndL (es.map (·.2))
 |[]=>by simp
 |(k,v)::r=>by
  simp only [List.map_cons,bndL]
  have:=bnd_kill id v
  have:=bndE_kill id r
  omega
theorem obnd_kill (id:Nat)(o:AObj):(o.kill id).bnd≤o.bnd:=by
 cases o with
 |dead=>simp [AObj.kill]
 |cells l=>simpa [AObj.kill,AObj.bnd] using bndL_kill id l
 |map es=>simpa only [AObj.kill,AObj.bnd] using bndE_kill id es
theorem OR.kill (id:Nat){id' :Nat}(hne:id' ≠id)(o:AObj)(h:OR G I N w id' o):OR G I (fun i=>N i∧i≠id) w id' (o.kill id):=by
 cases o with
 |dead=>simp [AObj.kill,OR]
 |cells l0 =>
  simp only [AObj.kill,OR] at h ⊢
  obtain ⟨hN,c,e,f,h1,h2,h3,h4,h5⟩:=h
  ·refine ⟨⟨hN,hne⟩,c,e,f,h1,h2,h3,by rw [killL_len];exact h4,fun i x hx=> ?_⟩
   rw [killL_get] at hx
   cases hl:l0[i]? with
   |none=>simp [hl] at hx
   |some y =>
    simp [hl] at hx
    subst hx
    obtain ⟨v,g1,g2⟩:=h5 i y hl
    exact ⟨v,g1,VR.kill id _ y v g2⟩
 |map es =>
  simp only [AObj.kill,OR] at h ⊢
  obtain ⟨hN,arr,clk,h1,h2,h3,h4⟩:=h
  exact ⟨⟨hN,hne⟩,arr,clk,h1,h2,ER.kill id es _ h3,h4⟩
theorem bndL_mem:∀ (l:List AVal) (i:Nat) (x:AVal),l[i]? =some x→x.bnd≤bndL l
 |[],_,_,h=>by simp at h
 |v::vs,0,x,h=>by simp at h;subst h;simp only [bndL];omega
 |v::vs,i+1,x,h=>by have:=bndL_mem vs i x (by simpa using h);simp only [bndL];omega
theorem OR.low {id n:Nat}(hn:id<n)(o:AObj)(hb:o.bnd≤n)(h:OR G I N w id o):OR G I (fun i=>N i∧i<n) w id o:=by
 cases o with
 |dead=>simp [OR]
 |cells l0 =>
  simp only [OR] at h ⊢
  obtain ⟨hN,c,e,f,h1,h2,h3,h4,h5⟩:=h
  ·refine ⟨⟨hN,hn⟩,c,e,f,h1,h2,h3,h4,fun i x hx=> ?_⟩
   obtain ⟨v,g1,g2⟩:=h5 i x hx
   exact ⟨v,g1,VR.low n _ x v (by simp only [AObj.bnd] at hb;exact Nat.le_trans (bndL_mem _ _ _ hx) hb) g2⟩
 |map es =>
  simp only [OR] at h ⊢
  obtain ⟨hN,arr,clk,h1,h2,h3,h4⟩:=h
  exact ⟨⟨hN,hn⟩,arr,clk,h1,h2,ER.low n es _ (by simpa [AObj.bnd] using hb) h3,h4⟩
end
end Go.Abs
namespace Go.Abs
section
variable {P:Program} {X:Cx} {l:Lim} {S:Nat→Prop} {st:RSt} {a:Act} {w w' :World} {G G' :Gh} {I I' :Inj} {N:Nat→Prop} {D:Nat→Bool} {ais:List AIns}
def killedH (H:Heap)(base id:Nat)(o:AObj):Heap:=(H.take base++(H.drop base).map (AObj.kill id)).set id o
theorem killedH_get {H:Heap}{base id:Nat}{o:AObj}(hid:id<H.length){id' :Nat}{o' :AObj}(h:(killedH H base id o)[id']? =some o') :
  (id' =id∧o' =o)∨(id' ≠id∧id' <base∧H[id']? =some o')∨(id' ≠id∧base≤id' ∧∃ o0,H[id']? =some o0∧o' =o0.kill id):=by
 unfold killedH at h
 have hlen:(H.take base++(H.drop base).map (AObj.kill id)).length=H.length:=by simp;omega
 by_cases he:id' =id
 ·subst he
  rw [List.getElem?_set_self (by rw [hlen];exact hid)] at h
  cases h
  exact Or.inl ⟨rfl,rfl⟩
 ·rw [List.getElem?_set_ne (fun e=>he e.symm)] at h
  by_cases hb:id' <base
  ·by_cases hl:id' <H.length
   ·rw [List.getElem?_append_left (by simp;omega),List.getElem?_take_of_lt hb] at h
    exact Or.inr (Or.inl ⟨he,hb,h⟩)
   ·rw [List.getElem?_eq_none (by rw [hlen];omega)] at h;cases h
  ·by_cases hl:base≤H.length
   ·rw [List.getElem?_append_right (by simp;omega)] at h
    simp only [List.length_take,List.getElem?_map,List.getElem?_drop] at h
    rw [show base+(id' - min base H.length)=id' from by omega] at h
    cases h0:H[id']? with
    |none=>simp [h0] at h
    |some o0=>simp [h0] at h;exact Or.inr (Or.inr ⟨he,by omega,o0,rfl,h.symm⟩)
   ·rw [List.getElem?_eq_none (by rw [hlen];omega)] at h;cases h
theorem Mid.killed (h:RI X l S st a w G I N){k:Nat}(hk:¬ S k)(hkl:k<st.L.length){entry id:Nat}{o0:AObj}(h0:st.H[id]? =some o0)(hbase:l.base≤id)(hent:entry≤id)(hmay:l.may id=true)
  (hx:Ext G w G' w') (hkp:∀ q,Keeps q G w G' w') (ho:∀ id',id' ≠id→∀ b,G b= .obj id' →G' b= .obj id' ∧w'.heap[b]? =w.heap[b]?) (hwf:WF G' w') (hI:∀ i,i≠id→I' i=I i)
  {cs:List AVal} (hobj:OR G' I' N w' id (.cells cs)) (hbnd:bndL cs≤max o0.bnd (id+1)) {v:AVal} {x:Value} (hv:VR G' I' N w' (.loc k) v x) (tch:List Touch) (htch:tch.any (Touch.objHit id)=true) :
  Mid X l S entry st a w G I N (put { T:=killL id st.T,H:=killedH st.H l.base id (.cells cs),L:=killL id st.L,tch } k v) k x w' G' I' N:=by
 have hid:=lt_of_getElem? h0
 have hI' :∀ i,(N i∧i≠id)→I' i=I i:=fun i hi=>hI i hi.2
 have hNN:∀ i,(N i∧i≠id)→N i:=fun i hi=>hi.1
 have vr:∀ {pl:Place} {b:AVal} {u:Value},VR G I N w pl b u→VR G' I' N w' pl (b.kill id) u :=
  fun hb=>VR.mono hx hI' hNN _ _ _ (Or.inr (hkp _)) (VR.kill id _ _ _ hb)
 refine ⟨⟨?_,?_,?_,hwf,?_⟩,?_,hx,?_,?_,?_,fun _ h=>h,?_,?_⟩
 ·intro s t ht
  simp only [Abs.put,getD_kill]
  exact vr (h.T s t ht)
 ·intro j hj d hd hn
  have:k≠j:=by rintro rfl;exact hk hj
  simp only [Abs.put]
  rw [getD_set_other _ _ _ _ _ this,getD_kill]
  exact vr (h.L j hj d hd hn)
 ·intro id' o' ho'
  simp only [Abs.put] at ho'
  rcases killedH_get hid ho' with ⟨rfl,rfl⟩|⟨hne,hb,hold⟩|⟨hne,hb,o1,hold,rfl⟩
  ·exact hobj
  ·have hlow:=OR.low (n:=l.base) hb o' ((h.disc id' o' hold).2 hb) (h.H id' o' hold)
   exact OR.mono hx (fun i hi=>hI i (by have:=hi.2;omega)) (fun i hi=>hi.1) id' o' (fun hb' =>ho id' hne _ hb') (fun _=>hkp _) hlow
  ·exact OR.mono hx hI' hNN id' _ (fun hb' =>ho id' hne _ hb') (fun _=>hkp _) (OR.kill id hne o1 (h.H id' o1 hold))
 ·intro id' o' ho'
  simp only [Abs.put] at ho'
  rcases killedH_get hid ho' with ⟨rfl,rfl⟩|⟨hne,hb,hold⟩|⟨hne,hb,o1,hold,rfl⟩
  ·obtain ⟨d1,d2⟩:=h.disc id' o0 h0
   refine ⟨fun hs=> ?_,fun hb=>by omega⟩
   have:=d1 hs
   simp only [AObj.bnd];omega
  ·exact h.disc id' o' hold
  ·obtain ⟨d1,d2⟩:=h.disc id' o1 hold
   have:=obnd_kill id o1
   exact ⟨fun hs=>by have:=d1 hs;omega,fun hb=>by have:=d2 hb;omega⟩
 ·simp only [Abs.put]
  rw [getD_set_same _ _ _ _ (by rw [killL_len];exact hkl)]
  exact hv
 ·intro id' hm
  have hne:id' ≠id:=by rintro rfl;rw [hmay] at hm;cases hm
  exact ⟨ho id' hne,fun off=>hkp _⟩
 ·intro id' _ ht
  have hne:id' ≠id:=by rintro rfl;simp only [Abs.put] at ht;rw [htch] at ht;cases ht
  exact ⟨hI id' hne,ho id' hne⟩
 ·intro id' hlt _
  exact hI id' (by omega)
 ·simp only [Abs.put,killedH];simp;omega
 ·intro id' o' hb ho'
  simp only [Abs.put] at ho'
  rcases killedH_get hid ho' with ⟨rfl,rfl⟩|⟨hne,hb',hold⟩|⟨hne,hb',o1,hold,rfl⟩
  ·omega
  ·exact Or.inr ⟨o',hold,Nat.le_refl _⟩
  ·omega
theorem ones_of_all {cs:List AVal}{vs:List Value}(h:cs.all AVal.one=true)(hv:VRs G I N w cs vs):ones vs:=ones_sound _ _ h hv
theorem eff_appendObj (h:RI X l S st a w G I N)(hD:∀ j,D j=true→S j){k:Nat}(hk:¬ S k)(hkl:k<st.L.length){o:Oper}{sz bytes:Nat}{ob:Bool}{x y:Opd}
  (hc:chkAppend P (X.ck D) o (.append sz bytes ob x y)=true) {E:Env} (hE:E.lim=l) {id lo len:Nat} (hx:rho st.T st.L x= .sref id sz lo len) {st' :RSt} (he:appendObj E k sz bytes st id lo len (rho st.T st.L y)=some st') :
  ∃ v w' G' I',(execOp a.eval o).run P w= .ok (.value v) w' ∧Mid X l S E.entry st a w G I N st' k v w' G' I' N:=by
 obtain ⟨x0,y0,t,t2,e,i,z,hop,hcx,hcy,ht2,hsz,hu,hi,hsi,hbi,hz,hzs,hbp⟩:=chkAppend_sound hc
 unfold appendObj at he
 rw [hE] at he
 split at he
 ·rename_i hcond
  split at he
  ·rename_i l0 m cs hl0 hcs
   split at he
   ·rename_i hcc
    obtain ⟨rfl,hlen,hroom,hbcs,hone,_⟩:=hcc
    cases he
    obtain ⟨vn,hl,hf,hvn,hcl⟩:=src_sound (P:=P) h.H (h.opds hD _ _ hcy) hsz hcs
    have hval:=h.opds hD _ _ hcx
    rw [hx] at hval
    simp only [VR] at hval
    obtain ⟨hNid,cap,hx0,hcap,c,e',f,hb,hbs⟩:=hval
    have hexec:(execOp a.eval o).run P w=((Builtin.append_ #[t,t2] o.type #[a.eval x0,a.eval y0]).run P w).andThen fun v w' => .ok (.value v) w' :=by
     obtain ⟨dst,oop,ty,pos,after,guard⟩:=o
     simp only at hop
     subst hop
     simp [execOp,resolve,invoke,builtin]
    have hvlen:vn.length=m * sz:=by rw [VRs.length _ _ hvn,hcl]
    subst hsi hbi
    have hO:=h.H id _ hl0
    simp only [OR] at hO
    obtain ⟨_,c0,e0,f0,h1,hlab,hnf,hsz0,h5⟩:=hO
    rw [hb] at h1;cases h1
    have hbnd:bndL (killL id l0++cs)≤max (AObj.cells l0).bnd (id+1):=by
     rw [bndL_append]
     have:=bndL_kill id l0
     simp only [AObj.bnd];omega
    have hones:=ones_of_all hone hvn
    have vrk:∀ {pl:Place} {b:AVal} {u:Value},VR G I N w pl b u→VR G I N w pl (b.kill id) u :=
     fun hb=>VR.mono (Ext.refl _ _).sub (fun _ _=>rfl) (fun i hi=>hi.1) _ _ _ (Or.inr (fun _ _ h=>⟨h,rfl⟩)) (VR.kill id _ _ _ hb)
    by_cases hfit:len+m≤cap
    ·
     have hrun:=run_append_in (P:=P) (w:=w) (ty:=o.type) hu hi ht2 (base:=some (ad (I id).1 ((I id).2+0))) (sLen:=len) (sCap:=cap) hl (hf w rfl) hfit
     have hbig:(len+m) * i.size≤cap * i.size:=Nat.mul_le_mul_right _ hfit
     rw [Nat.add_mul] at hbig
     have hroomb:(I id).2+len * i.size+vn.length≤c.size:=by omega
     have hst:=run_storeCells_at (P:=P) (I id).1 ((I id).2+0+len * i.size) e' f vn 0 c w hb hnf (by omega) hones
     have hfit' :(I id).2+0+len * i.size+vn.length≤c.toList.length:=by simp;omega
     have hcs' :(spliceV c.toList ((I id).2+0+len * i.size) vn).toArray.size=c.size:=by rw [List.size_toArray,spliceV_len _ _ _ hfit',Array.length_toList]
     have hw:=wrote_row (G:=G) hb hlab hcs'
     refine ⟨.slice (some (ad (I id).1 ((I id).2+0))) (len+m) cap,w.setRow (I id).1 (spliceV c.toList ((I id).2+0+len * i.size) vn).toArray,G,I,?_,
      Mid.killed h hk hkl hl0 hcond.1 hcond.2.1 hcond.2.2 hw.ext hw.keeps (fun id' hne=>hw.objs hne) (fun b' hb' =>h.wf b' (by rw [← hw.size];exact hb')) (fun _ _=>rfl) ?_ hbnd ?_ (.obj id::st.tch) (by simp [Touch.objHit])⟩
     ·rw [hexec,hx0,hrun]
      simp only [add_ad]
      simp only [Nat.add_zero] at hst ⊢
      rw [hst]
      rfl
     ·simp only [OR]
      have mono:∀ {pl:Place} {b:AVal} {u:Value},VR G I N w pl b u→VR G I N (w.setRow (I id).1 (spliceV c.toList ((I id).2+0+len * i.size) vn).toArray) pl b u :=
       fun hq=>VR.mono hw.ext (fun _ _=>rfl) (fun _ h=>h) _ _ _ (Or.inr (hw.keeps _)) hq
      refine ⟨hNid,_,e',f,setRow_heap w _ c _ e' f hb,hlab,by rw [hcs'];exact hnf,?_,fun j b hj=> ?_⟩
      ·rw [hcs',List.length_append,killL_len,hcl];omega
      ·rw [show (spliceV c.toList ((I id).2+0+len * i.size) vn).toArray[(I id).2+j]? =(spliceV c.toList ((I id).2+0+len * i.size) vn)[(I id).2+j]? from by simp,spliceV_get _ _ _ hfit']
       have hjl:=lt_of_getElem? hj
       rw [List.length_append,killL_len,hcl] at hjl
       by_cases hjc:j<l0.length
       ·rw [List.getElem?_append_left (by rw [killL_len];exact hjc),killL_get] at hj
        rw [if_pos (by omega)]
        rw [List.getElem?_eq_getElem hjc] at hj
        simp at hj;subst hj
        obtain ⟨v,g1,g2⟩:=h5 j _ (List.getElem?_eq_getElem hjc)
        exact ⟨v,by simpa using g1,mono (vrk g2)⟩
       ·rw [List.getElem?_append_right (by rw [killL_len];omega),killL_len] at hj
        rw [if_neg (by omega),if_pos (by omega)]
        obtain ⟨u,r1,r2⟩:=VRs.get _ _ hvn (j - l0.length) b hj
        exact ⟨u,by rw [show (I id).2+j - ((I id).2+0+len * i.size)=j - l0.length from by omega];exact r1,mono r2.place⟩
     ·simp only [VR]
      exact ⟨hNid,cap,rfl,hfit,_,e',f,setRow_heap w _ c _ e' f hb,by rw [hcs'];exact hbs⟩
    ·
     have hlt:cap<len+m:=by omega
     have hload:∃ vo:List Value,vo.length=len * i.size∧(∀ w2:World,w2.heap=w.heap→(Builtin.firstCells i.size len (.slice (some (ad (I id).1 ((I id).2+0))) len cap)).run P w2= .ok vo.toArray w2) ∧
       (∀ (j:Nat) b,l0[j]? =some b→∃ v,vo[j]? =some v∧VR G I N w (.cell id j) b v):=by
      refine ⟨(List.range (len * i.size)).map (fun j=>(c[(I id).2+j]?).getD default),by simp,fun w2 hw2=> ?_,fun j b hj=> ?_⟩
      ·have:=run_loadCells_list (P:=P) w2 (ad (I id).1 ((I id).2+0)) ((List.range (len * i.size)).map (fun j=>(c[(I id).2+j]?).getD default)) (fun j v hj=>by
        have hjn:j<len * i.size:=by
         rcases Nat.lt_or_ge j (len * i.size) with h|h
         ·exact h
         ·simp [h] at hj
        simp [hjn] at hj
        rw [add_ad,cell_heap hw2,cell_of_heap hb]
        have hlt:(I id).2+j<c.size:=by omega
        simp [hlt] at hj ⊢
        exact hj)
       simpa [Builtin.firstCells] using this
      ·have hjn:j<len * i.size:=by have:=lt_of_getElem? hj;omega
       obtain ⟨u,g1,g2⟩:=h5 j b hj
       exact ⟨u,by simp [hjn,g1],g2⟩
     obtain ⟨vo,hvo1,hvo2,hvo3⟩:=hload
     obtain ⟨ncap,hncap,hrun⟩:=run_append_out (P:=P) (w:=w) (ty:=o.type) hu hi hz ht2 (base:=some (ad (I id).1 ((I id).2+0))) (sLen:=len) (sCap:=cap) hl (hf w.drew rfl) (hvo2 w.drew rfl) hlt (room_63 hroom hbp) (room_fits hroom hlt)
     have hnb:New w (w.drew.alloc (.cells (vo.toArray++vn.toArray++Builtin.zeroCells z.cells (ncap - (len+m))) e)) (.cells (vo.toArray++vn.toArray++Builtin.zeroCells z.cells (ncap - (len+m))) e):=by
      have:=New.alloc w.drew (.cells (vo.toArray++vn.toArray++Builtin.zeroCells z.cells (ncap - (len+m))) e)
      exact ⟨this.os,this.tape,this.output,this.size,this.old,this.new⟩
     have hsize:(vo.toArray++vn.toArray++Builtin.zeroCells z.cells (ncap - (len+m))).size=ncap * i.size:=by
      simp only [Array.size_append,List.size_toArray,zc_size,hzs,hvo1,hvlen]
      have:ncap * i.size=(len+m) * i.size+(ncap - (len+m)) * i.size:=by rw [← Nat.add_mul];congr 1;omega
      rw [this,Nat.add_mul]
     refine ⟨.slice (some (ad w.heap.size 0)) (len+m) ncap,_,upd G w.heap.size (.obj id),updI I id (w.heap.size,0),?_,
      Mid.killed h hk hkl hl0 hcond.1 hcond.2.1 hcond.2.2 (hnb.ext h.wf _) (hnb.keeps h.wf _) (fun id' _=>hnb.objs h.wf _ id') (hnb.wf h.wf _) (fun i hi=>updI_other hi) ?_ hbnd ?_ (.obj id::st.tch) (by simp [Touch.objHit])⟩
     ·rw [hexec,hx0,hrun];rfl
     ·simp only [OR]
      have mono:∀ {pl:Place} {b:AVal} {u:Value},VR G I N w pl b u→VR (upd G w.heap.size (.obj id)) (updI I id (w.heap.size,0)) N _ pl (b.kill id) u :=
       fun hq=>VR.mono (hnb.ext h.wf _).sub (fun i hi=>updI_other hi.2) (fun i hi=>hi.1) _ _ _ (Or.inr (hnb.keeps h.wf _ _)) (VR.kill id _ _ _ hq)
      refine ⟨hNid,_,e,(0,0),by rw [updI_same];exact hnb.new,by simp,NoFr00 _,?_,fun j b hj=> ?_⟩
      ·rw [hsize]
       simp only [updI_same,List.length_append,killL_len,hcl]
       have:(len+m) * i.size≤ncap * i.size:=Nat.mul_le_mul_right _ hncap
       rw [Nat.add_mul] at this
       omega
      ·have hjl:=lt_of_getElem? hj
       rw [List.length_append,killL_len,hcl] at hjl
       simp only [updI_same,Nat.zero_add]
       rw [show (vo.toArray++vn.toArray++Builtin.zeroCells z.cells (ncap - (len+m)))[j]? =(vo++vn++(Builtin.zeroCells z.cells (ncap - (len+m))).toList)[j]? from by rw [← Array.getElem?_toList];simp,
        List.getElem?_append_left (by rw [List.length_append];omega)]
       by_cases hjc:j<l0.length
       ·rw [List.getElem?_append_left (by rw [killL_len];exact hjc),killL_get] at hj
        rw [List.getElem?_append_left (by omega)]
        rw [List.getElem?_eq_getElem hjc] at hj
        simp at hj;subst hj
        obtain ⟨v,g1,g2⟩:=hvo3 j _ (List.getElem?_eq_getElem hjc)
        exact ⟨v,g1,mono g2⟩
       ·rw [List.getElem?_append_right (by rw [killL_len];omega),killL_len] at hj
        rw [List.getElem?_append_right (by omega)]
        obtain ⟨u,r1,r2⟩:=VRs.get _ _ hvn (j - l0.length) b hj
        refine ⟨u,by rw [show j - vo.length=j - l0.length from by omega];exact r1,?_⟩
        have hb' :b.bnd≤id:=Nat.le_trans (bndL_mem _ _ _ hj) hbcs
        exact (VR.mono (hnb.ext h.wf _).sub (fun i hi=>updI_other (by have:=hi.2;omega)) (fun i hi=>hi.1) _ _ _ (Or.inl rfl) (VR.low id _ _ _ hb' r2)).place
     ·simp only [VR]
      refine ⟨hNid,ncap,by simp,hncap,_,e,(0,0),by rw [updI_same];exact hnb.new,?_⟩
      rw [hsize];simp
   ·cases he
  ·cases he
 ·cases he
end
end Go.Abs
namespace Go.Abs
section
variable {P:Program} {X:Cx} {l:Lim} {S:Nat→Prop} {st:RSt} {a:Act} {w w' :World} {G G' :Gh} {I I' :Inj} {N:Nat→Prop} {D:Nat→Bool} {ais:List AIns}
def chkMap (P:Program)(ck:Operand→Opd→Bool)(o:Oper)(op:AOp):Bool :=
 match o.op,op with
 | .mapUpdate t m k v,.mapSet kk m' k' v' =>ck m m' &&ck k k' &&ck v v' &&(match P.underlying t with
  |some (.map kt _)=>keyT P kt kk
  |_=>false)
 |_,_=>false
theorem cells_true:∀ {ks:List CK} {l m:List KD},cellsEq ks (l.map KD.av) (m.map KD.av)=some true→l=m
 |[],[],[],_=>rfl
 |[],_::_,_,h=>by simp [cellsEq] at h
 |[],[],_::_,h=>by simp [cellsEq] at h
 |k::ks,[],m,h=>by simp [cellsEq] at h
 |k::ks,x::l,[],h=>by cases x<;>simp [cellsEq,KD.av] at h
 |k::ks,x::l,y::m,h=>by
  have hd:∀ (a b:Data),KD.av x= .d a→KD.av y= .d b→cellsEq (k::ks) (.d a::l.map KD.av) (.d b::m.map KD.av)=some true→x=y∧l=m:=by
   intro a b ha hb h
   simp only [cellsEq] at h
   split at h
   ·rename_i t ht
    split at h
    ·rename_i u hu
     simp at h
     obtain ⟨rfl,rfl⟩:=h
     refine ⟨?_,cells_true hu⟩
     cases k<;>cases x<;>cases y<;>simp only [KD.av] at ha hb<;>cases ha<;>cases hb<;>simp_all [Data.cellEq]
    ·cases h
   ·cases h
  have hx:∃ a,KD.av x= .d a:=by cases x<;>exact ⟨_,rfl⟩
  have hy:∃ b,KD.av y= .d b:=by cases y<;>exact ⟨_,rfl⟩
  obtain ⟨a,ha⟩:=hx
  obtain ⟨b,hb⟩:=hy
  simp only [List.map_cons,ha,hb] at h
  obtain ⟨rfl,rfl⟩:=hd a b ha hb h
  rfl
theorem keyEq_true {kk:KK}{a b:Key}(h:Data.keyEq kk a b=some true):a=b:=by
 unfold Data.keyEq at h
 split at h
 ·split at h
  ·rename_i hk
   subst hk
   simp at h;subst h;rfl
  ·cases h
 ·simp at h;subst h;rfl
 ·simp at h;subst h;rfl
 ·rw [cells_true h]
 ·cases h
theorem key_bits (k:Key):Instr.sameBits 10000 k.val k.val=true:=by
 have h:∀ x:KD,Instr.sameBits 9999 x.val x.val=true:=by intro x;cases x<;>simp [KD.val,Instr.sameBits,beq_toListBytes]
 cases k<;>simp [Key.val,Instr.sameBits,beq_toListBytes]
 rename_i l
 intro a b hab
 rw [List.zip_map',List.mem_map] at hab
 obtain ⟨x,_,e⟩:=hab
 cases e
 exact h x
theorem put_key {kk:KK}{t:TypeId}{d:TypeDesc}(ht:keyT P t kk=true)(hd:P.underlying t=some d){key:Key}{nv:AVal}{x:Value}(hx:VR G I N w .none nv x) :
  ∀ (es:List (Key×AVal)) (xs:List MapEntry) (i:Nat) (es' :List (Key×AVal)),ER G I N w es xs→mapPut kk key nv es=some es' →
   (FindR (SameK P w t d key.val kk) xs i none∧∀ born,ER G I N w es' (xs++[{ key:=key.val,val:=x,born }])) ∨
   (∃ j v0,FindR (SameK P w t d key.val kk) xs i (some (i+j,v0))∧(∃ e0,xs[j]? =some e0∧e0.key=key.val)∧ER G I N w es' (xs.modify j fun e=>{ e with key:=key.val,val:=x }))
 |[],xs,i,es',hE,h=>by
  simp [ER] at hE;subst hE
  simp [mapPut] at h;subst h
  refine Or.inl ⟨rfl,fun born=> ?_⟩
  simp only [List.nil_append,ER]
  exact ⟨_,[],rfl,rfl,hx,rfl⟩
 |(k',v')::rest,xs,i,es',hE,h=>by
  simp only [ER] at hE
  obtain ⟨e,ys,rfl,h2,h3,h4⟩:=hE
  unfold mapPut at h
  split at h
  ·rename_i hk
   simp at h;subst h
   have he:=keyEq_true hk
   subst he
   refine Or.inr ⟨0,e.val,.inl ⟨by rw [h2];exact same_key hk ht hd,rfl⟩,⟨e,rfl,h2⟩,?_⟩
   simp only [List.modify_zero_cons,ER]
   exact ⟨_,ys,rfl,rfl,hx,h4⟩
  ·rename_i hk
   split at h
   ·rename_i r' hr
    simp at h;subst h
    have hne:SameK P w t d key.val kk e.key false:=by rw [h2];exact same_key hk ht hd
    rcases put_key ht hd hx rest ys (i+1) r' h4 hr with ⟨g1,g2⟩|⟨j,v0,g1,g2,g3⟩
    ·refine Or.inl ⟨.inr ⟨hne,g1⟩,fun born=> ?_⟩
     simp only [List.cons_append,ER]
     exact ⟨e,_,rfl,h2,h3,g2 born⟩
    ·refine Or.inr ⟨j+1,v0,.inr ⟨hne,?_⟩,by simpa using g2,?_⟩
     ·rwa [show i+(j+1)=i+1+j from by omega]
     ·simp only [List.modify_succ_cons,ER]
      exact ⟨e,_,rfl,h2,h3,g3⟩
   ·cases h
  ·cases h
theorem bnd_mapPut {kk:KK}{key:Key}{nv:AVal}:∀ (es es' :List (Key×AVal)),mapPut kk key nv es=some es' →bndL (es'.map (·.2))≤max (bndL (es.map (·.2))) nv.bnd
 |[],es',h=>by simp [mapPut] at h;subst h;simp [bndL]
 |(k',v')::rest,es',h=>by
  unfold mapPut at h
  split at h
  ·simp at h;subst h
   simp only [List.map_cons,bndL];omega
  ·split at h
   ·rename_i r' hr
    simp at h;subst h
    have:=bnd_mapPut rest r' hr
    simp only [List.map_cons,bndL];omega
   ·cases h
  ·cases h
theorem eff_mapSet (h:RI X l S st a w G I N)(hD:∀ j,D j=true→S j){k:Nat}(hk:¬ S k)(hkl:k<st.L.length)(entry:Nat){o:Oper}{kk:KK}{m ky v:Opd}(hc:chkMap P (X.ck D) o (.mapSet kk m ky v)=true){E:Env}(hE:E.lim=l)
  {st' :RSt} (he:mapSetEff E k kk st (rho st.T st.L m) (rho st.T st.L ky) (rho st.T st.L v)=some st'):∃ w',(execOp a.eval o).run P w= .ok .skip w' ∧Mid X l S entry st a w G I N st' k undef w' G I N:=by
 obtain ⟨dst,oop,ty,pos,after,guard⟩:=o
 cases oop<;>simp only [chkMap,Bool.and_eq_true] at hc<;>try (cases hc;done)
 rename_i t m' k' v'
 obtain ⟨⟨⟨hm,hky⟩,hv⟩,ht⟩:=hc
 have h1:=h.opds hD _ _ hm
 have h2:=h.opds hD _ _ hky
 have h3:=h.opds hD _ _ hv
 split at ht
 ·rename_i kt et hu
  obtain ⟨dk,hdk⟩:∃ d,P.underlying kt=some d:=by
   cases hd:P.underlying kt with
   |none=>cases kk<;>simp [keyT,kindT,flatStruct,hd] at ht
   |some d=>exact ⟨d,rfl⟩
  unfold mapSetEff at he
  split at he
  ·rename_i id kd hp hq
   rw [hp] at h1
   simp only [VR] at h1
   have h2:=key_val hq h2
   split at he
   ·rename_i es hes
    split at he
    ·rename_i hcond
     split at he
     ·rename_i hkk
      split at he
      ·rename_i es' hes'
       cases he
       have hO:=h.H id _ hes
       simp only [OR] at hO
       obtain ⟨hN,arr,clk,g1,g2,g3,g4⟩:=hO
       have hgo:(getObj (I id).1).run P w= .ok (.map arr clk) w:=by simp [getObj,Sem.run,g1]
       have hlt:(I id).1<w.heap.size:=by
        rcases Nat.lt_or_ge (I id).1 w.heap.size with h|h
        ·exact h
        ·rw [Array.getElem?_eq_none h] at g1;cases g1
       have hset:∀ ob:Obj,(setObj (I id).1 ob).run P w= .ok () { w with heap:=w.heap.setIfInBounds (I id).1 ob }:=by
        intro ob;simp [setObj,Sem.run,g1]
       have wrote:∀ ob:Obj,Wrote id (I id).1 w { w with heap:=w.heap.setIfInBounds (I id).1 ob } G:=by
        intro ob
        refine ⟨g2,rfl,rfl,rfl,by simp,fun b' hne=> ?_,fun c e f hc=> ?_⟩
        ·simp [Array.getElem?_setIfInBounds_ne (fun e=>hne e.symm)]
        ·rw [g1] at hc;cases hc
       have hbnd:(AObj.map es').bnd≤max (AObj.map es).bnd (id+1)∨(l.base≤id∧l.strict≤id):=by
        left
        have:=bnd_mapPut es es' hes'
        simp only [AObj.bnd];have:=hcond.1;omega
       have fin:∀ (arr' :Array MapEntry) (clk' :Nat),ER G I N w es' arr'.toList→Born arr' clk' →Mid X l S entry st a w G I N (put { st with H:=st.H.set id (.map es'),tch:= .obj id::st.tch } k .any) k undef { w with heap:=w.heap.setIfInBounds (I id).1 (.map arr' clk') } G I N:=by
        intro arr' clk' hER hBn
        have hw:=wrote (.map arr' clk')
        refine Mid.write h hk hkl entry hw hes ?_ (by rw [← hE];exact hcond.2) hbnd (fun _=>Iff.rfl) (by simp [VR]) (.obj id::st.tch) (by simp [Touch.objHit])
        simp only [OR]
        exact ⟨hN,arr',clk',by simp [hlt],g2,ER.mono hw.ext (fun _ _=>rfl) (fun _ h=>h) _ _ hER,hBn⟩
       have hck:=checkKey_plain (P:=P) (w:=w) ht (fits_of hkk) false 9998
       rw [← h2] at hck
       have hp:=put_key (P:=P) (w:=w) (key:=kd) ht hdk h3 es arr.toList 0 es' g3 hes'
       rw [← h2] at hp
       rcases hp with ⟨f1,f2⟩|⟨j,v0,f1,⟨e0,f2,f2'⟩,f3⟩
       ·have hfk:(Instr.findKey kt (a.eval k') arr.toList).run P w= .ok none w:=findKey_run hdk f1
        refine ⟨_,?_,fin (arr.push { key:=a.eval k',val:=a.eval v',born:=clk }) (clk+1) (by simpa using f2 clk) (g4.push _ _)⟩
        simp [execOp,h1.2,Instr.mapUpdate,run_underlying hu,hgo,hck,hfk,hset]
       ·have hfk:(Instr.findKey kt (a.eval k') arr.toList).run P w= .ok (some (0+j,v0)) w:=findKey_run hdk f1
        have hkeep:(Instr.keyThatStays (((arr[0+j]?).map (·.key)).getD (a.eval k')) (a.eval k')).run P w= .ok (a.eval k') w:=by
         have e1:arr[0+j]? =some e0:=by simpa using f2
         have hsb:=key_bits kd
         rw [← h2] at hsb
         rw [e1]
         simp only [Option.map_some,Option.getD_some,f2',Instr.keyThatStays,hsb,if_true,Sem.run_pure]
        refine ⟨_,?_,fin (arr.modify (0+j) fun e=>{ e with key:=a.eval k',val:=a.eval v' }) clk (by simpa using f3) (g4.modify _ _ fun _=>rfl)⟩
        simp only [execOp,h1.2,Instr.mapUpdate,Sem.run_bind,run_underlying hu,Result.andThen_ok,hgo,hck,hfk,hkeep,hset,Sem.run_pure]
      ·cases he
     ·cases he
    ·cases he
   ·cases he
  ·cases he
 ·cases ht
end
end Go.Abs
namespace Go.Abs
section
variable {P:Program} {X:Cx} {l:Lim} {S:Nat→Prop} {st:RSt} {a:Act} {w w' :World} {G G' :Gh} {I I' :Inj} {N:Nat→Prop} {D:Nat→Bool} {ais:List AIns}
theorem isNil_sound (h:RI X l S st a w G I N)(hpv:PV X ais S st a w I)(hT:st.T.length=X.names.length)(hD:∀ j,D j=true→S j){x:Operand}{y:Opd}(hc:X.ck D x y=true)(hn:isNil l ais st y=true) :
  a.eval x= .slice none 0 0:=by
 unfold isNil at hn
 split at hn
 ·unfold Cx.ck at hc
  split at hc
  ·simp_all
  ·simp_all
  ·rename_i v' b heq
   cases heq
   have:=constOK_sound (G:=G) (I:=I) (N:=N) (w:=w) _ _ hc
   simpa [VR,Act.eval] using this
  all_goals simp_all
 ·rename_i j
  have hloc:∃ t,x= .tmp t∧D j=true∧(X.ops[j]?).bind (·.dst)=some t∧X.names.contains t=false:=by
   unfold Cx.ck at hc
   split at hc
   ·simp_all
   ·rename_i t j' heq
    cases heq
    simp only [Bool.and_eq_true,beq_iff_eq,Bool.not_eq_true'] at hc
    exact ⟨t,rfl,hc.1.1,hc.1.2,hc.2⟩
   all_goals simp_all
  obtain ⟨t,rfl,hDj,hdst,hnn⟩:=hloc
  have hSj:=hD j hDj
  simp only [Act.eval]
  split at hn
  ·rename_i hj
   have h1:=h.L j hSj t hdst hnn
   rw [getD_of hj] at h1
   simpa [VR] using h1
  ·rename_i n0 c0 hj
   split at hn
   ·rename_i ai hai
    unfold nilVia at hn
    split at hn
    ·rename_i s hop
     simp only [Bool.and_eq_true,Bool.not_eq_true'] at hn
     obtain ⟨hun,hs⟩:=hn
     split at hs
     ·rename_i hs'
      obtain ⟨ts,hts⟩:∃ ts,X.names[s]? =some ts:=by
       have:=lt_of_getElem? hs'
       exact ⟨_,List.getElem?_eq_getElem (by omega)⟩
      have h1:=h.T s ts hts
      rw [getD_of hs'] at h1
      have he:=hpv.slot j ai s ts t hSj (by rw [hj];simp) hai hop hts hdst hnn hun
      rw [he]
      simpa [VR] using h1
     ·cases hs
    ·rename_i x' hop
     split at hn
     ·rename_i id off hptr
      simp only [Bool.and_eq_true,Bool.not_eq_true'] at hn
      obtain ⟨⟨hun,hmay⟩,hs⟩:=hn
      split at hs
      ·rename_i cs hcs
       split at hs
       ·rename_i hco
        have hO:=h.H id _ hcs
        simp only [OR] at hO
        obtain ⟨hN,c,e,f,g1,g2,g3,g4,g5⟩:=hO
        obtain ⟨v,e1,e2⟩:=g5 off _ hco
        have he:=hpv.cell j ai x' id off t cs hSj (by rw [hj];simp) hai hop hptr hcs (lt_of_getElem? hco) hun hdst hnn
        rw [cell_of_heap g1,e1] at he
        rw [← Option.some_inj.1 he]
        simpa [VR] using e2
       ·cases hs
      ·cases hs
     ·cases hn
    ·cases hn
   ·cases hn
  ·cases hn
 ·cases hn
theorem eff_appendNil (h:RI X l S st a w G I N)(hpv:PV X ais S st a w I)(hT:st.T.length=X.names.length)(hD:∀ j,D j=true→S j){k:Nat}(hk:¬ S k)(hkl:k<st.L.length)(entry:Nat){nid:Option Nat}(hid:IdOK l st N nid){o:Oper}{sz bytes:Nat}{x y:Opd}
  (hc:chkAppend P (X.ck D) o (.append sz bytes true x y)=true) {E:Env} (hE:E.lim=l) {st' :RSt} (he:appendOwn E ais nid k sz bytes true st x (rho st.T st.L y)=some st') :
  (∃ v w' G',(execOp a.eval o).run P w= .ok (.value v) w' ∧Mid X l S entry st a w G I N st' k v w' G' I N) ∨
  ∃ v w' G' I' N' ob av,(execOp a.eval o).run P w= .ok (.value v) w' ∧st' =put (newObjA st nid ob) k av∧Mid X l S entry st a w G I N st' k v w' G' I' N' ∧(∀ i,N' i↔N i∨i=newId st nid):=by
 obtain ⟨x0,y0,t,t2,e,i,z,hop,hcx,hcy,ht2,hsz,hu,hi,hsi,hbi,hz,hzs,hbp⟩:=chkAppend_sound hc
 have hexec:(execOp a.eval o).run P w=((Builtin.append_ #[t,t2] o.type #[a.eval x0,a.eval y0]).run P w).andThen fun v w' => .ok (.value v) w' :=by
  obtain ⟨dst,oop,ty,pos,after,guard⟩:=o
  simp only at hop
  subst hop
  simp [execOp,resolve,invoke,builtin]
 unfold appendOwn at he
 rw [hE] at he
 simp only [if_true] at he
 split at he
 ·rename_i m cs hcs
  split at he
  ·rename_i hcond
   obtain ⟨hnil,hroom,_⟩:=hcond
   have hx0:=isNil_sound h hpv hT hD hcx hnil
   obtain ⟨vn,hl,hf,hvn,hcl⟩:=src_sound (P:=P) h.H (h.opds hD _ _ hcy) hsz hcs
   have hvlen:vn.length=m * sz:=by rw [VRs.length _ _ hvn,hcl]
   subst hsi hbi
   split at he
   ·rename_i hm
    subst hm
    cases he
    have hrun:=run_append_in (P:=P) (w:=w) (ty:=o.type) hu hi ht2 (base:=none) (sLen:=0) (sCap:=0) hl (hf w rfl) (Nat.le_refl _)
    refine Or.inl ⟨.slice none 0 0,w,G,?_,Mid.same h hk hkl entry (by simp [VR])⟩
    rw [hexec,hx0,hrun]
    rfl
   ·rename_i hm
    cases he
    have hlt:0<0+m:=by omega
    obtain ⟨ncap,hncap,hrun⟩:=run_append_out (P:=P) (w:=w) (ty:=o.type) hu hi hz ht2 (base:=none) (sLen:=0) (sCap:=0) (old:= #[]) hl (hf w.drew rfl) (by simp [Builtin.firstCells]) hlt (by rw [Nat.zero_add];exact room_63 hroom hbp) (by rw [Nat.zero_add];exact room_fits hroom (by omega))
    rw [Nat.zero_add] at hncap hrun
    have hnb:New w (w.drew.alloc (.cells (#[]++vn.toArray++Builtin.zeroCells z.cells (ncap - m)) e)) (.cells (#[]++vn.toArray++Builtin.zeroCells z.cells (ncap - m)) e):=by
     have:=New.alloc w.drew (.cells (#[]++vn.toArray++Builtin.zeroCells z.cells (ncap - m)) e)
     exact ⟨this.os,this.tape,this.output,this.size,this.old,this.new⟩
    have hsize:(#[]++vn.toArray++Builtin.zeroCells z.cells (ncap - m):Array Value).size=ncap * i.size:=by
     simp only [Array.size_append,List.size_toArray,zc_size,hzs,hvlen,List.size_toArray,List.length_nil,Nat.zero_add]
     rw [← Nat.add_mul];congr 1;omega
    refine Or.inr ⟨.slice (some (ad w.heap.size 0)) m ncap,_,_,_,_,.cells cs,_,by rw [hexec,hx0,hrun];rfl,rfl,Mid.newObj h hk hkl entry hid hnb (.cells cs) ?_ ?_,fun i=>Iff.rfl⟩
    ·simp only [OR]
     refine ⟨Or.inr trivial,_,e,(0,0),by rw [updI_same];exact hnb.new,by simp,NoFr00 _,?_,fun j b hj=> ?_⟩
     ·rw [hsize]
      simp only [updI_same,hcl,Nat.zero_add]
      exact Nat.mul_le_mul_right _ hncap
     ·simp only [updI_same,Nat.zero_add]
      obtain ⟨u,r1,r2⟩:=VRs.get _ _ hvn j b hj
      have hjl:=lt_of_getElem? r1
      refine ⟨u,?_,?_⟩
      ·rw [show (#[]++vn.toArray++Builtin.zeroCells z.cells (ncap - m))[j]? =(vn++(Builtin.zeroCells z.cells (ncap - m)).toList)[j]? from by rw [← Array.getElem?_toList];simp,List.getElem?_append_left hjl]
       exact r1
      ·exact (hnb.vr h.wf _ (fun j hj=>updI_other (by rintro rfl;exact hid.new hj)) (fun _ h=>Or.inl h) r2).place
    ·simp only [VR]
     refine ⟨Or.inr trivial,ncap,by simp,hncap,_,e,(0,0),by rw [updI_same];exact hnb.new,?_⟩
     rw [hsize];simp
  ·cases he
 ·cases he
def chkClear (P:Program)(ck:Operand→Opd→Bool)(o:Oper)(op:AOp):Bool :=
 match o.op,op with
 | .call ⟨.builtin .clear,args,argTypes⟩,.clear sz zero y =>
  (match args.toList,argTypes.toList with
   |[x],[t]=>ck x y&&decide (0<sz)&&(match P.underlying t with
    |some (.slice e)=>(match P.info? e with
     |some i=>(match i.zero with|some z=>consts z.cells.toList zero&&z.cells.size==sz&&zero.all AVal.one|none=>false)
     |none=>false)
    |_=>false)
   |_,_=>false)
 |_,_=>false
theorem flat_get {α:Type}(zero:List α):∀ (n i:Nat),((List.replicate n zero).flatten)[i]? =if i<n * zero.length then zero[i % zero.length]? else none
 |0,i=>by simp
 |n+1,i=>by
  rw [List.replicate_succ,List.flatten_cons]
  by_cases h:i<zero.length
  ·rw [List.getElem?_append_left h,if_pos (by rw [Nat.succ_mul];omega),Nat.mod_eq_of_lt h]
  ·rw [List.getElem?_append_right (by omega),flat_get zero n (i - zero.length)]
   by_cases h2:i - zero.length<n * zero.length
   ·rw [if_pos h2,if_pos (by rw [Nat.succ_mul];omega),Nat.mod_eq_sub_mod (a:=i) (b:=zero.length) (by omega)]
   ·rw [if_neg h2,if_neg (by rw [Nat.succ_mul];omega)]
theorem bnd_flat {zero:List AVal}(h:bndL zero=0):∀ n:Nat,bndL (List.replicate n zero).flatten=0
 |0=>by simp [bndL]
 |n+1=>by rw [List.replicate_succ,List.flatten_cons,bndL_append,h,bnd_flat h n];rfl
theorem eff_clear (h:RI X l S st a w G I N)(hD:∀ j,D j=true→S j){k:Nat}(hk:¬ S k)(hkl:k<st.L.length)(entry:Nat){o:Oper}{sz:Nat}{zero:List AVal}{y:Opd}
  (hc:chkClear P (X.ck D) o (.clear sz zero y)=true) {E:Env} (hE:E.lim=l) {st' :RSt} (he:clearEff E k sz zero st (rho st.T st.L y)=some st') :
  ∃ w',(execOp a.eval o).run P w= .ok (.value (.tuple #[])) w' ∧Mid X l S entry st a w G I N st' k (.tuple #[]) w' G I N:=by
 unfold chkClear at hc
 split at hc
 ·rename_i args argTypes sz' zero' y' hop heq
  cases heq
  split at hc
  ·rename_i x t ha ht
   have e1:args= #[x]:=by apply Array.toList_inj.1;simpa using ha
   have e2:argTypes= #[t]:=by apply Array.toList_inj.1;simpa using ht
   subst e1 e2
   simp only [Bool.and_eq_true,decide_eq_true_eq] at hc
   obtain ⟨⟨hx,hsz⟩,hc⟩:=hc
   split at hc
   ·rename_i e hu
    split at hc
    ·rename_i i hi
     split at hc
     ·rename_i z hz
      simp only [Bool.and_eq_true,beq_iff_eq] at hc
      obtain ⟨⟨hcs,hzs⟩,hone⟩:=hc
      have hexec:(execOp a.eval o).run P w=((Builtin.clear_ #[t] o.type #[a.eval x]).run P w).andThen fun v w' => .ok (.value v) w' :=by
       obtain ⟨dst,oop,ty,pos,after,guard⟩:=o
       simp only at hop
       subst hop
       simp [execOp,resolve,invoke,builtin]
      have hv:=h.opds hD _ _ hx
      unfold clearEff at he
      split at he
      ·rename_i id z' lo len hy
       rw [hy] at hv
       simp only [VR] at hv
       obtain ⟨hN,cap,hx0,hcap,_⟩:=hv
       split at he
       ·rename_i hcond
        obtain ⟨rfl,hzl,hzb,hmay⟩:=hcond
        split at he
        ·rename_i H' hw
         cases he
         obtain ⟨l0,c,e',f,g1,g2,g3,g4,g5,g6,g7,g8,g9⟩:=h.H.wr hw
         have hvz:=consts_sound (G:=G) (I:=I) (N:=N) (w:=w) _ _ hcs
         by_cases hlen:len=0
         ·subst hlen
          have hH' :H' =st.H:=by
           rw [g2]
           simp only [List.replicate_zero,List.flatten_nil,splice,List.length_nil,Nat.add_zero,List.append_nil,List.take_append_drop]
           apply List.ext_getElem?
           intro j
           by_cases hj:id=j
           ·subst hj;rw [List.getElem?_set_self (lt_of_getElem? g1),g1]
           ·rw [List.getElem?_set_ne hj]
          have hM:=Mid.write (D1:=N) h hk hkl entry (w' :=w) (G:=G) (id:=id) (b:=(I id).1) ⟨g6,rfl,rfl,rfl,rfl,fun _ _=>rfl,fun c _ _ h=>⟨c,h,rfl⟩⟩ g1 (h.H id _ g1) (by rw [← hE];exact hmay) (Or.inl (by omega)) (fun _=>Iff.rfl) (v:= .tuple []) (x:= .tuple #[]) (by simp only [VR];exact ⟨#[],rfl,by simp [VRs]⟩) (.obj id::st.tch) (by simp [Touch.objHit])
          have hset:st.H.set id (.cells l0)=st.H:=by
           apply List.ext_getElem?
           intro j
           by_cases hj:id=j
           ·subst hj;rw [List.getElem?_set_self (lt_of_getElem? g1),g1]
           ·rw [List.getElem?_set_ne hj]
          rw [hset] at hM
          refine ⟨w,?_,by rw [hH'];exact hM⟩
          rw [hexec,hx0]
          simp [Builtin.clear_,run_underlying hu]
         ·have hzc:(Builtin.zeroCells z.cells len).toList.length=len * z' :=by simp [zc_size,hzs]
          have hfl:((List.replicate len zero).flatten).length=len * z' :=by simp [hzl]
          have hget:∀ (j:Nat) b,((List.replicate len zero).flatten)[j]? =some b→∃ u,(Builtin.zeroCells z.cells len).toList[j]? =some u∧VR G I N w .none b u:=by
           intro j b hj
           rw [flat_get] at hj
           split at hj
           ·rename_i hjl
            rw [hzl] at hj hjl
            obtain ⟨u,r1,r2⟩:=VRs.get _ _ hvz (j % z') b hj
            refine ⟨u,?_,r2⟩
            have hzj:z.cells[j % z']? =some u:=by simpa using r1
            have hzj' :z.cells[j % z.cells.size]! =u:=by
             rw [hzs,getElem!_def,hzj]
            have hjr:(Array.range (len * z.cells.size))[j]? =some j:=by
             rw [hzs]
             simp [hjl]
            rw [Array.getElem?_toList]
            unfold Builtin.zeroCells
            rw [Array.getElem?_map,hjr]
            simp only [Option.map_some,hzj']
           ·cases hj
          obtain ⟨hO,hW⟩:=OR_splice g4 g5 g6 g7 g8 g9 g3 (vs:=(Builtin.zeroCells z.cells len).toList) (by rw [hzc,hfl]) (fun j b hj=>by
           obtain ⟨u,r1,r2⟩:=hget j b hj
           exact ⟨u,r1,r2.place⟩)
          have hones:ones (Builtin.zeroCells z.cells len).toList:=by
           intro u hu'
           obtain ⟨j,hj,rfl⟩:=List.getElem_of_mem hu'
           have hjl:j<((List.replicate len zero).flatten).length:=by rw [hfl,← hzc];exact hj
           obtain ⟨u',r1,r2⟩:=hget j _ (List.getElem?_eq_getElem hjl)
           rw [List.getElem?_eq_getElem hj] at r1
           cases r1
           have hmem:((List.replicate len zero).flatten)[j] ∈ zero:=by
            have:=List.getElem_mem hjl
            simp only [List.mem_flatten,List.mem_replicate] at this
            obtain ⟨q,hq,hq2⟩:=this
            rw [hq.2] at hq2;exact hq2
           exact (one_sound (List.all_eq_true.1 hone _ hmem) r2).1
          have hrun:=run_storeCells_at (P:=P) (I id).1 ((I id).2+lo) e' f (Builtin.zeroCells z.cells len).toList 0 c w g5 g7 (by rw [hzc,Nat.add_zero];omega) hones
          simp only [Nat.add_zero] at hrun
          have hbnd:(AObj.cells (splice l0 lo (List.replicate len zero).flatten)).bnd≤max (AObj.cells l0).bnd (id+1)∨(l.base≤id∧l.strict≤id):=by
           left
           have:=bndL_splice l0 lo (List.replicate len zero).flatten
           have hz0:=bnd_flat hzb len
           simp only [AObj.bnd];omega
          have hM:=Mid.write (D1:=N) h hk hkl entry hW g1 hO (by rw [← hE];exact hmay) hbnd (fun _=>Iff.rfl) (v:= .tuple []) (x:= .tuple #[]) (by simp only [VR];exact ⟨#[],rfl,by simp [VRs]⟩) (.obj id::st.tch) (by simp [Touch.objHit])
          refine ⟨_,?_,by rw [g2];exact hM⟩
          rw [hexec,hx0]
          have hzv:(zeroValue e).run P w= .ok z w:=by simp [zeroValue,typeInfo,hi,hz]
          obtain ⟨n',rfl⟩:∃ n',len=n' +1:=⟨len - 1,by omega⟩
          simp [Builtin.clear_,run_underlying hu,hzv,hrun]
        ·cases he
       ·cases he
      ·rename_i cells hy
       cases he
       rw [hy] at hv
       simp only [VR,DR] at hv
       refine ⟨w,?_,Mid.same h hk hkl entry (by simp only [VR];exact ⟨#[],rfl,by simp [VRs]⟩)⟩
       rw [hexec]
       rcases hv with ⟨hv|⟨a0,hv⟩,_⟩|⟨b,o',cap,hv,_⟩
       ·rw [hv];simp [Builtin.clear_,run_underlying hu]
       ·rw [hv];simp [Builtin.clear_,run_underlying hu]
       ·rw [hv];simp [Builtin.clear_,run_underlying hu]
      ·cases he
     ·cases hc
    ·cases hc
   ·cases hc
  ·cases hc
 ·cases hc
end
end Go.Abs
namespace Go.Abs
def hold (G:Gh)(n:Nat):Gh:=fun b =>
 match G b with
 | .grow m (.cell id off)=>if id<n then .grow m (.cell id off) else .held m
 | .grow m _=> .held m
 | .obj id=>if id<n then .obj id else .held 0
 |x=>x
def unhold (G G1:Gh)(n:Nat):Gh:=fun b=>if hold G n b=G b then G1 b else G b
section
variable {G G1:Gh} {w w1:World} {n:Nat}
theorem Imm_hold (b o:Nat):Imm (hold G n) b o↔Imm G b o:=by
 unfold Imm hold
 cases h:G b with
 |grow m pl =>
  cases pl with
  |cell id off=>by_cases hid:id<n<;>simp [hid]
  |_=>simp
 |obj id=>by_cases hid:id<n<;>simp [hid]
 |_=>simp
theorem hold_ext:Ext G w (hold G n) w where
 os:=rfl
 tape:=rfl
 output:=rfl
 size:=Nat.le_refl _
 imm b o h:=⟨(Imm_hold b o).2 h,rfl⟩
 still b h:=⟨by rcases h with h|⟨m,h⟩<;>simp [hold,h],rfl⟩
 shape _ c _ _ h:=⟨c,h,rfl⟩
theorem hold_wf (h:WF G w):WF (hold G n) w:=fun b hb=>by simp [hold,h b hb]
theorem hold_obj {b id:Nat}(hid:id<n)(h:G b= .obj id):hold G n b= .obj id:=by simp [hold,h,hid]
theorem hold_cell {id off:Nat}(hid:id<n):Keeps (.cell id off) G w (hold G n) w:=fun b m hb=>⟨by simp [hold,hb,hid],rfl⟩
theorem hold_lab {b id:Nat}(h:hold G n b= .obj id):id<n:=by
 unfold hold at h
 cases hg:G b with
 |grow m pl =>
  rw [hg] at h
  cases pl with
  |cell i o=>simp only at h;split at h<;>cases h
  |_=>cases h
 |obj i =>
  rw [hg] at h
  simp only at h
  split at h
  ·cases h;assumption
  ·cases h
 |_=>rw [hg] at h;cases h
theorem hidden {b:Nat}(h:hold G n b≠G b):∃ m,hold G n b= .held m:=by
 unfold hold at h ⊢
 cases hg:G b with
 |grow m pl =>
  simp only [hg] at h ⊢
  cases pl<;>simp at h ⊢
  rename_i id off
  rw [if_neg (by omega)]
  exact ⟨m,rfl⟩
 |obj id =>
  simp only [hg] at h ⊢
  simp at h
  rw [if_neg (by omega)]
  exact ⟨0,rfl⟩
 |_=>simp [hg] at h
theorem unhold_kept {b:Nat}(he:Ext (hold G n) w G1 w1)(h:hold G n b≠G b):unhold G G1 n b=G b∧w1.heap[b]? =w.heap[b]? ∧G1 b=hold G n b:=by
 obtain ⟨m,hm⟩:=hidden h
 obtain ⟨h1,h2⟩:=he.still b (Or.inr ⟨m,hm⟩)
 exact ⟨by simp [unhold,h],h2,h1⟩
theorem unhold_same {b:Nat}(h:hold G n b=G b):unhold G G1 n b=G1 b:=by simp [unhold,h]
theorem unhold_ext (he:Ext (hold G n) w G1 w1):Ext G w (unhold G G1 n) w1 where
 os:=he.os
 tape:=he.tape
 output:=he.output
 size:=he.size
 imm b o h:=by
  obtain ⟨h1,h2⟩:=he.imm b o ((Imm_hold b o).2 h)
  refine ⟨?_,h2⟩
  by_cases hh:hold G n b=G b
  ·unfold Imm at h1 ⊢;rw [unhold_same hh];exact h1
  ·unfold Imm at h ⊢;rw [(unhold_kept he hh).1];exact h
 still b h:=by
  have hh:hold G n b=G b:=by rcases h with h|⟨m,h⟩<;>simp [hold,h]
  obtain ⟨h1,h2⟩:=he.still b (by rw [hh];exact h)
  exact ⟨by rw [unhold_same hh,h1,hh],h2⟩
 shape:=he.shape
theorem unhold_sub (he:Ext (hold G n) w G1 w1):Sub G1 w1 (unhold G G1 n) w1 where
 imm b o h:=by
  refine ⟨?_,rfl⟩
  by_cases hh:hold G n b=G b
  ·unfold Imm at h ⊢;rw [unhold_same hh];exact h
  ·obtain ⟨h1,h2,h3⟩:=unhold_kept he hh
   have:Imm (hold G n) b o:=by unfold Imm at h ⊢;rw [← h3];exact h
   have:=(Imm_hold b o).1 this
   unfold Imm at this ⊢;rw [h1];exact this
 shape _ c _ _ h:=⟨c,h,rfl⟩
theorem unhold_new (he:Ext (hold G n) w G1 w1){b:Nat}(h:∀ m,G1 b≠ .held m):unhold G G1 n b=G1 b:=by
 by_cases hh:hold G n b=G b
 ·exact unhold_same hh
 ·obtain ⟨_,_,h3⟩:=unhold_kept he hh
  obtain ⟨m,hm⟩:=hidden hh
  exact absurd (h3.trans hm) (h m)
theorem unhold_grow (he:Ext (hold G n) w G1 w1)(q:Place):Keeps q G1 w1 (unhold G G1 n) w1 :=
 fun b m hb=>⟨by rw [unhold_new he (by intro m';rw [hb];simp)];exact hb,rfl⟩
theorem unhold_slot (he:Ext (hold G n) w G1 w1){q:Place}(hq:∀ id off,q= .cell id off→n≤id):Keeps q G w (unhold G G1 n) w1:=by
 intro b m hb
 have hh:hold G n b≠G b:=by
  unfold hold
  rw [hb]
  cases q with
  |cell id off=>have:=hq id off rfl;simp;omega
  |_=>simp
 obtain ⟨h1,h2,_⟩:=unhold_kept he hh
 exact ⟨h1.trans hb,h2⟩
theorem unhold_hid (he:Ext (hold G n) w G1 w1){id:Nat}(hid:n≤id):∀ b,G b= .obj id→unhold G G1 n b= .obj id∧w1.heap[b]? =w.heap[b]? :=by
 intro b hb
 have hh:hold G n b≠G b:=by unfold hold;rw [hb];simp;omega
 obtain ⟨h1,h2,_⟩:=unhold_kept he hh
 exact ⟨h1.trans hb,h2⟩
theorem unhold_wf (he:Ext (hold G n) w G1 w1)(hwf:WF G w)(h1:WF G1 w1):WF (unhold G G1 n) w1:=by
 intro b hb
 have hg:G b= .free:=hwf b (Nat.le_trans he.size hb)
 have hh:hold G n b=G b:=by simp [hold,hg]
 rw [unhold_same hh]
 exact h1 b hb
end
structure CPre (l:Lim)(H:Heap)(w:World)(G:Gh)(I:Inj)(N:Nat→Prop)(args:List AVal)(vargs:Array Value):Prop where
 args:VRs G I N w args vargs.toList
 hr:HR G I N w H
 wf:WF G w
 nsub:∀ id,N id→id<H.length
 disc:Disc l H
 base:l.base≤H.length
 strict:l.strict≤l.base
 lab:∀ b id:Nat,G b= .obj id→id<H.length
structure CPost (l:Lim)(H:Heap)(w:World)(G:Gh)(I:Inj)(N:Nat→Prop)(v:AVal)(H1:Heap)(x:Value)(w' :World)(G' :Gh)(I' :Inj)(N' :Nat→Prop):Prop where
 val:VR G' I' N' w' .ret v x
 hr:HR G' I' N' w' H1
 wf:WF G' w'
 ext:Ext G w G' w'
 pres:Pres l G w G' w'
 inj:∀ id,id<H.length→N id→I' id=I id
 mono:∀ id,N id→N' id
 old:∀ id,id<H.length→N' id→N id
 nsub:∀ id,N' id→id<H1.length
 hle:∀ (id:Nat) (o' :AObj),id<l.base→H1[id]? =some o' →o'.bnd≤id+1∨∃ o:AObj,H[id]? =some o∧o'.bnd≤o.bnd
 disc:Disc l H1
def CallOK (P:Program)(cf:CallF)(prom:FuncId→Bool):Prop :=
 ∀ f args H l v H1,cf f args H l=some (v,H1)→∀ w G I N vargs,CPre l H w G I N args vargs→(prom f=false→l.base=H.length) →
  Calls P f vargs w fun e w' =>∃ x G' I' N',e= .returned x∧CPost l H w G I N v H1 x w' G' I' N'
def canCall (P:Program)(f:FuncId):Bool :=
 match P.funcs[f]? with
 | some fn => fn.name != "runtime.NumGoroutine" && fn.body.isSome
 |none=>false
theorem run_callFunc {P:Program}{w:World}{f:FuncId}(h:canCall P f=true)(args:Array Value):(callFunc f args).run P w= .ok (.enter f args) w:=by
 unfold canCall at h
 split at h
 ·rename_i fn hfn
  simp only [Bool.and_eq_true,bne_iff_ne] at h
  obtain ⟨c,hc⟩:=Option.isSome_iff_exists.1 h.2
  simp [callFunc,hfn,h.1,hc]
 ·cases h
end Go.Abs
namespace Go.Abs
theorem bndO_mem:∀ (l:List AObj) (i:Nat) (o:AObj),l[i]? =some o→o.bnd≤bndO l
 |[],_,_,h=>by simp at h
 |v::vs,0,o,h=>by simp at h;subst h;simp only [bndO];omega
 |v::vs,i+1,o,h=>by have:=bndO_mem vs i o (by simpa using h);simp only [bndO];omega
theorem discFrom_mem:∀ (l:List AObj) (k i:Nat) (o:AObj),discFrom l k=true→l[i]? =some o→o.bnd≤k+i+1
 |[],_,_,_,_,h=>by simp at h
 |v::vs,k,0,o,hd,h=>by
  simp only [discFrom,Bool.and_eq_true,decide_eq_true_eq] at hd
  simp at h;subst h;omega
 |v::vs,k,i+1,o,hd,h=>by
  simp only [discFrom,Bool.and_eq_true,decide_eq_true_eq] at hd
  have:=discFrom_mem vs (k+1) i o hd.2 (by simpa using h)
  omega
theorem take_drop_get {H:Heap}{n s i:Nat}{o:AObj}(hi:i<n)(hs:s≤i)(h:H[i]? =some o):((H.take n).drop s)[i - s]? =some o:=by
 rw [List.getElem?_drop,show s+(i - s)=i from by omega,List.getElem?_take_of_lt hi]
 exact h
theorem shown_bnd {l:Lim}{H:Heap}{n:Nat}(hd:Disc l H)(hc:bndO ((H.take n).drop l.strict)≤n){id:Nat}{o:AObj}(hid:id<n)(h:H[id]? =some o):o.bnd≤n:=by
 by_cases hs:id<l.strict
 ·have:=(hd id o h).1 hs;omega
 ·have:=bndO_mem _ _ _ (take_drop_get (s:=l.strict) hid (by omega) h);omega
theorem strictOf_le (H:Heap)(s n:Nat):strictOf H s n≤n:=by
 unfold strictOf
 split
 ·omega
 ·split<;>omega
theorem shown_strict {l:Lim}{H:Heap}{n:Nat}(hd:Disc l H){id:Nat}{o:AObj}(hid:id<strictOf H l.strict n)(h:H[id]? =some o):o.bnd≤id+1:=by
 unfold strictOf at hid
 split at hid
 ·exact (hd id o h).1 (by omega)
 ·split at hid
  ·rename_i hdf
   by_cases hs:id<l.strict
   ·exact (hd id o h).1 hs
   ·have:=discFrom_mem _ _ _ _ hdf (take_drop_get (s:=l.strict) hid (by omega) h);omega
  ·exact (hd id o h).1 hid
theorem VR.anyplace {G:Gh}{I:Inj}{N:Nat→Prop}{w:World}{pl pl' :Place}{a:AVal}{x:Value}(ha:∀ z n c,a≠ .own z n c)(h:VR G I N w pl a x):VR G I N w pl' a x:=by
 cases a with
 |own z n c=>exact absurd rfl (ha z n c)
 |any=>simp only [VR]
 |_=>simpa only [VR] using h
structure CPostAt (pl:Place)(l:Lim)(H:Heap)(w:World)(G:Gh)(I:Inj)(N:Nat→Prop)(v:AVal)(H1:Heap)(x:Value)(w' :World)(G' :Gh)(I' :Inj)(N' :Nat→Prop):Prop where
 val:VR G' I' N' w' pl v x
 hr:HR G' I' N' w' H1
 wf:WF G' w'
 ext:Ext G w G' w'
 pres:Pres l G w G' w'
theorem CPost.at {l:Lim}{H:Heap}{w:World}{G:Gh}{I:Inj}{N:Nat→Prop}{v:AVal}{H1:Heap}{x:Value}{w' :World}{G' :Gh}{I' :Inj}{N' :Nat→Prop}
  (h:CPost l H w G I N v H1 x w' G' I' N') {pl:Place} (hp:pl≠ .none):∃ G2,CPostAt pl l H w G I N v H1 x w' G2 I' N' :=by
 by_cases ho:∃ z n c,v= .own z n c
 ·obtain ⟨z,n,c,rfl⟩:=ho
  obtain ⟨G2,hm,hv⟩:=own_move hp h.val
  refine ⟨G2,hv,h.hr.moved hm (by simp),hm.wf h.wf,h.ext.trans hm.ext,h.pres.trans fun id _=>⟨fun b hb=>⟨hm.obj b id hb,rfl⟩,fun off=>hm.keeps _ (by simp)⟩⟩
 ·exact ⟨G',h.val.anyplace (fun z n c e=>ho ⟨z,n,c,e⟩),h.hr,h.wf,h.ext,h.pres⟩
section
variable {P:Program} {X:Cx} {l:Lim} {S:Nat→Prop} {st:RSt} {a:Act} {w w1:World} {G G1:Gh} {I I1:Inj} {N N1:Nat→Prop}
structure Called (X:Cx)(l:Lim)(S:Nat→Prop)(entry:Nat)(st:RSt)(a:Act)(w:World)(G:Gh)(I:Inj)(N:Nat→Prop)
  (st' :RSt) (k:Nat) (x' :Value) (w' :World) (G' :Gh) (I' :Inj) (N' :Nat→Prop):Prop where
 mid:Mid X l S entry st a w G I N st' k x' w' G' I' N'
 nsub:∀ id,N' id→id<st'.H.length
 old:∀ id,id<st.H.length→N' id→N id
theorem called_low (h:RI X l S st a w G I N)(hns:∀ id,N id→id<st.H.length){k:Nat}(hk:¬ S k)(hkl:k<st.L.length)(entry:Nat){n m:Nat}(hn:n≤st.H.length)(hm:m≤n)
  {l' :Lim} (hl' :l'.base=n) (hmay:∀ id,id<n→l.may id=false→l'.may id=false) (hmay' :∀ id,m≤id→id<n→l'.may id=false)
  {v:AVal} {H1:Heap} {x:Value} (hlen:H1.length=n) (hc:CPost l' (st.H.take n) w (hold G n) I (fun i=>N i∧i<n) v H1 x w1 G1 I1 N1) {tch:List Touch} (htch:∀ id,tch.any (Touch.objHit id)=false→m≤id) :
  ∃ G' I',Called X l S entry st a w G I N (put { st with H:=H1.take m++st.H.drop m,tch } k v) k x w1 G' I' N:=by
 have htl:(st.H.take n).length=n:=by simp;omega
 have hN1:∀ id,N1 id→N id∧id<n:=fun id hid=>by
  have:=hc.nsub id hid
  exact hc.old id (by rw [htl];omega) hid
 have hI1:∀ id,N id→id<n→I1 id=I id:=fun id hid hlt=>hc.inj id (by rw [htl];exact hlt) ⟨hid,hlt⟩
 obtain ⟨G2,hp⟩:=hc.at (pl:= .loc k) (by simp)
 have hx:=unhold_ext hp.ext
 have keepObj:∀ id,m≤id→∀ b,G b= .obj id→unhold G G2 n b= .obj id∧w1.heap[b]? =w.heap[b]? :=by
  intro id hid b hb
  by_cases hlt:id<n
  ·obtain ⟨g1,g2⟩:=(hp.pres id (hmay' id hid hlt)).1 b (hold_obj hlt hb)
   exact ⟨by rw [unhold_new hp.ext (by intro m';rw [g1];simp)];exact g1,g2⟩
  ·exact unhold_hid hp.ext (by omega) b hb
 have keepCell:∀ id,m≤id→∀ off,Keeps (.cell id off) G w (unhold G G2 n) w1:=by
  intro id hid off
  by_cases hlt:id<n
  ·intro b q hb
   obtain ⟨g1,_⟩:=hold_cell (G:=G) (w:=w) (off:=off) hlt b q hb
   obtain ⟨g3,g4⟩:=(hp.pres id (hmay' id hid hlt)).2 off b q g1
   exact ⟨by rw [unhold_new hp.ext (by intro m';rw [g3];simp)];exact g3,g4⟩
  ·exact unhold_slot hp.ext (by intro id' off' e;cases e;omega)
 have getL:∀ id o',(H1.take m++st.H.drop m)[id]? =some o' →(id<m∧H1[id]? =some o')∨(m≤id∧st.H[id]? =some o'):=by
  intro id o' ho'
  by_cases hlt:id<m
  ·rw [List.getElem?_append_left (by simp;omega),List.getElem?_take_of_lt hlt] at ho'
   exact Or.inl ⟨hlt,ho'⟩
  ·rw [List.getElem?_append_right (by simp;omega),List.getElem?_drop] at ho'
   rw [show m+(id - (H1.take m).length)=id from by simp;omega] at ho'
   exact Or.inr ⟨by omega,ho'⟩
 have hle:∀ id o',(H1.take m++st.H.drop m)[id]? =some o' →o'.bnd≤id+1∨∃ o:AObj,st.H[id]? =some o∧o'.bnd≤o.bnd:=by
  intro id o' ho'
  rcases getL id o' ho' with ⟨hlt,ho⟩|⟨_,ho⟩
  ·rcases hc.hle id o' (by omega) ho with hb|⟨o,h1,h2⟩
   ·exact Or.inl hb
   ·rw [List.getElem?_take_of_lt (by omega)] at h1
    exact Or.inr ⟨o,h1,h2⟩
  ·exact Or.inr ⟨o',ho,Nat.le_refl _⟩
 have hlenH:(H1.take m++st.H.drop m).length=st.H.length:=by simp;omega
 have hII:∀ id,N id→I1 id=I id∨n≤id:=fun id hid=>by
  by_cases hlt:id<n
  ·exact Or.inl (hI1 id hid hlt)
  ·exact Or.inr (by omega)
 refine ⟨unhold G G2 n,fun id=>if id<n then I1 id else I id,?_,?_,?_⟩
 ·have hIo:∀ id,N id→(if id<n then I1 id else I id)=I id:=by
   intro id hid
   split
   ·rename_i hlt;exact hI1 id hid hlt
   ·rfl
  have hIn:∀ id,N1 id→(if id<n then I1 id else I id)=I1 id:=by
   intro id hid
   rw [if_pos (hN1 id hid).2]
  have hNn:∀ id,N1 id→N id:=fun id hid=>(hN1 id hid).1
  refine ⟨⟨?_,?_,?_,unhold_wf hp.ext h.wf hp.wf,?_⟩,?_,hx,?_,?_,fun id _ hN=>hIo id hN,fun _ h=>h,?_,?_⟩
  ·intro s t ht
   exact VR.mono hx hIo (fun _ h=>h) _ _ _ (Or.inr (unhold_slot hp.ext (by simp))) (h.T s t ht)
  ·intro j hj d hd hnn
   have:k≠j:=by rintro rfl;exact hk hj
   simp only [Abs.put]
   rw [getD_set_other _ _ _ _ _ this]
   exact VR.mono hx hIo (fun _ h=>h) _ _ _ (Or.inr (unhold_slot hp.ext (by simp))) (h.L j hj d hd hnn)
  ·intro id o' ho'
   rcases getL id o' ho' with ⟨hlt,ho⟩|⟨hge,ho⟩
   ·refine OR.mono (unhold_sub hp.ext) hIn hNn id o' (fun hb=> ?_) (fun off=>unhold_grow hp.ext _) (hp.hr id o' ho)
    exact ⟨by rw [unhold_new hp.ext (by intro m';rw [hb];simp)];exact hb,rfl⟩
   ·exact OR.mono hx hIo (fun _ h=>h) id o' (fun hb=>keepObj id hge _ hb) (keepCell id hge) (h.H id o' ho)
  ·intro id o' ho'
   rcases hle id o' ho' with hb|⟨o,h1,h2⟩
   ·exact ⟨fun _=>hb,fun _=>by omega⟩
   ·obtain ⟨d1,d2⟩:=h.disc id o h1
    exact ⟨fun hh=>by have:=d1 hh;omega,fun hh=>by have:=d2 hh;omega⟩
  ·simp only [Abs.put]
   rw [getD_set_same _ _ _ _ hkl]
   exact VR.mono (unhold_sub hp.ext) hIn hNn _ _ _ (Or.inr (unhold_grow hp.ext _)) hp.val
  ·intro id hid
   by_cases hlt:id<n
   ·obtain ⟨p1,p2⟩:=hp.pres id (hmay id hlt hid)
    refine ⟨fun b hb=> ?_,fun off b q hb=> ?_⟩
    ·obtain ⟨g1,g2⟩:=p1 b (hold_obj hlt hb)
     exact ⟨by rw [unhold_new hp.ext (by intro m';rw [g1];simp)];exact g1,g2⟩
    ·obtain ⟨g1,_⟩:=hold_cell (G:=G) (w:=w) (off:=off) hlt b q hb
     obtain ⟨g3,g4⟩:=p2 off b q g1
     exact ⟨by rw [unhold_new hp.ext (by intro m';rw [g3];simp)];exact g3,g4⟩
   ·exact ⟨unhold_hid hp.ext (by omega),fun off=>unhold_slot hp.ext (by intro id' off' e;cases e;omega)⟩
  ·intro id hN ht
   exact ⟨hIo id hN,keepObj id (htch id ht)⟩
  ·simp only [Abs.put];omega
  ·intro id o' _ ho'
   exact hle id o' ho'
 ·intro id hid
  simp only [Abs.put]
  rw [hlenH]
  exact hns id hid
 ·intro id _ hid
  exact hid
theorem called_all (h:RI X l S st a w G I N)(hns:∀ id,N id→id<st.H.length){k:Nat}(hk:¬ S k)(hkl:k<st.L.length)(entry:Nat)
  {v:AVal} {H1:Heap} {x:Value} (hlen:st.H.length≤H1.length) (hc:CPost l st.H w (hold G st.H.length) I N v H1 x w1 G1 I1 N1) {tch:List Touch} (htch:∀ id,tch.any (Touch.objHit id)=false→st.H.length≤id) :
  ∃ G',Called X l S entry st a w G I N (put { st with H:=H1,tch } k v) k x w1 G' I1 N1:=by
 obtain ⟨G2,hp⟩:=hc.at (pl:= .loc k) (by simp)
 have hx:=unhold_ext hp.ext
 have hIo:∀ id,N id→I1 id=I id:=fun id hid=>hc.inj id (hns id hid) hid
 refine ⟨unhold G G2 st.H.length,?_,hc.nsub,hc.old⟩
 refine ⟨⟨?_,?_,?_,unhold_wf hp.ext h.wf hp.wf,hc.disc⟩,?_,hx,?_,?_,fun id _ hN=>hIo id hN,hc.mono,hlen,fun id o' hb ho' =>hc.hle id o' hb ho'⟩
 ·intro s t ht
  exact VR.mono hx hIo hc.mono _ _ _ (Or.inr (unhold_slot hp.ext (by simp))) (h.T s t ht)
 ·intro j hj d hd hnn
  have:k≠j:=by rintro rfl;exact hk hj
  simp only [Abs.put]
  rw [getD_set_other _ _ _ _ _ this]
  exact VR.mono hx hIo hc.mono _ _ _ (Or.inr (unhold_slot hp.ext (by simp))) (h.L j hj d hd hnn)
 ·intro id o' ho'
  refine OR.mono (unhold_sub hp.ext) (fun _ _=>rfl) (fun _ h=>h) id o' (fun hb=> ?_) (fun off=>unhold_grow hp.ext _) (hp.hr id o' ho')
  exact ⟨by rw [unhold_new hp.ext (by intro m';rw [hb];simp)];exact hb,rfl⟩
 ·simp only [Abs.put]
  rw [getD_set_same _ _ _ _ hkl]
  exact VR.mono (unhold_sub hp.ext) (fun _ _=>rfl) (fun _ h=>h) _ _ _ (Or.inr (unhold_grow hp.ext _)) hp.val
 ·intro id hid
  by_cases hlt:id<st.H.length
  ·obtain ⟨p1,p2⟩:=hp.pres id hid
   refine ⟨fun b hb=> ?_,fun off b q hb=> ?_⟩
   ·obtain ⟨g1,g2⟩:=p1 b (hold_obj hlt hb)
    exact ⟨by rw [unhold_new hp.ext (by intro m';rw [g1];simp)];exact g1,g2⟩
   ·obtain ⟨g1,_⟩:=hold_cell (G:=G) (w:=w) (off:=off) hlt b q hb
    obtain ⟨g3,g4⟩:=p2 off b q g1
    exact ⟨by rw [unhold_new hp.ext (by intro m';rw [g3];simp)];exact g3,g4⟩
  ·exact ⟨unhold_hid hp.ext (by omega),fun off=>unhold_slot hp.ext (by intro id' off' e;cases e;omega)⟩
 ·intro id hN ht
  have:=hns id hN
  have:=htch id ht
  omega
theorem may_forbid {l:Lim}{a b base strict id:Nat}(h:l.may id=false∨(a≤id∧id<b)):(l.forbid a b base strict).may id=false:=by
 unfold Lim.forbid Lim.may at *
 simp only [Bool.or_eq_false_iff,decide_eq_false_iff_not] at *
 split<;>simp only<;>omega
theorem forbid_base (l:Lim)(a b base strict:Nat):(l.forbid a b base strict).base=base∧(l.forbid a b base strict).strict=strict:=by
 unfold Lim.forbid
 split<;>simp
theorem eff_callF {E:Env}(hcf:CallOK P E.cf E.prom)(hE:E.lim=l)(h:RI X l S st a w G I N)(hns:∀ id,N id→id<st.H.length)(hb:l.base≤st.H.length)(hs:l.strict≤l.base)
  {k:Nat} (hk:¬ S k) (hkl:k<st.L.length) (entry:Nat) {f:FuncId} {args:List AVal} {vargs:Array Value} (hargs:VRs G I N w args vargs.toList) {st' :RSt} (he:callEff E k f args st=some st') :
  Calls P f vargs w fun e w' =>∃ x G' I' N',e= .returned x∧Called X l S entry st a w G I N st' k x w' G' I' N' :=by
 subst hE
 unfold callEff at he
 split at he
 ·rename_i hprom
  split at he
  ·rename_i v H1 hcall
   split at he
   ·rename_i hlen
    cases he
    refine Calls.mono (hcf f args st.H E.lim v H1 hcall w (hold G st.H.length) I N vargs ⟨?_,?_,hold_wf h.wf,hns,h.disc,hb,hs,fun _ _=>hold_lab⟩ (by rw [hprom];simp)) ?_
    ·exact VRs.mono hold_ext.sub (fun _ _=>rfl) (fun _ h=>h) _ _ hargs
    ·intro id o ho
     have hlt:=lt_of_getElem? ho
     exact OR.mono hold_ext.sub (fun _ _=>rfl) (fun _ h=>h) id o (fun hb=>⟨hold_obj hlt hb,rfl⟩) (fun _=>hold_cell hlt) (h.H id o ho)
    ·rintro e w' ⟨x,G1,I1,N1,rfl,hc⟩
     obtain ⟨G',hd⟩:=called_all h hns hk hkl entry hlen hc (tch:= .below H1.length::st.tch) (by
      intro id ht
      simp [Touch.objHit] at ht
      omega)
     exact ⟨x,G',I1,N1,rfl,hd⟩
   ·cases he
  ·cases he
 ·rename_i hprom
  have hprom:E.prom f=false:=by simpa using hprom
  simp only at he
  generalize hnn:closeN st.H E.lim.strict 8 (bndL args)=n at he
  have hna:bndL args≤n:=by
   rw [← hnn]
   have:∀ (j m:Nat),m≤closeN st.H E.lim.strict j m:=by
    intro j
    induction j with
    |zero=>intro m;simp [closeN]
    |succ j ih =>
     intro m
     unfold closeN
     split
     ·omega
     ·simp only
      split
      ·omega
      ·exact Nat.le_trans (Nat.le_max_left _ _) (ih _)
   exact this 8 _
  split at he
  ·rename_i hcond
   obtain ⟨hn,hbO⟩:=hcond
   have htl:(st.H.take n).length=n:=by simp;omega
   have pre:∀ l' :Lim,l'.base=n→l'.strict=strictOf st.H E.lim.strict n→CPre l' (st.H.take n) w (hold G n) I (fun i=>N i∧i<n) args vargs:=by
    intro l' h1 h2
    refine ⟨?_,?_,hold_wf h.wf,fun id hid=>by rw [htl];exact hid.2,?_,by rw [htl,h1];exact Nat.le_refl _,by rw [h1,h2];exact strictOf_le _ _ _,fun b id hb=>by rw [htl];exact hold_lab hb⟩
    ·exact VRs.mono hold_ext.sub (fun _ _=>rfl) (fun _ h=>h) _ _ (VRs.low n _ _ hna hargs)
    ·intro id o ho
     have hlt:id<n:=by have:=lt_of_getElem? ho;omega
     rw [List.getElem?_take_of_lt hlt] at ho
     exact OR.mono hold_ext.sub (fun _ _=>rfl) (fun _ h=>h) id o (fun hb=>⟨hold_obj hlt hb,rfl⟩) (fun _=>hold_cell hlt) (OR.low hlt o (shown_bnd h.disc hbO hlt ho) (h.H id o ho))
    ·intro id o ho
     have hlt:id<n:=by have:=lt_of_getElem? ho;omega
     rw [List.getElem?_take_of_lt hlt] at ho
     rw [h1,h2]
     exact ⟨fun hh=>shown_strict h.disc hh ho,fun _=>shown_bnd h.disc hbO hlt ho⟩
   split at he
   ·split at he
    ·rename_i v H1 hcall
     split at he
     ·rename_i hlen
      cases he
      refine Calls.mono (hcf f args _ _ v H1 hcall w (hold G n) I _ vargs (pre _ rfl rfl) (fun _=>htl.symm)) ?_
      rintro e w' ⟨x,G1,I1,N1,rfl,hc⟩
      obtain ⟨G',I',hd⟩:=called_low (l' :={ E.lim with base:=n,strict:=strictOf st.H E.lim.strict n }) h hns hk hkl entry hn (Nat.le_refl n) rfl (fun id _ hid=>hid) (fun id h1 h2=>by omega) hlen hc (tch:= .below n::st.tch) (by
       intro id ht
       simp [Touch.objHit] at ht
       omega)
      rw [← hlen,List.take_length,hlen] at hd
      exact ⟨x,G',I',N,rfl,hd⟩
     ·cases he
    ·cases he
   ·split at he
    ·rename_i v H1 hcall
     split at he
     ·rename_i hlen
      cases he
      refine Calls.mono (hcf f args _ _ v H1 hcall w (hold G n) I _ vargs (pre _ rfl rfl) (fun _=>htl.symm)) ?_
      rintro e w' ⟨x,G1,I1,N1,rfl,hc⟩
      obtain ⟨G',I',hd⟩:=called_low (l' :=⟨0,n,n,strictOf st.H E.lim.strict n⟩) h hns hk hkl entry hn (Nat.zero_le n) rfl (fun id h1 _=>by simp [Lim.may];omega) (fun id _ h2=>by simp [Lim.may];omega) hlen hc (tch:=st.tch) (by intros;omega)
      refine ⟨x,G',I',N,rfl,?_⟩
      simpa using hd
     ·cases he
    ·cases he
   ·split at he
    ·rename_i v H1 hcall
     split at he
     ·rename_i hlen
      cases he
      refine Calls.mono (hcf f args _ _ v H1 hcall w (hold G n) I _ vargs (pre _ (forbid_base _ _ _ _ _).1 (forbid_base _ _ _ _ _).2) (fun _=>by rw [(forbid_base _ _ _ _ _).1,htl])) ?_
      rintro e w' ⟨x,G1,I1,N1,rfl,hc⟩
      obtain ⟨G',I',hd⟩:=called_low h hns hk hkl entry hn hlen.2 (forbid_base _ _ _ _ _).1 (fun id _ hid=>may_forbid (Or.inl hid)) (fun id h1 h2=>may_forbid (Or.inr ⟨h1,h2⟩)) hlen.1 hc (tch:= .below (args.headD .any).bnd::st.tch) (by
       intro id ht
       simp [Touch.objHit] at ht
       simpa using ht.1)
      exact ⟨x,G',I',N,rfl,hd⟩
     ·cases he
    ·cases he
  ·cases he
end
end Go.Abs
namespace Go.Abs
structure Tr (N:Nat→Prop)(k:Nat)(st st' :RSt):Prop where
 tch:∀ p:Touch→Bool,st.tch.any p=true→st'.tch.any p=true
 L:∀ m id off:Nat,m≠k→st'.L[m]? =some (AVal.ptr id off)→st.L[m]? =some (AVal.ptr id off)
 T:∀ s id off:Nat,st'.T[s]? =some (AVal.ptr id off)→st.T[s]? =some (AVal.ptr id off)
 H:∀ (id:Nat) (l' :List AVal),N id→st'.tch.any (Touch.objHit id)=false→st'.H[id]? =some (AObj.cells l')→∃ l:List AVal,st.H[id]? =some (AObj.cells l)∧l.length=l'.length
 lenT:st'.T.length=st.T.length
 lenL:st'.L.length=st.L.length
 skp:∀ m:Nat,m≠k→st.L[m]? =some (AVal.tuple [])→st'.L[m]? =some (AVal.tuple [])
section
variable {N:Nat→Prop} {k:Nat} {st st1 st' :RSt}
theorem Tr.refl (N:Nat→Prop)(k:Nat)(st:RSt):Tr N k st st :=
 ⟨fun _ h=>h,fun _ _ _ _ h=>h,fun _ _ _ h=>h,fun _ l _ _ h=>⟨l,h,rfl⟩,rfl,rfl,fun _ _ h=>h⟩
theorem not_any_of {t t' :List Touch}(h:∀ p:Touch→Bool,t.any p=true→t'.any p=true){p:Touch→Bool}(h' :t'.any p=false):t.any p=false:=by
 cases he:t.any p with
 |false=>rfl
 |true=>rw [h p he] at h';cases h'
theorem Tr.trans (a:Tr N k st st1)(b:Tr N k st1 st'):Tr N k st st' where
 tch p h:=b.tch p (a.tch p h)
 L m id off hm h:=a.L m id off hm (b.L m id off hm h)
 T s id off h:=a.T s id off (b.T s id off h)
 H id l' hN ht h:=by
  obtain ⟨l1,h1,e1⟩:=b.H id l' hN ht h
  obtain ⟨l,h2,e2⟩:=a.H id l1 hN (not_any_of b.tch ht) h1
  exact ⟨l,h2,e2.trans e1⟩
 lenT:=b.lenT.trans a.lenT
 lenL:=b.lenL.trans a.lenL
 skp m hm h:=b.skp m hm (a.skp m hm h)
theorem Tr.put (v:AVal):Tr N k st (put st k v) where
 tch _ h:=h
 L m id off hm h:=by
  simp only [Abs.put] at h
  rw [List.getElem?_set_ne (fun e=>hm e.symm)] at h
  exact h
 T _ _ _ h:=h
 H _ l _ _ h:=⟨l,h,rfl⟩
 lenT:=rfl
 lenL:=by simp [Abs.put]
 skp m hm h:=by
  simp only [Abs.put]
  rw [List.getElem?_set_ne (fun e=>hm e.symm)]
  exact h
theorem set_d_ptr {l:List AVal}{j m id off:Nat}{x:Data}(h:(l.set j (.d x))[m]? =some (.ptr id off)):l[m]? =some (.ptr id off):=by
 by_cases hj:j=m
 ·subst hj
  rcases Nat.lt_or_ge j l.length with hl|hl
  ·rw [List.getElem?_set_self hl] at h;cases h
  ·rw [List.getElem?_eq_none (by simpa using hl)] at h;cases h
 ·rwa [List.getElem?_set_ne hj] at h
theorem set_own_skp {l:List AVal}{j m:Nat}{z n:Nat}{c:List Data}{v:AVal}(hj:l[j]? =some (.own z n c))(h:l[m]? =some (AVal.tuple [])):(l.set j v)[m]? =some (AVal.tuple []):=by
 have:j≠m:=by rintro rfl;rw [hj] at h;cases h
 rw [List.getElem?_set_ne this];exact h
theorem Tr.xfer (y:Opd):Tr N k st (xfer st y).2:=by
 cases y with
 |loc j =>
  simp only [Abs.xfer]
  split
  ·rename_i hj
   exact ⟨fun _ h=>h,fun m id off _ h=>set_d_ptr h,fun _ _ _ h=>h,fun _ l _ _ h=>⟨l,h,rfl⟩,rfl,by simp,fun _ _ h=>set_own_skp hj h⟩
  ·exact Tr.refl _ _ _
  ·exact Tr.refl _ _ _
 |slot s=>exact Tr.refl _ _ _
 |const v=>exact Tr.refl _ _ _
theorem Tr.newObj {nid:Option Nat}(hi:∀ i,nid=some i→i<st.H.length)(hn:¬ N (newId st nid))(o:AObj):Tr N k st (newObjA st nid o) where
 tch p h:=by cases nid<;>exact h
 L m id off _ h:=by cases nid<;>exact h
 T s id off h:=by cases nid<;>exact h
 H id l' hN _ h:=by
  rcases newObjA_get hi o id _ h with ⟨rfl,_⟩|⟨_,h⟩
  ·exact absurd hN hn
  ·exact ⟨l',h,rfl⟩
 lenT:=by cases nid<;>rfl
 lenL:=by cases nid<;>rfl
 skp m _ h:=by cases nid<;>exact h
theorem Tr.heap {H' :Heap}{tch:List Touch}(h1:∀ p:Touch→Bool,st.tch.any p=true→tch.any p=true)(h2:∀ id,N id→tch.any (Touch.objHit id)=false→H'[id]? =st.H[id]?):Tr N k st { st with H:=H',tch } where
 tch:=h1
 L _ _ _ _ h:=h
 T _ _ _ h:=h
 H id l' hN ht h:=by
  simp only at h
  rw [h2 id hN ht] at h
  exact ⟨l',h,rfl⟩
 lenT:=rfl
 lenL:=rfl
 skp _ _ h:=h
theorem Tr.takeVia {l:Lim}{sz len:Nat}{cells:List Data}{op:AOp}(h:takeVia l st sz op=some (len,cells,st')):Tr N k st st' :=by
 unfold Abs.takeVia at h
 split at h
 ·split at h
  ·cases h
  ·split at h
   ·split at h
    ·cases h
     exact ⟨fun p hp=>by simp only [List.any_cons,hp,Bool.or_true],fun _ _ _ _ h=>h,fun s id off h=>set_d_ptr h,fun _ l _ _ h=>⟨l,h,rfl⟩,by simp,rfl,fun _ _ h=>h⟩
    ·cases h
   ·cases h
 ·split at h
  ·rename_i id off hptr
   split at h
   ·cases h
   ·split at h
    ·rename_i cs hcs
     split at h
     ·split at h
      ·cases h
       refine ⟨fun p hp=>by simp only [List.any_cons,hp,Bool.or_true],fun _ _ _ _ h=>h,fun _ _ _ h=>h,fun id' l' _ _ h=> ?_,rfl,rfl,fun _ _ h=>h⟩
       simp only at h
       by_cases he:id=id'
       ·subst he
        rw [List.getElem?_set_self (lt_of_getElem? hcs)] at h
        cases h
        exact ⟨cs,hcs,by simp⟩
       ·rw [List.getElem?_set_ne he] at h
        exact ⟨l',h,rfl⟩
      ·cases h
     ·cases h
    ·cases h
  ·cases h
 ·cases h
theorem Tr.takeOwn {l:Lim}{ais:List AIns}{sz len:Nat}{cells:List Data}{y:Opd}(h:takeOwn l ais st sz y=some (len,cells,st')):Tr N k st st' :=by
 unfold Abs.takeOwn at h
 split at h
 ·split at h
  ·cases h;exact Tr.refl _ _ _
  ·cases h
 ·cases h
 ·cases h
 ·split at h
  ·rename_i hj
   split at h
   ·cases h
    exact ⟨fun _ h=>h,fun m id off _ h=>set_d_ptr h,fun _ _ _ h=>h,fun _ l _ _ h=>⟨l,h,rfl⟩,rfl,by simp,fun _ _ h=>set_own_skp hj h⟩
   ·cases h
  ·split at h
   ·exact Tr.takeVia h
   ·cases h
  ·cases h
theorem kill_ptr {v:AVal}{id i o:Nat}(h:v.kill id= .ptr i o):v= .ptr i o:=by
 cases v<;>simp only [AVal.kill] at h<;>first|(cases h;done)|(split at h<;>first|(cases h;done)|exact h)|exact h
theorem killL_ptr {l:List AVal}{id m i o:Nat}(h:(killL id l)[m]? =some (.ptr i o)):l[m]? =some (.ptr i o):=by
 rw [killL_get] at h
 cases hl:l[m]? with
 |none=>rw [hl] at h;cases h
 |some v =>
  rw [hl] at h
  simp only [Option.map_some,Option.some.injEq] at h
  rw [kill_ptr h]
theorem Tr.appendObj {E:Env}{sz bytes id lo len:Nat}{y:AVal}(h:appendObj E k sz bytes st id lo len y=some st'):Tr N k st st' :=by
 unfold Abs.appendObj at h
 split at h
 ·split at h
  ·rename_i l0 m cs hl0 _
   split at h
   ·cases h
    refine Tr.trans ?_ (Tr.put _)
    refine ⟨fun p hp=>by simp only [List.any_cons,hp,Bool.or_true],fun m' i o _ h=>killL_ptr h,fun s i o h=>killL_ptr h,fun id' l' _ ht h=> ?_,by simp [killL_len],by simp [killL_len],fun m' _ h=>by simp only [killL_get,h,Option.map_some,AVal.kill,killL]⟩
    have hne:id' ≠id:=by rintro rfl;simp [Touch.objHit] at ht
    have h' :(killedH st.H E.lim.base id (.cells (killL id l0++cs)))[id']? =some (.cells l'):=h
    unfold killedH at h'
    rw [List.getElem?_set_ne (fun e=>hne e.symm)] at h'
    by_cases hb:id' <E.lim.base
    ·by_cases hlt:id' <st.H.length
     ·rw [List.getElem?_append_left (by simp;omega),List.getElem?_take_of_lt hb] at h'
      exact ⟨l',h',rfl⟩
     ·rw [List.getElem?_eq_none (by simp;omega)] at h';cases h'
    ·by_cases hlt:id' <st.H.length
     ·rw [List.getElem?_append_right (by simp;omega),List.getElem?_map,List.getElem?_drop] at h'
      rw [show E.lim.base+(id' - (List.take E.lim.base st.H).length)=id' from by simp;omega] at h'
      cases ho:st.H[id']? with
      |none=>rw [ho] at h';cases h'
      |some o =>
       rw [ho] at h'
       cases o<;>simp [AObj.kill] at h'
       rename_i l1
       exact ⟨l1,rfl,by rw [← h'];simp [killL_len]⟩
     ·rw [List.getElem?_eq_none (by simp;omega)] at h';cases h'
   ·cases h
  ·cases h
 ·cases h
theorem Tr.callEff {E:Env}{f:FuncId}{args:List AVal}(hns:∀ id,N id→id<st.H.length)(h:callEff E k f args st=some st'):Tr N k st st' :=by
 unfold Abs.callEff at h
 split at h
 ·split at h
  ·split at h
   ·cases h
    refine Tr.trans ?_ (Tr.put _)
    refine Tr.heap (fun p hp=>by simp only [List.any_cons,hp,Bool.or_true]) fun id hN ht=> ?_
    have:=hns id hN
    simp [Touch.objHit] at ht
    omega
   ·cases h
  ·cases h
 ·simp only at h
  generalize closeN st.H E.lim.strict 8 (bndL args)=n at h
  generalize (args.headD .any).bnd=m at h
  split at h
  ·rename_i hcond
   split at h
   ·split at h
    ·split at h
     ·rename_i hlen
      cases h
      refine Tr.trans ?_ (Tr.put _)
      refine Tr.heap (fun p hp=>by simp only [List.any_cons,hp,Bool.or_true]) fun id hN ht=> ?_
      have:=hns id hN
      simp [Touch.objHit] at ht
      rw [List.getElem?_append_right (by omega),List.getElem?_drop,hlen]
      congr 1;omega
     ·cases h
    ·cases h
   ·split at h
    ·split at h
     ·cases h
      exact Tr.put _
     ·cases h
    ·cases h
   ·split at h
    ·split at h
     ·rename_i hlen
      cases h
      refine Tr.trans ?_ (Tr.put _)
      refine Tr.heap (fun p hp=>by simp only [List.any_cons,hp,Bool.or_true]) fun id hN ht=> ?_
      have:=hns id hN
      simp [Touch.objHit] at ht
      rw [List.getElem?_append_right (by simp;omega),List.getElem?_drop]
      congr 1;simp;omega
     ·cases h
    ·cases h
  ·cases h
theorem wr_other {H H' :Heap}{id off:Nat}{vs:List AVal}(h:wr H id off vs=some H'){id' :Nat}(hne:id' ≠id):H'[id']? =H[id']? :=by
 unfold wr at h
 split at h
 ·split at h
  ·cases h
   rw [List.getElem?_set_ne (fun e=>hne e.symm)]
  ·cases h
 ·cases h
theorem Tr.storeEff {E:Env}{n:Nat}{a:AVal}{x:Opd}(h:storeEff E k n st a x=some st'):Tr N k st st' :=by
 unfold Abs.storeEff at h
 split at h
 ·split at h
  ·split at h
   ·split at h
    ·rename_i H' hw
     cases h
     refine Tr.trans (Tr.trans (Tr.xfer x) ?_) (Tr.put _)
     refine Tr.heap (fun p hp=>by simp only [List.any_cons,hp,Bool.or_true]) fun id' hN ht=> ?_
     refine wr_other hw ?_
     rintro rfl
     simp [Touch.objHit] at ht
    ·cases h
   ·cases h
  ·cases h
 ·cases h
theorem Tr.clearEff {E:Env}{sz:Nat}{zero:List AVal}{a:AVal}(h:clearEff E k sz zero st a=some st'):Tr N k st st' :=by
 unfold Abs.clearEff at h
 split at h
 ·split at h
  ·split at h
   ·rename_i H' hw
    cases h
    refine Tr.trans ?_ (Tr.put _)
    refine Tr.heap (fun p hp=>by simp only [List.any_cons,hp,Bool.or_true]) fun id' hN ht=> ?_
    refine wr_other hw ?_
    rintro rfl
    simp [Touch.objHit] at ht
   ·cases h
  ·cases h
 ·cases h
  exact Tr.put _
 ·cases h
theorem Tr.mapSetEff {E:Env}{kk:KK}{m key v:AVal}(h:mapSetEff E k kk st m key v=some st'):Tr N k st st' :=by
 unfold Abs.mapSetEff at h
 split at h
 ·split at h
  ·split at h
   ·split at h
    ·split at h
     ·cases h
      refine Tr.trans ?_ (Tr.put _)
      refine Tr.heap (fun p hp=>by simp only [List.any_cons,hp,Bool.or_true]) fun id' hN ht=> ?_
      rw [List.getElem?_set_ne]
      rintro rfl
      simp [Touch.objHit] at ht
     ·cases h
    ·cases h
   ·cases h
  ·cases h
 ·cases h
theorem Tr.appendOwn {E:Env}{ais:List AIns}{nid:Option Nat}{sz bytes:Nat}{ob:Bool}{x:Opd}{y:AVal}(hi:∀ i,nid=some i→i<st.H.length)(hn:¬ N (newId st nid))
  (h:appendOwn E ais nid k sz bytes ob st x y=some st'):Tr N k st st' :=by
 unfold Abs.appendOwn at h
 split at h
 ·split at h
  ·split at h
   ·split at h
    ·cases h;exact Tr.put _
    ·cases h;exact (Tr.newObj hi hn _).trans (Tr.put _)
   ·cases h
  ·split at h
   ·split at h
    ·rename_i ht
     split at h
     ·cases h;exact (Tr.takeOwn ht).trans (Tr.put _)
     ·cases h
    ·cases h
   ·cases h
 ·cases h
theorem Tr.appendNew {E:Env}{nid:Option Nat}{sz bytes id lo len:Nat}{y:AVal}(hi:∀ i,nid=some i→i<st.H.length)(h:appendNew E nid k sz bytes st id lo len y=some st')(hN:¬ N (newId st nid)):Tr N k st st' :=by
 unfold Abs.appendNew at h
 split at h
 ·split at h
  ·rename_i l0 m cs hl0 _
   split at h
   ·cases h
    have h1:Tr N k st { st with H:=st.H.set id .dead,tch:= .obj id::st.tch }:=by
     refine ⟨fun p hp=>by simp only [List.any_cons,hp,Bool.or_true],fun m' i o _ h=>h,fun s i o h=>h,fun id' l' hn ht h=> ?_,rfl,rfl,fun m' _ h=>h⟩
     have hne:id' ≠id:=by rintro rfl;simp [Touch.objHit] at ht
     have h' :(st.H.set id .dead)[id']? =some (.cells l'):=h
     rw [List.getElem?_set_ne (fun e=>hne e.symm)] at h'
     exact ⟨l',h',rfl⟩
    have e:newId { st with H:=st.H.set id .dead,tch:= .obj id::st.tch } nid=newId st nid:=by cases nid<;>simp [newId]
    exact (h1.trans (Tr.newObj (fun i h=>by simpa using hi i h) (by rw [e];exact hN) _)).trans (Tr.put _)
   ·cases h
  ·cases h
 ·cases h
theorem Tr.effOp {E:Env}{ais:List AIns}{nid:Option Nat}{op:AOp}(hns:∀ id,N id→id<st.H.length)(hi:∀ i,nid=some i→i<st.H.length)(hn:op.isAlloc=true→¬ N (newId st nid))
  (h:effOp E ais nid k st op=some st'):Tr N k st st' :=by
 cases op<;>simp only [Abs.effOp] at h<;>try (cases h;done)
 case alloc zero=>cases h;exact (Tr.newObj hi (hn rfl) _).trans (Tr.put _)
 case box x =>
  split at h
  ·cases h;exact (Tr.newObj hi (hn rfl) _).trans (Tr.put _)
  ·cases h
 case makeMap=>cases h;exact (Tr.newObj hi (hn rfl) _).trans (Tr.put _)
 case makeS sz zero x y =>
  split at h
  ·cases h;exact (Tr.newObj hi (hn rfl) _).trans (Tr.put _)
  ·cases h
 case bslice sz len zero parts ob =>
  cases ob
  ·cases h
  ·simp only at h
   split at h
   ·split at h
    ·cases h;exact (Tr.newObj hi (hn rfl) _).trans (Tr.put _)
    ·cases h
   ·cases h
 case store n a x=>exact Tr.storeEff h
 case appendN sz bytes x y =>
  split at h
  ·split at h
   ·exact Tr.appendNew hi h (hn rfl)
   ·cases h
  ·exact Tr.appendOwn hi (hn rfl) h
 case append sz bytes ob x y =>
  split at h
  ·split at h
   ·exact Tr.appendObj h
   ·cases h
  ·cases ob with
   |true=>exact Tr.appendOwn hi (hn rfl) h
   |false =>
    unfold Abs.appendOwn at h
    simp only [Bool.false_eq_true,if_false] at h
    split at h
    ·split at h
     ·split at h
      ·rename_i ht
       split at h
       ·cases h;exact (Tr.takeOwn ht).trans (Tr.put _)
       ·cases h
      ·cases h
     ·cases h
    ·cases h
 case clear sz zero x=>exact Tr.clearEff h
 case call f xs=>exact Tr.callEff hns h
 case callv x xs =>
  split at h
  ·exact Tr.callEff hns h
  ·cases h
 case mapSet=>exact Tr.mapSetEff h
 case defer x =>
  split at h
  ·split at h
   ·cases h;exact Tr.put _
   ·cases h
  ·cases h
theorem Tr.stepW {E:Env}{ais:List AIns}{nid:Option Nat}{op:AOp}{rs:List Nat}(hns:∀ id,N id→id<st.H.length)(hi:∀ i,nid=some i→i<st.H.length)(hn:op.isAlloc=true→¬ N (newId st nid))
  (h:stepW E ais nid k op st=some (st',rs)):Tr N k st st' :=by
 unfold Abs.stepW at h
 split at h
 ·split at h
  ·rename_i he
   cases h
   exact Tr.effOp hns hi hn he
  ·cases h
 ·split at h
  ·cases h
   exact (Tr.xfer _).trans (Tr.put _)
  ·split at h
   ·cases h
    exact Tr.put _
   ·cases h
end
end Go.Abs
namespace Go.Abs
section
variable {P:Program} {X:Cx} {l:Lim} {S:Nat→Prop} {st:RSt} {a:Act} {w w' :World} {G G' :Gh} {I I' :Inj} {N:Nat→Prop} {D:Nat→Bool}
theorem Ext.reobj {b id id' :Nat}(h:G b= .obj id):Ext G w (upd G b (.obj id')) w where
 os:=rfl
 tape:=rfl
 output:=rfl
 size:=Nat.le_refl _
 imm x o hi:=by
  have hne:x≠b:=by rintro rfl;simp [Imm,h] at hi
  refine ⟨?_,rfl⟩
  unfold Imm at hi ⊢
  rw [upd_other hne]
  exact hi
 still x hx:=by
  have:x≠b:=by rintro rfl;rw [h] at hx;rcases hx with hx|⟨m,hx⟩<;>cases hx
  exact ⟨upd_other this,rfl⟩
 shape _ c _ _ hc:=⟨c,hc,rfl⟩
theorem bndL_asD:∀ l:List AVal,bndL (l.map AVal.asD)≤bndL l
 |[]=>Nat.le_refl _
 |v::l=>by
  have h1:=bndL_asD l
  have h2:v.asD.bnd≤v.bnd:=by cases v<;>simp [AVal.asD,AVal.bnd]
  simp only [List.map_cons,bndL]
  omega
theorem Mid.renew (h:RI X l S st a w G I N){k:Nat}(hk:¬ S k)(hkl:k<st.L.length)(entry:Nat){nid:Option Nat}{id:Nat}{o0:AObj}(h0:st.H[id]? =some o0)(hid:IdOK l st N nid)(hmay:l.may id=true)
  (hx:Ext G w G' w') (hkp:∀ q,Keeps q G w G' w') (ho:∀ id',id' ≠id→∀ b,G b= .obj id' →G' b= .obj id' ∧w'.heap[b]? =w.heap[b]?) (hwf:WF G' w') (hI:∀ i,N i→I' i=I i)
  {cs:List AVal} (hobj:OR G' I' (fun i=>N i∨i=newId st nid) w' (newId st nid) (.cells cs)) {v:AVal} {x:Value} (hv:VR G' I' (fun i=>N i∨i=newId st nid) w' (.loc k) v x) (tch:List Touch) (htch:tch.any (Touch.objHit id)=true) :
  Mid X l S entry st a w G I N (put (newObjA { st with H:=st.H.set id .dead,tch } nid (.cells cs)) k v) k x w' G' I' (fun i=>N i∨i=newId st nid):=by
 have hidl:=lt_of_getElem? h0
 have hnw:newId { st with H:=st.H.set id .dead,tch } nid=newId st nid:=by cases nid<;>simp [newId]
 have hTT:(newObjA { st with H:=st.H.set id .dead,tch } nid (.cells cs)).T=st.T:=by cases nid<;>rfl
 have hLL:(newObjA { st with H:=st.H.set id .dead,tch } nid (.cells cs)).L=st.L:=by cases nid<;>rfl
 have hCC:(newObjA { st with H:=st.H.set id .dead,tch } nid (.cells cs)).tch=tch:=by cases nid<;>rfl
 have hlen:st.H.length≤(newObjA { st with H:=st.H.set id .dead,tch } nid (.cells cs)).H.length:=by cases nid<;>simp [newObjA]
 have hget:∀ (id' :Nat) o',(newObjA { st with H:=st.H.set id .dead,tch } nid (.cells cs)).H[id']? =some o' →(id' =newId st nid∧o' = .cells cs)∨(id' =id∧o' = .dead)∨(id' ≠id∧st.H[id']? =some o'):=by
  intro id' o' h'
  rcases newObjA_get (st:={ st with H:=st.H.set id .dead,tch }) (nid:=nid) (fun i hi=>by simpa using hid.inside i hi) _ id' o' h' with ⟨h1,h2⟩|⟨_,h2⟩
  ·exact Or.inl ⟨h1.trans hnw,h2⟩
  ·have h2:(st.H.set id .dead)[id']? =some o' :=h2
   by_cases he:id' =id
   ·subst he
    rw [List.getElem?_set_self hidl] at h2
    cases h2
    exact Or.inr (Or.inl ⟨rfl,rfl⟩)
   ·rw [List.getElem?_set_ne (fun e=>he e.symm)] at h2
    exact Or.inr (Or.inr ⟨he,h2⟩)
 have vr:∀ {pl:Place} {b:AVal} {u:Value},VR G I N w pl b u→VR G' I' (fun i=>N i∨i=newId st nid) w' pl b u :=
  fun hb=>VR.mono hx.sub hI (fun _ h=>Or.inl h) _ _ _ (Or.inr (hkp _)) hb
 refine ⟨⟨fun s t ht=>by simp only [Abs.put,hTT];exact vr (h.T s t ht),?_,?_,hwf,?_⟩,?_,hx,?_,?_,fun i _ hN=>hI i hN,fun _ h=>Or.inl h,?_,?_⟩
 ·intro j hj d hd hn
  have:k≠j:=by rintro rfl;exact hk hj
  simp only [Abs.put,hLL]
  rw [getD_set_other _ _ _ _ _ this]
  exact vr (h.L j hj d hd hn)
 ·intro id' o' ho'
  simp only [Abs.put] at ho'
  rcases hget id' o' ho' with ⟨rfl,rfl⟩|⟨rfl,rfl⟩|⟨hne,hold⟩
  ·exact hobj
  ·simp only [OR]
  ·exact OR.mono hx.sub hI (fun _ h=>Or.inl h) id' o' (fun hb=>ho id' hne _ hb) (fun _=>hkp _) (h.H id' o' hold)
 ·intro id' o' ho'
  simp only [Abs.put] at ho'
  rcases hget id' o' ho' with ⟨rfl,rfl⟩|⟨rfl,rfl⟩|⟨hne,hold⟩
  ·have h1:=hid.strict
   have h2:=hid.base
   exact ⟨fun hx=>absurd hx (by omega),fun hx=>absurd hx (by omega)⟩
  ·simp [AObj.bnd]
  ·exact h.disc id' o' hold
 ·simp only [Abs.put,hLL]
  rw [getD_set_same _ _ _ _ hkl]
  exact hv
 ·intro id' hmay'
  have hne:id' ≠id:=by rintro rfl;rw [hmay] at hmay';cases hmay'
  exact ⟨ho id' hne,fun off=>hkp _⟩
 ·intro id' hN ht
  simp only [Abs.put,hCC] at ht
  have hne:id' ≠id:=by rintro rfl;rw [htch] at ht;cases ht
  exact ⟨hI id' hN,ho id' hne⟩
 ·simp only [Abs.put]
  exact hlen
 ·intro id' o' hb ho'
  simp only [Abs.put] at ho'
  rcases hget id' o' ho' with ⟨rfl,rfl⟩|⟨rfl,rfl⟩|⟨hne,hold⟩
  ·have h2:=hid.base
   omega
  ·exact Or.inl (by simp [AObj.bnd])
  ·exact Or.inr ⟨o',hold,Nat.le_refl _⟩
theorem eff_appendNew (h:RI X l S st a w G I N)(hD:∀ j,D j=true→S j){k:Nat}(hk:¬ S k)(hkl:k<st.L.length)(entry:Nat){nid:Option Nat}(hid:IdOK l st N nid){o:Oper}{sz bytes:Nat}{ob:Bool}{x y:Opd}
  (hc:chkAppend P (X.ck D) o (.append sz bytes ob x y)=true) {E:Env} (hE:E.lim=l) {id lo len:Nat} (hx:rho st.T st.L x= .sref id sz lo len) {st' :RSt} (he:appendNew E nid k sz bytes st id lo len (rho st.T st.L y)=some st') :
  ∃ v w' G' I',(execOp a.eval o).run P w= .ok (.value v) w' ∧Mid X l S entry st a w G I N st' k v w' G' I' (fun i=>N i∨i=newId st nid):=by
 obtain ⟨x0,y0,t,t2,e,i,z,hop,hcx,hcy,ht2,hsz,hu,hi,hsi,hbi,hz,hzs,hbp⟩:=chkAppend_sound hc
 have hnew:¬ N (newId st nid):=hid.new
 unfold appendNew at he
 rw [hE] at he
 split at he
 ·rename_i hmay
  split at he
  ·rename_i l0 m cs hl0 hcs
   split at he
   ·rename_i hcc
    obtain ⟨rfl,hlen,hroom,hbcs,hone,_⟩:=hcc
    cases he
    obtain ⟨vn,hl,hf,hvn,hcl⟩:=src_sound (P:=P) h.H (h.opds hD _ _ hcy) hsz hcs
    have hval:=h.opds hD _ _ hcx
    rw [hx] at hval
    simp only [VR] at hval
    obtain ⟨hNid,cap,hx0,hcap,c,e',f,hb,hbs⟩:=hval
    have hexec:(execOp a.eval o).run P w=((Builtin.append_ #[t,t2] o.type #[a.eval x0,a.eval y0]).run P w).andThen fun v w' => .ok (.value v) w' :=by
     obtain ⟨dst,oop,ty,pos,after,guard⟩:=o
     simp only at hop
     subst hop
     simp [execOp,resolve,invoke,builtin]
    have hvlen:vn.length=m * sz:=by rw [VRs.length _ _ hvn,hcl]
    subst hsi hbi
    have hO:=h.H id _ hl0
    simp only [OR] at hO
    obtain ⟨_,c0,e0,f0,h1,hlab,hnf,hsz0,h5⟩:=hO
    rw [hb] at h1;cases h1
    have hones:=ones_of_all hone hvn
    have hidne:id≠newId st nid:=by rintro rfl;exact hnew hNid
    by_cases hfit:len+m≤cap
    ·
     have hrun:=run_append_in (P:=P) (w:=w) (ty:=o.type) hu hi ht2 (base:=some (ad (I id).1 ((I id).2+0))) (sLen:=len) (sCap:=cap) hl (hf w rfl) hfit
     have hbig:(len+m) * i.size≤cap * i.size:=Nat.mul_le_mul_right _ hfit
     rw [Nat.add_mul] at hbig
     have hroomb:(I id).2+len * i.size+vn.length≤c.size:=by omega
     have hst:=run_storeCells_at (P:=P) (I id).1 ((I id).2+0+len * i.size) e' f vn 0 c w hb hnf (by omega) hones
     have hfit' :(I id).2+0+len * i.size+vn.length≤c.toList.length:=by simp;omega
     have hcs' :(spliceV c.toList ((I id).2+0+len * i.size) vn).toArray.size=c.size:=by rw [List.size_toArray,spliceV_len _ _ _ hfit',Array.length_toList]
     have hw:=wrote_row (G:=G) hb hlab hcs'
     have hxx:=hw.ext.trans (Ext.reobj (w:=w.setRow (I id).1 (spliceV c.toList ((I id).2+0+len * i.size) vn).toArray) (id' :=newId st nid) hw.lab)
     have hkk:∀ q,Keeps q G w (upd G (I id).1 (.obj (newId st nid))) (w.setRow (I id).1 (spliceV c.toList ((I id).2+0+len * i.size) vn).toArray):=by
      intro q b n hbq
      have hne:b≠(I id).1:=by rintro rfl;rw [hlab] at hbq;cases hbq
      exact ⟨by rw [upd_other hne];exact hbq,hw.other b hne⟩
     have hII:∀ i',N i' →updI I (newId st nid) ((I id).1,(I id).2) i' =I i' :=fun i' hN=>updI_other (by rintro rfl;exact hnew hN)
     refine ⟨.slice (some (ad (I id).1 ((I id).2+0))) (len+m) cap,w.setRow (I id).1 (spliceV c.toList ((I id).2+0+len * i.size) vn).toArray,upd G (I id).1 (.obj (newId st nid)),updI I (newId st nid) ((I id).1,(I id).2),?_,
      Mid.renew h hk hkl entry hl0 hid hmay hxx hkk (fun id' hne b hbq=> ?_) (fun b hbq=> ?_) hII ?_ ?_ (.obj id::st.tch) (by simp [Touch.objHit])⟩
     ·rw [hexec,hx0,hrun]
      simp only [add_ad]
      simp only [Nat.add_zero] at hst ⊢
      rw [hst]
      rfl
     ·have hnb:b≠(I id).1:=by rintro rfl;rw [hlab] at hbq;cases hbq;exact hne rfl
      exact ⟨by rw [upd_other hnb];exact hbq,hw.other b hnb⟩
     ·have hwb:w.heap.size≤b:=by rw [← hw.size];exact hbq
      have hne:b≠(I id).1:=by
       rintro rfl
       have:=h.wf _ hwb
       rw [hlab] at this
       cases this
      rw [upd_other hne]
      exact h.wf b hwb
     ·simp only [OR,updI_same]
      have mono:∀ {pl:Place} {b:AVal} {u:Value},VR G I N w pl b u→VR (upd G (I id).1 (.obj (newId st nid))) (updI I (newId st nid) ((I id).1,(I id).2)) (fun i=>N i∨i=newId st nid) (w.setRow (I id).1 (spliceV c.toList ((I id).2+0+len * i.size) vn).toArray) pl b u :=
       fun hq=>VR.mono hxx.sub hII (fun _ h=>Or.inl h) _ _ _ (Or.inr (hkk _)) hq
      refine ⟨Or.inr trivial,_,e',f,setRow_heap w _ c _ e' f hb,by simp,by rw [hcs'];exact hnf,?_,fun j b hj=> ?_⟩
      ·rw [hcs',List.length_append,List.length_map,hcl];omega
      ·rw [show (spliceV c.toList ((I id).2+0+len * i.size) vn).toArray[(I id).2+j]? =(spliceV c.toList ((I id).2+0+len * i.size) vn)[(I id).2+j]? from by simp,spliceV_get _ _ _ hfit']
       have hjl:=lt_of_getElem? hj
       rw [List.length_append,List.length_map,hcl] at hjl
       by_cases hjc:j<l0.length
       ·rw [List.getElem?_append_left (by rw [List.length_map];exact hjc),List.getElem?_map,List.getElem?_eq_getElem hjc] at hj
        rw [if_pos (by omega)]
        simp only [Option.map_some,Option.some.injEq] at hj
        subst hj
        obtain ⟨v,g1,g2⟩:=h5 j _ (List.getElem?_eq_getElem hjc)
        exact ⟨v,by simpa using g1,mono g2.asD⟩
       ·rw [List.getElem?_append_right (by rw [List.length_map];omega),List.length_map] at hj
        rw [if_neg (by omega),if_pos (by omega)]
        obtain ⟨u,r1,r2⟩:=VRs.get _ _ hvn (j - l0.length) b hj
        exact ⟨u,by rw [show (I id).2+j - ((I id).2+0+len * i.size)=j - l0.length from by omega];exact r1,mono r2.place⟩
     ·simp only [VR,updI_same]
      exact ⟨Or.inr trivial,cap,rfl,hfit,_,e',f,setRow_heap w _ c _ e' f hb,by rw [hcs'];exact hbs⟩
    ·
     have hlt:cap<len+m:=by omega
     have hload:∃ vo:List Value,vo.length=len * i.size∧(∀ w2:World,w2.heap=w.heap→(Builtin.firstCells i.size len (.slice (some (ad (I id).1 ((I id).2+0))) len cap)).run P w2= .ok vo.toArray w2) ∧
       (∀ (j:Nat) b,l0[j]? =some b→∃ v,vo[j]? =some v∧VR G I N w (.cell id j) b v):=by
      refine ⟨(List.range (len * i.size)).map (fun j=>(c[(I id).2+j]?).getD default),by simp,fun w2 hw2=> ?_,fun j b hj=> ?_⟩
      ·have:=run_loadCells_list (P:=P) w2 (ad (I id).1 ((I id).2+0)) ((List.range (len * i.size)).map (fun j=>(c[(I id).2+j]?).getD default)) (fun j v hj=>by
        have hjn:j<len * i.size:=by
         rcases Nat.lt_or_ge j (len * i.size) with h|h
         ·exact h
         ·simp [h] at hj
        simp [hjn] at hj
        rw [add_ad,cell_heap hw2,cell_of_heap hb]
        have hlt:(I id).2+j<c.size:=by omega
        simp [hlt] at hj ⊢
        exact hj)
       simpa [Builtin.firstCells] using this
      ·have hjn:j<len * i.size:=by have:=lt_of_getElem? hj;omega
       obtain ⟨u,g1,g2⟩:=h5 j b hj
       exact ⟨u,by simp [hjn,g1],g2⟩
     obtain ⟨vo,hvo1,hvo2,hvo3⟩:=hload
     obtain ⟨ncap,hncap,hrun⟩:=run_append_out (P:=P) (w:=w) (ty:=o.type) hu hi hz ht2 (base:=some (ad (I id).1 ((I id).2+0))) (sLen:=len) (sCap:=cap) hl (hf w.drew rfl) (hvo2 w.drew rfl) hlt (room_63 hroom hbp) (room_fits hroom hlt)
     have hnb:New w (w.drew.alloc (.cells (vo.toArray++vn.toArray++Builtin.zeroCells z.cells (ncap - (len+m))) e)) (.cells (vo.toArray++vn.toArray++Builtin.zeroCells z.cells (ncap - (len+m))) e):=by
      have:=New.alloc w.drew (.cells (vo.toArray++vn.toArray++Builtin.zeroCells z.cells (ncap - (len+m))) e)
      exact ⟨this.os,this.tape,this.output,this.size,this.old,this.new⟩
     have hsize:(vo.toArray++vn.toArray++Builtin.zeroCells z.cells (ncap - (len+m))).size=ncap * i.size:=by
      simp only [Array.size_append,List.size_toArray,zc_size,hzs,hvo1,hvlen]
      have:ncap * i.size=(len+m) * i.size+(ncap - (len+m)) * i.size:=by rw [← Nat.add_mul];congr 1;omega
      rw [this,Nat.add_mul]
     have hII:∀ i',N i' →updI I (newId st nid) (w.heap.size,0) i' =I i' :=fun i' hN=>updI_other (by rintro rfl;exact hnew hN)
     refine ⟨.slice (some (ad w.heap.size 0)) (len+m) ncap,_,upd G w.heap.size (.obj (newId st nid)),updI I (newId st nid) (w.heap.size,0),?_,
      Mid.renew h hk hkl entry hl0 hid hmay (hnb.ext h.wf _) (hnb.keeps h.wf _) (fun id' _=>hnb.objs h.wf _ id') (hnb.wf h.wf _) hII ?_ ?_ (.obj id::st.tch) (by simp [Touch.objHit])⟩
     ·rw [hexec,hx0,hrun];rfl
     ·simp only [OR]
      have mono:∀ {pl:Place} {b:AVal} {u:Value},VR G I N w pl b u→VR (upd G w.heap.size (.obj (newId st nid))) (updI I (newId st nid) (w.heap.size,0)) (fun i=>N i∨i=newId st nid) _ pl b u :=
       fun hq=>VR.mono (hnb.ext h.wf _).sub hII (fun _ h=>Or.inl h) _ _ _ (Or.inr (hnb.keeps h.wf _ _)) hq
      refine ⟨Or.inr trivial,_,e,(0,0),by rw [updI_same];exact hnb.new,by simp,NoFr00 _,?_,fun j b hj=> ?_⟩
      ·rw [hsize]
       simp only [updI_same,List.length_append,List.length_map,hcl]
       have:(len+m) * i.size≤ncap * i.size:=Nat.mul_le_mul_right _ hncap
       rw [Nat.add_mul] at this
       omega
      ·have hjl:=lt_of_getElem? hj
       rw [List.length_append,List.length_map,hcl] at hjl
       simp only [updI_same,Nat.zero_add]
       rw [show (vo.toArray++vn.toArray++Builtin.zeroCells z.cells (ncap - (len+m)))[j]? =(vo++vn++(Builtin.zeroCells z.cells (ncap - (len+m))).toList)[j]? from by rw [← Array.getElem?_toList];simp,
        List.getElem?_append_left (by rw [List.length_append];omega)]
       by_cases hjc:j<l0.length
       ·rw [List.getElem?_append_left (by rw [List.length_map];exact hjc),List.getElem?_map,List.getElem?_eq_getElem hjc] at hj
        rw [List.getElem?_append_left (by omega)]
        simp only [Option.map_some,Option.some.injEq] at hj
        subst hj
        obtain ⟨v,g1,g2⟩:=hvo3 j _ (List.getElem?_eq_getElem hjc)
        exact ⟨v,g1,mono g2.asD⟩
       ·rw [List.getElem?_append_right (by rw [List.length_map];omega),List.length_map] at hj
        rw [List.getElem?_append_right (by omega)]
        obtain ⟨u,r1,r2⟩:=VRs.get _ _ hvn (j - l0.length) b hj
        exact ⟨u,by rw [show j - vo.length=j - l0.length from by omega];exact r1,(mono r2).place⟩
     ·simp only [VR]
      refine ⟨Or.inr trivial,ncap,by simp,hncap,_,e,(0,0),by rw [updI_same];exact hnb.new,?_⟩
      rw [hsize];simp
   ·cases he
  ·cases he
 ·cases he
end
end Go.Abs
namespace Go.Abs
structure Stp (nid:Option Nat)(X:Cx)(l:Lim)(S:Nat→Prop)(entry:Nat)(st:RSt)(a:Act)(w:World)(G:Gh)(I:Inj)(N:Nat→Prop)
  (st' :RSt) (k:Nat) (x' :Value) (w' :World) (G' :Gh) (I' :Inj) (N' :Nat→Prop):Prop where
 mid:Mid X l S entry st a w G I N st' k x' w' G' I' N'
 nsub:∀ id,N' id→id<st'.H.length
 old:∀ id,id<st.H.length→N' id→N id∨nid=some id
def Runs (P:Program)(o:Oper)(a:Act)(w:World)(R:Act→World→Prop):Prop :=
 ∀ (K:Act→World→Prop) (Q:Exit→Act→World→Prop),(∀ a' w',R a' w' →K a' w')→o.wp P a w K Q
section
variable {P:Program} {o:Oper} {a:Act} {w w' :World} {R:Act→World→Prop}
theorem Runs.value {x:Value}(h:(execOp a.eval o).run P w= .ok (.value x) w')(hR:R (a.put o.dst x) w'):Runs P o a w R:=by
 intro K Q hK
 simp only [Oper.wp,h,Oper.upon]
 exact hK _ _ hR
theorem Runs.skip (h:(execOp a.eval o).run P w= .ok .skip w')(hR:R (a.put o.dst undef) w'):Runs P o a w R:=by
 intro K Q hK
 simp only [Oper.wp,h,Oper.upon]
 exact hK _ _ hR
theorem Runs.defer {d:Deferred}(h:(execOp a.eval o).run P w= .ok (.defer d) w')(hR:R ({ a with defers:=d::a.defers }.put o.dst undef) w'):Runs P o a w R:=by
 intro K Q hK
 simp only [Oper.wp,h,Oper.upon]
 exact hK _ _ hR
theorem Runs.enter {f:FuncId}{args:Array Value}(h:(execOp a.eval o).run P w= .ok (.enter f args) w)(hR:Calls P f args w fun e w' =>∃ x,e= .returned x∧R (a.put o.dst x) w'):Runs P o a w R:=by
 intro K Q hK
 simp only [Oper.wp,h,Oper.upon]
 refine Calls.mono hR ?_
 rintro e w' ⟨x,rfl,hx⟩
 exact hK _ _ hx
end
def chkCall (P:Program)(ck:Operand→Opd→Bool)(o:Oper)(op:AOp):Bool :=
 match o.op,op with
 | .call ⟨.value (.func f),args,_⟩,.call g ys=>f==g&&cks ck args.toList ys&&canCall P f
 | .call ⟨.value x,args,_⟩,.callv y ys=>ck x y&&cks ck args.toList ys
 |_,_=>false
def chkDefer (ck:Operand→Opd→Bool)(o:Oper)(op:AOp):Bool :=
 match o.op,op with
 | .defer ⟨.value x,args,_⟩,.defer y=>ck x y&&args.isEmpty
 |_,_=>false
def chkMov (ck:Operand→Opd→Bool)(o:Oper)(y:Opd):Bool :=
 match o.op with
 | .move x=>ck x y
 | .assign x=>ck x y
 |_=>false
def chkOne (P:Program)(ck:Operand→Opd→Bool)(o:Oper)(op:AOp):Bool :=
 match op with
 | .mov y=>chkMov ck o y
 | .alloc _=>chkNew P ck o op
 | .box _=>chkNew P ck o op
 | .makeMap=>chkNew P ck o op
 | .makeS .. =>chkNew P ck o op
 | .bslice .. =>chkNew P ck o op
 | .store .. =>chkStore P ck o op
 | .append _ _ _ _ _=>chkAppend P ck o op
 | .appendN sz bytes x y=>chkAppend P ck o (.append sz bytes true x y)
 | .mapSet .. =>chkMap P ck o op
 | .call .. =>chkCall P ck o op
 | .callv .. =>chkCall P ck o op
 | .defer _=>chkDefer ck o op
 | .clear .. =>chkClear P ck o op
 | .bad=>true
 |op=>chkPure P ck o op
section
variable {P:Program} {X:Cx} {l:Lim} {S:Nat→Prop} {st st' :RSt} {a:Act} {w w' :World} {G G' :Gh} {I I' :Inj} {N N' :Nat→Prop} {D:Nat→Bool} {ais:List AIns}
theorem Stp.sameN {nid:Option Nat}{entry k:Nat}{x:Value}(hns:∀ id,N id→id<st.H.length)(h:Mid X l S entry st a w G I N st' k x w' G' I' N):Stp nid X l S entry st a w G I N st' k x w' G' I' N :=
 ⟨h,fun id hid=>Nat.lt_of_lt_of_le (hns id hid) h.len,fun _ _ h=>Or.inl h⟩
theorem Stp.newN {entry k:Nat}{x:Value}{nid:Option Nat}(hns:∀ id,N id→id<st.H.length){o:AObj}{v:AVal}(hi:∀ i,nid=some i→i<st.H.length)
  (h:Mid X l S entry st a w G I N (put (newObjA st nid o) k v) k x w' G' I' N') (hN:∀ i,N' i↔N i∨i=newId st nid) :
  Stp nid X l S entry st a w G I N (put (newObjA st nid o) k v) k x w' G' I' N' :=by
 refine ⟨h,fun id hid=> ?_,fun id hlt hid=> ?_⟩
 ·rcases (hN id).1 hid with h1|rfl
  ·exact Nat.lt_of_lt_of_le (hns id h1) h.len
  ·cases nid with
   |none=>simp [put,newObjA,newId]
   |some i=>simp only [put,newObjA,newId,Option.getD_some,List.length_set];exact hi i rfl
 ·rcases (hN id).1 hid with h1|rfl
  ·exact Or.inl h1
  ·cases nid with
   |none=>simp [newId] at hlt
   |some i=>exact Or.inr rfl
theorem VRs_append {l1 l2:List AVal}{v1 v2:List Value}:∀ (_:VRs G I N w l1 v1) (_:VRs G I N w l2 v2),VRs G I N w (l1++l2) (v1++v2):=by
 induction l1 generalizing v1 with
 |nil=>intro h1 h2;simp [VRs] at h1;subst h1;simpa using h2
 |cons b bs ih =>
  intro h1 h2
  simp only [VRs] at h1
  obtain ⟨x,xs,rfl,h3,h4⟩:=h1
  simp only [List.cons_append,VRs]
  exact ⟨x,xs++v2,rfl,h3,ih h4 h2⟩
structure From (X:Cx)(st:RSt)(a:Act)(w:World)(I:Inj)(op:AOp)(x:Value):Prop where
 mov:∀ s t,op= .mov (.slot s)→X.names[s]? =some t→x=a.tmps.getD t undef
 load:∀ y id off,op= .load none y→ptrOf st y=some (id,off)→w.cell? (ad (I id).1 ((I id).2+off))=some x
theorem From.other {X:Cx}{st:RSt}{a:Act}{w:World}{I:Inj}{op:AOp}{x:Value}(h1:∀ y,op≠ .mov y)(h2:∀ n y,op≠ .load n y):From X st a w I op x :=
 ⟨fun _ _ h=>absurd h (h1 _),fun _ _ _ h=>absurd h (h2 _ _)⟩
theorem rho_ptr {st:RSt}{y:Opd}{id off:Nat}(h:ptrOf st y=some (id,off)):rho st.T st.L y= .ptr id off:=by
 unfold ptrOf at h
 split at h
 ·split at h
  ·rename_i hl
   cases h
   simp [rho,List.getD,hl,AVal.asD]
  ·cases h
 ·split at h
  ·cases h
  ·split at h
   ·rename_i hl
    cases h
    simp [rho,List.getD,hl,AVal.asD]
   ·cases h
 ·cases h
theorem load_cell {ck:Operand→Opd→Bool}{η:Operand→Value}{ρ:Opd→AVal}{H:Heap}(hρ:Opds ck G I N w η ρ)(hH:HR G I N w H){o:Oper}{y:Opd}(hc:chkPure P ck o (.load none y)=true){v:AVal}{rs:List Nat}
  (h:pureOp ρ H (.load none y)=some (v,rs)) {id off:Nat} (hp:ρ y= .ptr id off) {x:Value} (hx:(execOp η o).run P w= .ok (.value x) w):w.cell? (ad (I id).1 ((I id).2+off))=some x:=by
 obtain ⟨dst,oop,ty,pos,after,guard⟩:=o
 cases oop<;>simp [chkPure] at hc
 rename_i t x'
 have h1:=hρ _ _ hc.1
 have ha:isAggT P t=some false:=by simpa [loadOK] using hc.2
 simp only [pureOp,hp] at h
 rw [hp] at h1
 simp only [VR] at h1
 split at h
 ·rename_i u hu
  obtain ⟨_,xs,g1,_,g3,g4⟩:=hH.rd hu (by omega)
  obtain ⟨z,rfl⟩:∃ z,xs=[z]:=by
   match xs,g1 with
   |[z],_=>exact ⟨z,rfl⟩
  have hz:=g3 0 z rfl
  simp at hz
  simp [execOp,Instr.loadAt,h1.2,Instr.sureAddr,loadVar,run_isAgg ha,hz] at hx
  rw [hz,hx]
 ·cases h
def After (P:Program)(idle:FuncId→Bool)(nid:Option Nat)(X:Cx)(l:Lim)(S:Nat→Prop)(entry:Nat)(st:RSt)(a:Act)(w:World)(G:Gh)(I:Inj)(N:Nat→Prop)(st' :RSt)(k:Nat)(o:Oper)(op:AOp)(a' :Act)(w' :World):Prop :=
 ∃ x ds G' I' N',From X st a w I op x∧a' =({ a with defers:=ds }:Act).put o.dst x∧(ds=a.defers∨∃ d,ds=d::a.defers∧IdleD P idle d)∧Stp nid X l S entry st a w G I N st' k x w' G' I' N'
theorem stepW_sound {E:Env}(hcf:CallOK P E.cf E.prom)(hcall:∀ f args H lm r,E.cf f args H lm=some r→canCall P f=true)(hE:E.lim=l)(h:RI X l S st a w G I N)(hpv:PV X ais S st a w I)(hT:st.T.length=X.names.length)
  (hns:∀ id,N id→id<st.H.length) (hb:l.base≤st.H.length) (hs:l.strict≤l.base) (hD:∀ j,D j=true→S j) {k:Nat} (hk:¬ S k) (hkl:k<st.L.length) {o:Oper} {op:AOp} (hc:chkOne P (X.ck D) o op=true)
  {nid:Option Nat} (hid:op.isAlloc=true→IdOK l st N nid) {rs:List Nat} (he:stepW E ais nid k op st=some (st',rs)) :
  Runs P o a w (After P E.idle nid X l S E.entry st a w G I N st' k o op):=by
 have hρ:=h.opds hD
 have fin:∀ {x:Value} {w' :World} {G' :Gh} {I' :Inj} {N' :Nat→Prop},From X st a w I op x→Stp nid X l S E.entry st a w G I N st' k x w' G' I' N' →After P E.idle nid X l S E.entry st a w G I N st' k o op (a.put o.dst x) w' :=
  fun {x w' G' I' N'} hF hS=>⟨x,a.defers,G',I',N',hF,rfl,Or.inl rfl,hS⟩
 have pureCase:∀ {v:AVal} {rs:List Nat},(∀ y,op≠ .mov y)→chkPure P (X.ck D) o op=true→pureOp (rho st.T st.L) st.H op=some (v,rs)→st' =put st k v→Runs P o a w (After P E.idle nid X l S E.entry st a w G I N st' k o op):=by
  intro v rs hm h1 h2 h3
  subst h3
  obtain ⟨x,g1,g2⟩:=pure_sound (P:=P) (fun v=>by rfl) hρ h.H h1 h2
  refine Runs.value g1 (fin ⟨fun s t e=>absurd e (hm _),fun y id off e hp=> ?_⟩ (Stp.sameN hns (Mid.same h hk hkl E.entry g2.place)))
  subst e
  exact load_cell hρ h.H h1 h2 (rho_ptr hp) g1
 have callCase:(∀ y,op≠ .mov y)→(∀ n y,op≠ .load n y)→∀ (f:FuncId) (args:List AVal) (vargs:Array Value),VRs G I N w args vargs.toList→callEff E k f args st=some st' →(execOp a.eval o).run P w=(callFunc f vargs).run P w→Runs P o a w (After P E.idle nid X l S E.entry st a w G I N st' k o op):=by
  intro hm hl f args vargs h1 h2 h3
  have hcan:canCall P f=true:=by
   unfold callEff at h2
   split at h2
   ·split at h2
    ·rename_i hcc
     exact hcall f _ _ _ _ hcc
    ·cases h2
   ·simp only at h2
    split at h2
    ·split at h2
     ·split at h2
      ·rename_i hcc
       exact hcall f _ _ _ _ hcc
      ·cases h2
     ·split at h2
      ·rename_i hcc
       exact hcall f _ _ _ _ hcc
      ·cases h2
     ·split at h2
      ·rename_i hcc
       exact hcall f _ _ _ _ hcc
      ·cases h2
    ·cases h2
  refine Runs.enter (f:=f) (args:=vargs) (by rw [h3];exact run_callFunc hcan vargs) ?_
  refine Calls.mono (eff_callF hcf hE h hns hb hs hk hkl E.entry h1 h2) ?_
  rintro e w' ⟨x,G',I',N',rfl,hC⟩
  exact ⟨x,rfl,fin (From.other hm hl) ⟨hC.mid,hC.nsub,fun id hlt hid=>Or.inl (hC.old id hlt hid)⟩⟩
 unfold stepW at he
 cases op
 case mov y =>
  simp only [AOp.isEff,Bool.false_eq_true,if_false] at he
  cases he
  simp only [chkOne] at hc
  have key:∀ x,X.ck D x y=true→(execOp a.eval o).run P w= .ok (.value (a.eval x)) w→Runs P o a w (After P E.idle nid X l S E.entry st a w G I N (put (xfer st y).2 k (xfer st y).1) k o (.mov y)):=by
   intro x hx hrun
   obtain ⟨G1,hX⟩:=h.xfer hD hx (pl:= .loc k) (by simp)
   have hM:=Mid.same hX.ri hk (by rw [xfer_len];exact hkl) E.entry hX.val
   exact Runs.value hrun (fin ⟨fun s t e hn=>by cases e;simp only [Cx.ck] at hx;split at hx<;>simp_all [Act.eval],fun _ _ _ e=>by cases e⟩ (Stp.sameN hns (Mid.pre hX.ext hX.keeps hX.obj (xfer_H st y) hM)))
  obtain ⟨dst,oop,ty,pos,after,guard⟩:=o
  cases oop<;>simp only [chkMov] at hc<;>try (cases hc;done)
  ·exact key _ hc (by simp [execOp])
  ·exact key _ hc (by simp [execOp])
 case alloc zero =>
  simp only [AOp.isEff,if_true,effOp] at he
  cases he
  have h1:=hid rfl
  obtain ⟨x,w',G',I',N',g1,g2,g3⟩:=new_alloc h hk hkl E.entry h1 (by simpa [chkOne] using hc)
  exact Runs.value g1 (fin (From.other (by simp) (by simp)) (Stp.newN hns h1.inside g2 g3))
 case box y =>
  simp only [AOp.isEff,if_true,effOp] at he
  split at he
  ·rename_i hcs
   split at hcs
   ·rename_i cs hcs'
    cases hcs
    cases he
    have h1:=hid rfl
    obtain ⟨x,w',G',I',N',g1,g2,g3⟩:=new_box h hρ hk hkl E.entry h1 (by simpa [chkOne] using hc) hcs'
    exact Runs.value g1 (fin (From.other (by simp) (by simp)) (Stp.newN hns h1.inside g2 g3))
   ·cases hcs
  ·cases he
 case makeMap =>
  simp only [AOp.isEff,if_true,effOp] at he
  cases he
  have h1:=hid rfl
  obtain ⟨x,w',G',I',N',g1,g2,g3⟩:=new_map (P:=P) h hk hkl E.entry h1 (by simpa [chkOne] using hc)
  exact Runs.value g1 (fin (From.other (by simp) (by simp)) (Stp.newN hns h1.inside g2 g3))
 case makeS sz zero x y =>
  simp only [AOp.isEff,if_true,effOp] at he
  split at he
  ·rename_i hcs
   split at hcs
   ·rename_i n hn
    cases hcs
    cases he
    have h1:=hid rfl
    obtain ⟨x,w',G',I',N',g1,g2,g3⟩:=new_makeS h hρ hk hkl E.entry h1 (by simpa [chkOne] using hc) hn
    exact Runs.value g1 (fin (From.other (by simp) (by simp)) (Stp.newN hns h1.inside g2 g3))
   ·cases hcs
  ·cases he
 case bslice sz len zero parts ob =>
  cases ob with
  |false =>
   simp only [AOp.isEff,Bool.false_eq_true,if_false] at he
   split at he
   ·rename_i v rs' hp
    cases he
    obtain ⟨x,w',G',g1,g2⟩:=new_slice h hρ hk hkl E.entry (by simpa [chkOne] using hc) hp
    exact Runs.value g1 (fin (From.other (by simp) (by simp)) (Stp.sameN hns g2))
   ·cases he
  |true =>
   simp only [AOp.isEff,if_true,effOp] at he
   split at he
   ·rename_i hcs
    split at hcs
    ·rename_i cs hcs'
     split at hcs
     ·rename_i hl
      cases hcs
      cases he
      have h1:=hid rfl
      obtain ⟨x,w',G',I',N',g1,g2,g3⟩:=new_sliceObj h hρ hk hkl E.entry h1 (by simpa [chkOne] using hc) hcs' hl.2
      exact Runs.value g1 (fin (From.other (by simp) (by simp)) (Stp.newN hns h1.inside g2 g3))
     ·cases hcs
    ·cases hcs
   ·cases he
 case store n x y =>
  simp only [AOp.isEff,if_true,effOp] at he
  split at he
  ·rename_i hst
   cases he
   obtain ⟨w',G',g1,g2⟩:=eff_store h hD hk hkl E.entry (by simpa [chkOne] using hc) hE hst
   exact Runs.skip g1 (fin (From.other (by simp) (by simp)) (Stp.sameN hns g2))
  ·cases he
 case appendN sz bytes x y =>
  simp only [chkOne] at hc
  have h1:=hid rfl
  simp only [AOp.isEff,if_true,effOp] at he
  split at he
  ·rename_i hst
   cases he
   split at hst
   ·rename_i id z lo len hx
    split at hst
    ·rename_i hz
     subst hz
     obtain ⟨v,w',G',I',g1,g2⟩:=eff_appendNew h hD hk hkl E.entry h1 hc hE hx hst
     refine Runs.value g1 (fin (From.other (by simp) (by simp)) ⟨g2,fun id hid=> ?_,fun id hlt hid=> ?_⟩)
     ·rcases hid with hid|rfl
      ·exact Nat.lt_of_lt_of_le (hns id hid) g2.len
      ·unfold appendNew at hst
       split at hst
       ·split at hst
        ·split at hst
         ·cases hst
          cases nid with
          |none=>simp [put,newObjA,newId]
          |some i=>simpa [put,newObjA,newId] using h1.inside i rfl
         ·cases hst
        ·cases hst
       ·cases hst
     ·rcases hid with hid|rfl
      ·exact Or.inl hid
      ·cases nid with
       |none=>simp [newId] at hlt
       |some i=>exact Or.inr rfl
    ·cases hst
   ·rcases eff_appendNil h hpv hT hD hk hkl E.entry h1 hc hE hst with ⟨v,w',G',g1,g2⟩|⟨v,w',G',I',N',ob,av,g1,rfl,g2,g3⟩
    ·exact Runs.value g1 (fin (From.other (by simp) (by simp)) (Stp.sameN hns g2))
    ·exact Runs.value g1 (fin (From.other (by simp) (by simp)) (Stp.newN hns h1.inside g2 g3))
  ·cases he
 case append sz bytes ob x y =>
  simp only [chkOne] at hc
  simp only [AOp.isEff,if_true,effOp] at he
  split at he
  ·rename_i hst
   cases he
   split at hst
   ·rename_i id z lo len hx
    split at hst
    ·rename_i hz
     subst hz
     obtain ⟨v,w',G',I',g1,g2⟩:=eff_appendObj h hD hk hkl hc hE hx hst
     exact Runs.value g1 (fin (From.other (by simp) (by simp)) (Stp.sameN hns g2))
    ·cases hst
   ·cases ob with
    |false =>
     obtain ⟨v,w',G',g1,g2⟩:=eff_append h hpv hT hD hk hkl E.entry hc hE hst
     exact Runs.value g1 (fin (From.other (by simp) (by simp)) (Stp.sameN hns g2))
    |true =>
     have h1:=hid rfl
     rcases eff_appendNil h hpv hT hD hk hkl E.entry h1 hc hE hst with ⟨v,w',G',g1,g2⟩|⟨v,w',G',I',N',ob,av,g1,rfl,g2,g3⟩
     ·exact Runs.value g1 (fin (From.other (by simp) (by simp)) (Stp.sameN hns g2))
     ·exact Runs.value g1 (fin (From.other (by simp) (by simp)) (Stp.newN hns h1.inside g2 g3))
  ·cases he
 case mapSet kk m ky v =>
  simp only [AOp.isEff,if_true,effOp] at he
  split at he
  ·rename_i hst
   cases he
   obtain ⟨w',g1,g2⟩:=eff_mapSet h hD hk hkl E.entry (by simpa [chkOne] using hc) hE hst
   exact Runs.skip g1 (fin (From.other (by simp) (by simp)) (Stp.sameN hns g2))
  ·cases he
 case call f ys =>
  simp only [AOp.isEff,if_true,effOp] at he
  split at he
  ·rename_i hst
   cases he
   simp only [chkOne,chkCall] at hc
   split at hc
   ·rename_i f' args _ g ys' hop heq
    cases heq
    simp only [Bool.and_eq_true,beq_iff_eq] at hc
    obtain ⟨⟨rfl,hcs⟩,hcan⟩:=hc
    refine callCase (by simp) (by simp) f' (ys.map (rho st.T st.L)) (args.map a.eval) (by simpa using cks_sound hρ _ _ hcs) hst ?_
    simp [execOp,hop,resolve,Act.eval,Deferred.ofValue,invoke]
   ·rename_i heq;cases heq
   ·cases hc
  ·cases he
 case callv y ys =>
  simp only [AOp.isEff,if_true,effOp] at he
  split at he
  ·rename_i hst
   cases he
   simp only [chkOne,chkCall] at hc
   split at hc
   ·rename_i heq;cases heq
   ·rename_i x args _ y' ys' hop heq
    cases heq
    simp only [Bool.and_eq_true] at hc
    have hv:=hρ _ _ hc.1
    split at hst
    ·rename_i f first caps hy
     rw [hy] at hv
     simp only [VR] at hv
     obtain ⟨vf,vc,e1,e2,e3⟩:=hv
     refine callCase (by simp) (by simp) f (first++ys.map (rho st.T st.L)++caps) (vf++args.map a.eval++vc) ?_ hst ?_
     ·simp only [Array.toList_append,Array.toList_map]
      exact VRs_append (VRs_append e2 (cks_sound hρ _ _ hc.2)) e3
     ·simp [execOp,hop,resolve,e1,Deferred.ofValue,invoke]
    ·cases hst
   ·cases hc
  ·cases he
 case defer y =>
  simp only [AOp.isEff,if_true,effOp] at he
  split at he
  ·rename_i hst
   cases he
   simp only [chkOne,chkDefer] at hc
   split at hc
   ·rename_i x args _ y' hop heq
    cases heq
    simp only [Bool.and_eq_true] at hc
    have hv:=hρ _ _ hc.1
    split at hst
    ·rename_i f first caps hy
     split at hst
     ·rename_i hidle
      cases hst
      rw [hy] at hv
      simp only [VR] at hv
      obtain ⟨vf,vc,e1,e2,e3⟩:=hv
      have hrun:(execOp a.eval o).run P w= .ok (.defer { target:= .fn (.func f) vc,args:=vf++args.map a.eval }) w:=by
       simp [execOp,hop,resolve,e1,Deferred.ofValue]
      refine Runs.defer hrun ⟨undef,_,G,I,N,From.other (by simp) (by simp),rfl,Or.inr ⟨_,rfl,f,vc,rfl,hidle⟩,Stp.sameN hns (Mid.same h hk hkl E.entry (by simp [VR]))⟩
     ·cases hst
    ·cases hst
   ·cases hc
  ·cases he
 case clear sz zero y =>
  simp only [AOp.isEff,if_true,effOp] at he
  split at he
  ·rename_i hst
   cases he
   obtain ⟨w',g1,g2⟩:=eff_clear h hD hk hkl E.entry (by simpa [chkOne] using hc) hE hst
   exact Runs.value g1 (fin (From.other (by simp) (by simp)) (Stp.sameN hns g2))
  ·cases he
 case bad=>simp [AOp.isEff,pureOp] at he
 all_goals
  simp only [AOp.isEff,Bool.false_eq_true,if_false] at he
  split at he
  ·rename_i hp
   cases he
   exact pureCase (by simp) (by simpa only [chkOne] using hc) hp rfl
  ·cases he
end
end Go.Abs
namespace Go.Abs
def chkDst (names:List Tmp):Option Tmp→Option Nat→Bool
 |none,none=>true
 |some d,none=> !names.contains d
 |some d,some s=>names[s]? ==some d
 |none,some _=>false
def chkGuard (X:Cx)(D:Nat→Bool):Option (Nat×Bool)→Option (Nat×Bool)→Bool
 |none,none=>true
 |some (g,b),some (g',b')=>g==g' &&b==b' &&D g&&(match (X.ops[g]?).bind (·.dst) with
  |some d=> !X.names.contains d
  |none=>false)
 |_,_=>false
def chkIns (X:Cx)(D:Nat→Bool)(o:Oper)(i:AIns):Bool :=
 chkOne X.P (X.ck D) o i.op&&chkDst X.names o.dst i.dst&&chkGuard X D o.guard i.guard
structure Stat (X:Cx)(nt:Nat):Prop where
 dup:∀ (i j:Nat) d,(X.ops[i]?).bind (·.dst)=some d→(X.ops[j]?).bind (·.dst)=some d→X.names.contains d=false→i=j
 lt:∀ (i:Nat) d,(X.ops[i]?).bind (·.dst)=some d→d<nt
 nod:∀ (s s' :Nat) t,X.names[s]? =some t→X.names[s']? =some t→s=s'
def OpdOK (X:Cx)(S:Nat→Prop):Opd→Prop
 | .loc m=>S m∧∃ t,(X.ops[m]?).bind (·.dst)=some t∧X.names.contains t=false
 | .slot s=>∃ t,X.names[s]? =some t
 | .const _=>True
structure Rg (X:Cx)(ais:List AIns)(E:Env)(nt:Nat)(S:Nat→Prop)(st:RSt)(a:Act)(w:World)(G:Gh)(I:Inj)(N:Nat→Prop):Prop where
 ri:RI X E.lim S st a w G I N
 pv:PV X ais S st a w I
 cl:∀ (j:Nat) ai y,S j→ais[j]? =some ai→ai.op=AOp.load none y→OpdOK X S y
 lenT:st.T.length=X.names.length
 lenL:st.L.length=ais.length
 nsub:∀ id,N id→id<st.H.length
 ent:E.entry≤st.H.length
 size:a.tmps.size=nt
 idle:∀ d,d ∈ a.defers→IdleD X.P E.idle d
structure Since (E:Env)(H0:Heap)(w0:World)(G0:Gh)(I0:Inj)(N0:Nat→Prop)(H:Heap)(w:World)(G:Gh)(I:Inj)(N:Nat→Prop):Prop where
 ext:Ext G0 w0 G w
 pres:Pres E.lim G0 w0 G w
 inj:∀ id,id<E.entry→N0 id→I id=I0 id
 mono:∀ id,id<E.entry→N0 id→N id
 old:∀ id,id<E.entry→N id→N0 id
 hle:∀ (id:Nat) (o' :AObj),id<E.lim.base→H[id]? =some o' →o'.bnd≤id+1∨∃ o:AObj,H0[id]? =some o∧o'.bnd≤o.bnd
theorem Since.refl (E:Env)(H:Heap)(w:World)(G:Gh)(I:Inj)(N:Nat→Prop):Since E H w G I N H w G I N :=
 ⟨Ext.refl _ _,Pres.refl _ _ _,fun _ _ _=>rfl,fun _ _ h=>h,fun _ _ h=>h,fun _ o _ h=>Or.inr ⟨o,h,Nat.le_refl _⟩⟩
theorem Since.trans {E:Env}{H0 H1 H2:Heap}{w0 w1 w2:World}{G0 G1 G2:Gh}{I0 I1 I2:Inj}{N0 N1 N2:Nat→Prop}
  (h:Since E H0 w0 G0 I0 N0 H1 w1 G1 I1 N1) (k:Since E H1 w1 G1 I1 N1 H2 w2 G2 I2 N2):Since E H0 w0 G0 I0 N0 H2 w2 G2 I2 N2 where
 ext:=h.ext.trans k.ext
 pres:=h.pres.trans k.pres
 inj id hid hN:=(k.inj id hid (h.mono id hid hN)).trans (h.inj id hid hN)
 mono id hid hN:=k.mono id hid (h.mono id hid hN)
 old id hid hN:=h.old id hid (k.old id hid hN)
 hle id o' hb ho:=by
  rcases k.hle id o' hb ho with h1|⟨o1,h1,h2⟩
  ·exact Or.inl h1
  ·rcases h.hle id o1 hb h1 with h3|⟨o,h3,h4⟩
   ·exact Or.inl (by omega)
   ·exact Or.inr ⟨o,h3,by omega⟩
section
variable {X:Cx} {ais:List AIns} {E:Env} {nt:Nat} {S:Nat→Prop} {st st1 st2:RSt} {a:Act} {w w' :World} {G G' :Gh} {I I' :Inj} {N N' :Nat→Prop} {D:Nat→Bool}
theorem Rg.ptrN (h:Rg X ais E nt S st a w G I N){y:Opd}(hy:OpdOK X S y){id off:Nat}(hp:ptrOf st y=some (id,off)):N id:=by
 unfold ptrOf at hp
 split at hp
 ·rename_i m
  split at hp
  ·rename_i hl
   cases hp
   obtain ⟨h1,t,h2,h3⟩:=hy
   have:=h.ri.L m h1 t h2 h3
   rw [getD_of hl] at this
   simp only [VR] at this
   exact this.1
  ·cases hp
 ·rename_i s
  split at hp
  ·cases hp
  ·split at hp
   ·rename_i hl
    cases hp
    obtain ⟨t,ht⟩:=hy
    have:=h.ri.T s t ht
    rw [getD_of hl] at this
    simp only [VR] at this
    exact this.1
   ·cases hp
 ·cases hp
theorem toSlotX_cases {nid:Option Nat}{k:Nat}{dst:Option Nat}(h:toSlotX nid st1 k dst=some st2) :
  (dst=none∧st2=st1)∨∃ s tch,dst=some s∧s<st1.T.length∧st2={ (xfer st1 (.loc k)).2 with T:=st1.T.set s (xfer st1 (.loc k)).1,tch }∧(tch= .slot s::st1.tch∨(tch=st1.tch∧st1.tch.any (Touch.slotHit s)=true)):=by
 unfold toSlotX at h
 split at h
 ·cases dst with
  |none=>cases h;exact Or.inl ⟨rfl,rfl⟩
  |some s =>
   simp only [toSlot] at h
   split at h
   ·rename_i hs
    cases h
    exact Or.inr ⟨s,_,rfl,hs,rfl,Or.inl rfl⟩
   ·cases h
 ·cases dst with
  |none=>cases h;exact Or.inl ⟨rfl,rfl⟩
  |some s =>
   simp only [toSlotN] at h
   split at h
   ·rename_i hs
    simp only [Bool.and_eq_true,decide_eq_true_eq] at hs
    cases h
    refine Or.inr ⟨s,st1.tch,rfl,hs.1,?_,Or.inr ⟨rfl,hs.2⟩⟩
    have:(xfer st1 (.loc k)).2.tch=st1.tch:=xfer_tch _ _
    cases hx:(xfer st1 (.loc k)).2 with
    |mk T H L tch=>rw [hx] at this;simp only at this;subst this;rfl
   ·cases h
theorem toSlot_tch {nid:Option Nat}{k:Nat}{dst:Option Nat}(h:toSlotX nid st1 k dst=some st2)(p:Touch→Bool)(hp:st1.tch.any p=true):st2.tch.any p=true:=by
 rcases toSlotX_cases h with ⟨_,rfl⟩|⟨s,tch,_,_,rfl,rfl|⟨rfl,_⟩⟩
 ·exact hp
 ·simp only [List.any_cons,hp,Bool.or_true]
 ·exact hp
theorem toSlot_hit {nid:Option Nat}{k s:Nat}{dst:Option Nat}(h:toSlotX nid st1 k dst=some st2)(hd:dst=some s):st2.tch.any (Touch.slotHit s)=true:=by
 rcases toSlotX_cases h with ⟨h0,_⟩|⟨s',tch,h1,_,rfl,rfl|⟨rfl,h2⟩⟩
 ·rw [h0] at hd;cases hd
 ·rw [h1] at hd;cases hd;simp [Touch.slotHit]
 ·rw [h1] at hd;cases hd;exact h2
theorem toSlot_H {nid:Option Nat}{k:Nat}{dst:Option Nat}(h:toSlotX nid st1 k dst=some st2):st2.H=st1.H:=by
 rcases toSlotX_cases h with ⟨_,rfl⟩|⟨s,tch,_,_,rfl,_⟩
 ·rfl
 ·exact xfer_H _ _
theorem toSlot_lenL {nid:Option Nat}{k:Nat}{dst:Option Nat}(h:toSlotX nid st1 k dst=some st2):st2.L.length=st1.L.length:=by
 rcases toSlotX_cases h with ⟨_,rfl⟩|⟨s,tch,_,_,rfl,_⟩
 ·rfl
 ·exact xfer_len _ _
theorem toSlot_lenT {nid:Option Nat}{k:Nat}{dst:Option Nat}(h:toSlotX nid st1 k dst=some st2):st2.T.length=st1.T.length:=by
 rcases toSlotX_cases h with ⟨_,rfl⟩|⟨s,tch,_,_,rfl,_⟩
 ·rfl
 ·simp
theorem xfer_loc_L (st:RSt)(k m:Nat)(h:m≠k):(xfer st (.loc k)).2.L[m]? =st.L[m]? :=by
 simp only [xfer]
 split
 ·simp only
  rw [List.getElem?_set_ne (fun e=>h e.symm)]
 ·rfl
 ·rfl
theorem toSlot_L {nid:Option Nat}{k:Nat}{dst:Option Nat}(h:toSlotX nid st1 k dst=some st2){m:Nat}(hm:m≠k):st2.L[m]? =st1.L[m]? :=by
 rcases toSlotX_cases h with ⟨_,rfl⟩|⟨s,tch,_,_,rfl,_⟩
 ·rfl
 ·exact xfer_loc_L st1 k m hm
theorem toSlot_ptr {nid:Option Nat}{k:Nat}{dst:Option Nat}(h:toSlotX nid st1 k dst=some st2){y:Opd}(hy:∀ m,y= .loc m→m≠k){id off:Nat}(hp:ptrOf st2 y=some (id,off)):ptrOf st1 y=some (id,off):=by
 cases y with
 |const v=>exact hp
 |loc m =>
  simp only [ptrOf] at hp ⊢
  rw [toSlot_L h (hy m rfl)] at hp
  exact hp
 |slot s' =>
  simp only [ptrOf] at hp ⊢
  split at hp
  ·cases hp
  ·rename_i hn
   have hn' :st2.tch.any (Touch.slotHit s')=false:=by simpa using hn
   rw [if_neg (by rw [not_any_of (toSlot_tch h) hn'];simp)]
   have hne:dst≠some s' :=by
    intro e
    rw [toSlot_hit h e] at hn';cases hn'
   have:st2.T[s']? =st1.T[s']? :=by
    rcases toSlotX_cases h with ⟨_,rfl⟩|⟨s,tch,h1,_,rfl,_⟩
    ·rfl
    ·simp only
     rw [List.getElem?_set_ne (fun e=>hne (by rw [h1,e]))]
   rw [this] at hp
   exact hp
theorem Tr.ptr {k:Nat}(h:Tr N k st st1){y:Opd}(hy:∀ m,y= .loc m→m≠k){id off:Nat}(hp:ptrOf st1 y=some (id,off)):ptrOf st y=some (id,off):=by
 cases y with
 |const v=>exact hp
 |loc m =>
  simp only [ptrOf] at hp ⊢
  split at hp
  ·rename_i hl
   cases hp
   rw [h.L m _ _ (hy m rfl) hl]
  ·cases hp
 |slot s =>
  simp only [ptrOf] at hp ⊢
  split at hp
  ·cases hp
  ·rename_i hn
   rw [if_neg (by rw [not_any_of h.tch (by simpa using hn)];simp)]
   split at hp
   ·rename_i hl
    cases hp
    rw [h.T s _ _ hl]
   ·cases hp
theorem getD_put_same {d:Tmp}{x:Value}(h:d<a.tmps.size):(a.put (some d) x).tmps.getD d undef=x:=by
 simp [Act.put,h]
theorem getD_put_other {dst:Option Tmp}{t:Tmp}{x:Value}(h:dst≠some t):(a.put dst x).tmps.getD t undef=a.tmps.getD t undef:=by
 cases dst with
 |none=>rfl
 |some d =>
  have:d≠t:=fun e=>h (by rw [e])
  simp [Act.put,Array.getElem?_setIfInBounds_ne this]
theorem size_put {dst:Option Tmp}{x:Value}:(a.put dst x).tmps.size=a.tmps.size:=by
 cases dst<;>simp [Act.put]
theorem defers_put {dst:Option Tmp}{x:Value}:(a.put dst x).defers=a.defers:=by
 cases dst<;>simp [Act.put]
theorem RI.defers {l:Lim}{ds:List Deferred}(h:RI X l S st a w G I N):RI X l S st { a with defers:=ds } w G I N :=
 ⟨h.T,h.L,h.H,h.wf,h.disc⟩
theorem RI.after {l:Lim}(hst:Stat X nt)(hsz:a.tmps.size=nt)(hT:st1.T.length=X.names.length){k:Nat}(hk:¬ S k)(hkl:k<st1.L.length){o:Oper}(ho:X.ops[k]? =some o){dst:Option Nat}(hd:chkDst X.names o.dst dst=true)
  (h:RI X l S st1 a w G I N) {x:Value} (hv:VR G I N w (.loc k) (st1.L.getD k .any) x) {nid:Option Nat} (hts:toSlotX nid st1 k dst=some st2) :
  ∃ G',Ext G w G' w∧(∀ id off,Keeps (.cell id off) G w G' w)∧(∀ b id,G b= .obj id→G' b= .obj id)∧RI X l (fun j=>S j∨j=k) st2 (a.put o.dst x) w G' I N:=by
 have hodst:(X.ops[k]?).bind (·.dst)=o.dst:=by rw [ho];rfl
 rcases toSlotX_cases hts with ⟨rfl,rfl⟩|⟨s,tch',rfl,hs,rfl,_⟩
 ·have hnn:∀ d,o.dst=some d→X.names.contains d=false:=by
   intro d hd'
   rw [hd'] at hd
   simpa [chkDst] using hd
  refine ⟨G,Ext.refl _ _,fun _ _ _ _ h=>⟨h,rfl⟩,fun _ _ h=>h,?_,?_,h.H,h.wf,h.disc⟩
  ·intro s t ht
   rw [getD_put_other ?_]
   ·exact h.T s t ht
   ·intro e
    have h1:=hnn t e
    have h2:t ∈ X.names:=List.mem_of_getElem? ht
    simp [h2] at h1
  ·intro j hj d hjd hjn
   rcases hj with hj|rfl
   ·rw [getD_put_other ?_]
    ·exact h.L j hj d hjd hjn
    ·intro e
     have:=hst.dup j k d hjd (by rw [hodst];exact e) hjn
     subst this
     exact hk hj
   ·rw [hodst] at hjd
    rw [hjd,getD_put_same (by rw [hsz];exact hst.lt j d (by rw [hodst];exact hjd))]
    exact hv
 ··cases hod:o.dst with
   |none=>rw [hod] at hd;simp [chkDst] at hd
   |some d =>
    rw [hod] at hd
    have hns:X.names[s]? =some d:=by simpa [chkDst] using hd
    have hdn:X.names.contains d=true:=by
     have:d ∈ X.names:=List.mem_of_getElem? hns
     simp [this]
    have hdlt:d<a.tmps.size:=by rw [hsz];exact hst.lt k d (by rw [hodst];exact hod)
    have main:∀ (v:AVal) (st3:RSt) (G' :Gh),Moved (.loc k) G w G' →VR G' I N w (.slot s) v x→st3.H=st1.H→(∀ m,m≠k→st3.L[m]? =st1.L[m]?)→st3.T=st1.T.set s v →
      RI X l (fun j=>S j∨j=k) st3 (a.put (some d) x) w G' I N:=by
     intro v st3 G' hm hv' hH hL hT3
     refine ⟨?_,?_,?_,hm.wf h.wf,?_⟩
     ·intro s' t ht
      rw [hT3]
      by_cases he:s' =s
      ·subst he
       rw [hns] at ht;cases ht
       rw [getD_set_same _ _ _ _ hs,getD_put_same hdlt]
       exact hv'
      ·rw [getD_set_other _ _ _ _ _ (fun e=>he e.symm),getD_put_other (fun e=>he (hst.nod s' s t ht (by rw [hns,← Option.some_inj.1 e])))]
       exact VR.mono hm.ext (fun _ _=>rfl) (fun _ h=>h) _ _ _ (Or.inr (hm.keeps _ (by simp))) (h.T s' t ht)
     ·intro j hj d' hjd hjn
      have hjk:S j:=by
       rcases hj with hj|rfl
       ·exact hj
       ·rw [hodst,hod] at hjd;cases hjd;rw [hdn] at hjn;cases hjn
      have hne:j≠k:=by rintro rfl;exact hk hjk
      have e1:st3.L.getD j .any=st1.L.getD j .any:=by simp only [List.getD,hL j hne]
      rw [e1,getD_put_other (fun e=>by cases e;rw [hdn] at hjn;cases hjn)]
      exact VR.mono hm.ext (fun _ _=>rfl) (fun _ h=>h) _ _ _ (Or.inr (hm.keeps _ (by simp;exact hne))) (h.L j hjk d' hjd hjn)
     ·rw [hH];exact h.H.moved hm (by simp)
     ·rw [hH];exact h.disc
    by_cases hown:∃ z n c,st1.L[k]? =some (.own z n c)
    ·obtain ⟨z,n,c,hkown⟩:=hown
     rw [getD_of hkown] at hv
     obtain ⟨G',hm,hv'⟩:=own_move (pl' := .slot s) (by simp) hv
     refine ⟨G',hm.ext,fun id off=>hm.keeps _ (by simp),hm.obj,?_⟩
     have e1:(Abs.xfer st1 (.loc k)).1= .own z n c:=by simp only [Abs.xfer,hkown]
     exact main (.own z n c) _ G' hm hv' (xfer_H _ _) (fun m hm=>xfer_loc_L st1 k m hm) (by simp only [e1])
    ·by_cases hnil:st1.L[k]? =some .nils
     ·have e1:Abs.xfer st1 (.loc k)=(.nils,st1):=by simp only [Abs.xfer,hnil]
      refine ⟨G,Ext.refl _ _,fun _ _ _ _ h=>⟨h,rfl⟩,fun _ _ h=>h,?_⟩
      refine main .nils _ G (Moved.refl _ _ _) ?_ (xfer_H _ _) (fun m hm=>xfer_loc_L st1 k m hm) (by simp only [e1])
      rw [getD_of hnil] at hv
      simpa only [VR] using hv
     ·have e1:Abs.xfer st1 (.loc k)=(rho st1.T st1.L (.loc k),st1):=by
       simp only [Abs.xfer]
       split
       ·rename_i z n c hj;exact absurd ⟨z,n,c,hj⟩ hown
       ·rename_i hj;exact absurd hj hnil
       ·rfl
      refine ⟨G,Ext.refl _ _,fun _ _ _ _ h=>⟨h,rfl⟩,fun _ _ h=>h,?_⟩
      refine main (rho st1.T st1.L (.loc k)) _ G (Moved.refl _ _ _) ?_ (xfer_H _ _) (fun m hm=>xfer_loc_L st1 k m hm) (by simp only [e1])
      simp only [rho]
      exact hv.asD
theorem PV.after (hst:Stat X nt)(hR:Rg X ais E nt S st a w G I N){k:Nat}(hk:¬ S k){o:Oper}(ho:X.ops[k]? =some o){i:AIns}(hi:ais[k]? =some i)(hd:chkDst X.names o.dst i.dst=true)
  (hcl:∀ y,i.op= .load none y→OpdOK X S y) (htr:Tr N k st st1) {nid:Option Nat} (hts:toSlotX nid st1 k i.dst=some st2) {x:Value} {ds:List Deferred}
  (hko:∀ id,N id→st1.tch.any (Touch.objHit id)=false→I' id=I id∧∀ b,G b= .obj id→w'.heap[b]? =w.heap[b]?)
  (hf:st2.L[k]? =some (.tuple [])∨From X st a w I i.op x):PV X ais (fun j=>S j∨j=k) st2 ({ a with defers:=ds }.put o.dst x) w' I' :=by
 have hodst:(X.ops[k]?).bind (·.dst)=o.dst:=by rw [ho];rfl
 have skp:∀ j,j≠k→st2.L[j]? ≠some (.tuple [])→st.L[j]? ≠some (.tuple []):=by
  intro j hj h1 h2
  rw [toSlot_L hts hj] at h1
  exact h1 (htr.skp j hj h2)
 have notHit:∀ p,st2.tch.any p=false→st.tch.any p=false∧st1.tch.any p=false:=by
  intro p hp
  have h1:=not_any_of (toSlot_tch hts) hp
  exact ⟨not_any_of htr.tch h1,h1⟩
 have slotKeep:∀ (s:Nat) t,X.names[s]? =some t→st2.tch.any (Touch.slotHit s)=false→o.dst≠some t:=by
  intro s t ht hh e
  rw [e] at hd
  cases hdi:i.dst with
  |none =>
   rw [hdi] at hd
   have:t ∈ X.names:=List.mem_of_getElem? ht
   simp [chkDst,this] at hd
  |some s' =>
   rw [hdi] at hd hts
   have h1:X.names[s']? =some t:=by simpa [chkDst] using hd
   have:=hst.nod s s' t ht h1
   subst this
   rw [toSlot_hit hts rfl] at hh
   cases hh
 have dstKeep:∀ (j:Nat) d,S j→(X.ops[j]?).bind (·.dst)=some d→X.names.contains d=false→o.dst≠some d:=by
  intro j d hj hjd hjn e
  have:=hst.dup j k d hjd (by rw [hodst];exact e) hjn
  subst this
  exact hk hj
 have cellKeep:∀ y id off l0,OpdOK X S y→ptrOf st2 y=some (id,off)→st2.H[id]? =some (.cells l0)→off<l0.length→st2.tch.any (Touch.cellHit id off)=false →
   ptrOf st y=some (id,off)∧st.tch.any (Touch.cellHit id off)=false∧(∃ l,st.H[id]? =some (.cells l)∧off<l.length)∧w'.cell? (ad (I' id).1 ((I' id).2+off))=w.cell? (ad (I id).1 ((I id).2+off)):=by
  intro y id off l0 hy hp hH hoff hh
  have hym:∀ m,y= .loc m→m≠k:=by
   rintro m rfl rfl
   exact hk hy.1
  have hp1:=toSlot_ptr hts hym hp
  have hp0:=htr.ptr hym hp1
  have hN:=hR.ptrN hy hp0
  have hob:st1.tch.any (Touch.objHit id)=false:=by
   have h1:=(notHit _ hh).2
   cases he:st1.tch.any (Touch.objHit id) with
   |false=>rfl
   |true =>
    rw [List.any_eq_true] at he
    obtain ⟨t,ht,hth⟩:=he
    have:st1.tch.any (Touch.cellHit id off)=true:=by
     rw [List.any_eq_true]
     refine ⟨t,ht,?_⟩
     cases t<;>simp only [Touch.objHit,Touch.cellHit] at hth ⊢<;>first|exact hth|cases hth
    rw [this] at h1;cases h1
  rw [toSlot_H hts] at hH
  obtain ⟨l,hl,hle⟩:=htr.H id l0 hN hob hH
  obtain ⟨e1,e2⟩:=hko id hN hob
  have hO:=hR.ri.H id _ hl
  simp only [OR] at hO
  obtain ⟨_,c,e,f,g1,g2,_⟩:=hO
  refine ⟨hp0,(notHit _ hh).1,⟨l,hl,by omega⟩,?_⟩
  rw [e1]
  simp only [World.cell?,e2 _ g2]
 refine ⟨?_,?_⟩
 ·intro j ai s t d hj hsk hai hop ht hjd hjn hh
  rw [getD_put_other (slotKeep s t ht hh)]
  rcases hj with hj|rfl
  ·rw [getD_put_other (dstKeep j d hj hjd hjn)]
   exact hR.pv.slot j ai s t d hj (skp j (by rintro rfl;exact hk hj) hsk) hai hop ht hjd hjn (notHit _ hh).1
  ·rw [hi] at hai;cases hai
   rw [hodst] at hjd
   rw [hjd,getD_put_same (by simp only;rw [hR.size];exact hst.lt j d (by rw [hodst];exact hjd))]
   rcases hf with hf|hf
   ·exact absurd hf hsk
   ·exact hf.mov s t hop ht
 ·intro j ai y id off d l0 hj hsk hai hop hp hH hoff hh hjd hjn
  rcases hj with hj|rfl
  ·have hy:=hR.cl j ai y hj hai hop
   obtain ⟨h1,h2,⟨l,h3,h4⟩,h5⟩:=cellKeep y id off l0 hy hp hH hoff hh
   rw [getD_put_other (dstKeep j d hj hjd hjn),h5]
   exact hR.pv.cell j ai y id off d l hj (skp j (by rintro rfl;exact hk hj) hsk) hai hop h1 h3 h4 h2 hjd hjn
  ·rw [hi] at hai;cases hai
   have hy:=hcl y hop
   obtain ⟨h1,h2,⟨l,h3,h4⟩,h5⟩:=cellKeep y id off l0 hy hp hH hoff hh
   rw [hodst] at hjd
   rw [hjd,getD_put_same (by simp only;rw [hR.size];exact hst.lt j d (by rw [hodst];exact hjd)),h5]
   rcases hf with hf|hf
   ·exact absurd hf hsk
   ·exact hf.load y id off hop h1
end
end Go.Abs

/- Texts A8 A9 A10 A11 A12 A13 A14 A15 (made short by a program) -/
import Derived.Test.YtkmclibmmlgogaaGreatB0
set_option linter.unusedVariables false
set_option linter.unusedSimpArgs false
open Bool renaming and_eq_true → b5, false_eq_true → b7, not_eq_true' → j5
open List renaming cons_append → L6, getElem?_append_left → x9, getElem?_append_right → s7, getElem?_eq_getElem → s9, getElem?_eq_none → A8, getElem?_set_ne → A1, length_append → E0, length_cons → B7, set_cons_succ → u0, set_cons_zero → y5
open Nat renaming le_refl → n5, lt_or_ge → u9
namespace Go.y3
def lu (G:Gh)(b:Nat)(l:Mr):Gh:=fun x=>if x=b then l else G x
def yW (I:T0)(id:Nat)(p:Nat×Nat):T0:=fun x=>if x=id then p else I x
@[simp] theorem yX (G:Gh) (b:Nat) (l:Mr):lu G b l b=l:=by simp [lu]
theorem O9 {G:Gh}{b:Nat}{l:Mr}{x:Nat}(h:x≠b):lu G b l x=G x:=by simp [lu,h]
@[simp] theorem cV (I:T0) (id:Nat) (p:Nat×Nat):yW I id p id=p:=by simp [yW]
theorem eM {I:T0}{id:Nat}{p:Nat×Nat}{x:Nat}(h:x≠id):yW I id p x=I x:=by simp [yW,h]
def jw (l:G9)(G:Gh)(w:World)(G' :Gh)(w' :World):Prop :=
 ∀ id,l.may id=false->(∀ b,G b= .obj id->G' b= .obj id/\w'.heap[b]? =w.heap[b]?)/\∀ off,aR (.cell id off) G w G' w'
theorem jw.refl (l:G9)(G:Gh)(w:World):jw l G w G w:=fun _ _=>⟨fun _ h=>⟨h,rfl⟩,fun _ _ _ h=>⟨h,rfl⟩⟩
theorem jw.trans {l:G9}{G:Gh}{w:World}{G1:Gh}{w1:World}{G2:Gh}{w2:World}(h:jw l G w G1 w1)(k:jw l G1 w1 G2 w2):jw l G w G2 w2:=by
 intro id hid;obtain ⟨h1,h2⟩:=h id hid;obtain ⟨k1,k2⟩:=k id hid;refine ⟨fun b hb=> ?_,fun off b n hb=> ?_⟩
 ·obtain ⟨a1,a2⟩:=h1 b hb
  obtain ⟨b1,b2⟩:=k1 b a1;exact ⟨b1,b2.trans a2⟩
 ·obtain ⟨a1,a2⟩:=h2 off b n hb
  obtain ⟨b1,b2⟩:=k2 off b n a1;exact ⟨b1,b2.trans a2⟩
def Mq (l:G9)(H:o6):Prop :=
 ∀ id o,H[id]? =some o->(id<l.strict->o.N4<=id+1)/\(id<l.base->o.N4<=l.base)
def DT (_P:Program)(idle:FuncId->Bool)(d:Deferred):Prop :=
 ∃ f cap,d.target= .fn (.func f) cap/\idle f=true
structure RI (X:Cx)(l:G9)(S:Nat->Prop)(st:E5)(a:Act)(w:World)(G:Gh)(I:T0)(N:Nat->Prop):Prop where
 T:∀ (s:Nat) t,X.names[s]? =some t->VR G I N w (.slot s) (st.T.getD s .any) (a.tmps.getD t undef)
 L:∀ (j:Nat),S j->∀ d,(X.ops[j]?).bind (·.dst)=some d->X.names.contains d=false->VR G I N w (.loc j) (st.L.getD j .any) (a.tmps.getD d undef)
 H:HR G I N w st.H
 wf:WF G w
 U8:Mq l st.H
theorem Ce {G:Gh}{b n:Nat}{pl vv :Place}(h:G b= .grow n pl)(x o:Nat):jq (lu G b (.grow n vv)) x o↔jq G x o:=by
 unfold jq lu
 by_cases hx:x=b
 ·subst hx;simp [h]
 ·simp [hx]
theorem Ext.relabel {G:Gh}{w:World}{b n:Nat}{pl vv :Place}(h:G b= .grow n pl):Ext G w (lu G b (.grow n vv)) w where
 os:=rfl
 tape:=rfl
 output:=rfl
 size:=n5 _
 kJ x o hi:=⟨(Ce h x o).2 hi,rfl⟩
 still x hx:=by
  have:x≠b:=by rintro rfl;rw [h] at hx;rcases hx with hx|⟨m,hx⟩<;>cases hx
  exact ⟨O9 this,rfl⟩
 shape _ c _ _ hc:=⟨c,hc,rfl⟩
theorem aR.relabel {G:Gh}{w:World}{b n:Nat}{pl vv q:Place}(h:G b= .grow n pl)(hq:q≠pl):aR q G w (lu G b (.grow n vv)) w:=by
 intro x m hx;have:x≠b:=by rintro rfl;rw [h] at hx;cases hx;exact hq rfl
 exact ⟨by rw [O9 this];exact hx,rfl⟩
structure jv (pl:Place)(G:Gh)(w:World)(G' :Gh):Prop where
 ext:Ext G w G' w
 keeps:∀ q,q≠pl->aR q G w G' w
 obj:∀ b id,G b= .obj id->G' b= .obj id
 wf:WF G w->WF G' w
theorem jv.refl (pl:Place)(G:Gh)(w:World):jv pl G w G:=⟨Ext.refl _ _,fun _ _ _ _ h=>⟨h,rfl⟩,fun _ _ h=>h,fun h=>h⟩
theorem gP {G:Gh}{I:T0}{N:Nat->Prop}{w:World}{pl vv :Place}(hp' :vv ≠ .none){sz len:Nat}{cells:List Data}{x:Value}(h:VR G I N w pl (.own sz len cells) x) :
  ∃ G',jv pl G w G' /\VR G' I N w vv (.own sz len cells) x:=by
 have h0:=h;simp only [VR] at h;obtain ⟨hl,h⟩:=h
 rcases h with h|⟨hp,b,o,cap,c,e,f,h1,h2,h3,h4,h5,h6,h7⟩
 ·exact ⟨G,jv.refl _ _ _,by simp only [VR];exact ⟨hl,Or.inl h⟩⟩
 ·refine ⟨lu G b (.grow (o+len * sz) vv),⟨Ext.relabel h6,fun q hq=>aR.relabel h6 hq,fun x id hx=> ?_,fun hwf x hx=> ?_⟩,?_⟩
  ·have:x≠b:=by rintro rfl;rw [h6] at hx;cases hx
   rw [O9 this];exact hx
  ·have:x≠b:=by
    rintro rfl;have:=hwf x hx;rw [h6] at this;cases this
   rw [O9 this];exact hwf x hx
  ·simp only [VR]
   exact ⟨hl,Or.inr ⟨hp',b,o,cap,c,e,f,h1,h2,h3,h4,h5,yX _ _ _,fH.mono (Ext.relabel h6).kJ b o cells h7⟩⟩
theorem M6 {α:Type}(l:List α)(i:Nat)(v d:α)(h:i<l.length):(l.set i v).getD i d=v:=by
 simp [List.getD,h]
theorem O1 {α:Type}(l:List α)(i j:Nat)(v d:α)(h:i≠j):(l.set i v).getD j d=l.getD j d:=by
 simp [List.getD,A1 h]
theorem p6 {α:Type}{l:List α}{i:Nat}{v:α}(h:l[i]? =some v):i<l.length:=by
 rcases u9 i l.length with h' |h'
 ·exact h'
 ·rw [A8 h'] at h;cases h
theorem au {α:Type}{l:List α}{i:Nat}{v d:α}(h:l[i]? =some v):l.getD i d=v:=by simp [List.getD,h]
section
variable {X:Cx} {l:G9} {S:Nat->Prop} {st:E5} {a:Act} {w:World} {G:Gh} {I:T0} {N:Nat->Prop}
theorem HR.EU {H:o6}{pl:Place}(hH:HR G I N w H){G' :Gh}(hm:jv pl G w G')(DM:∀ id off,pl≠ .cell id off):HR G' I N w H:=by
 intro id o ho;exact OR.mono hm.ext (fun _ _=>rfl) (fun _ h=>h) id o (fun h=>⟨hm.obj _ _ h,rfl⟩) (fun off=>hm.keeps _ (fun e=>DM id off e.symm)) (hH id o ho)
theorem RI.Ri (h:RI X l S st a w G I N){s:Nat}{sz len:Nat}{cells:List Data}(hs:st.T[s]? =some (.own sz len cells))(n6:List Touch)
  {G' :Gh} (hm:jv (.slot s) G w G'):RI X l S { st with T:=st.T.set s (.d (.slice len cells)),n6 } a w G' I N where
 T s' t ht:=by
  by_cases he:s' =s
  ·subst he
   have h1:=h.T s' t ht;rw [au hs] at h1;rw [M6 _ _ _ _ (p6 hs)];have h2:VR G I N w (.slot s') (b6.G4 (.own sz len cells)) (a.tmps.getD t undef):=h1.G4;simp only [b6.G4,VR] at h2 ⊢;exact DR.mono hm.ext.kJ _ _ h2
  ·rw [O1 _ _ _ _ _ (fun e=>he e.symm)]
   exact VR.mono hm.ext (fun _ _=>rfl) (fun _ h=>h) _ _ _ (Or.inr (hm.keeps _ (fun e=>he (by cases e;rfl)))) (h.T s' t ht)
 L j hj d hd hn:=VR.mono hm.ext (fun _ _=>rfl) (fun _ h=>h) _ _ _ (Or.inr (hm.keeps _ (fun e=>by cases e))) (h.L j hj d hd hn)
 H:=h.H.EU hm (fun _ _ e=>by cases e)
 wf:=hm.wf h.wf
 U8:=h.U8
theorem RI.KA (h:RI X l S st a w G I N){j0:Nat}{sz len:Nat}{cells:List Data}(hs:st.L[j0]? =some (.own sz len cells))
  {G' :Gh} (hm:jv (.loc j0) G w G'):RI X l S { st with L:=st.L.set j0 (.d (.slice len cells)) } a w G' I N where
 T s' t ht:=VR.mono hm.ext (fun _ _=>rfl) (fun _ h=>h) _ _ _ (Or.inr (hm.keeps _ (fun e=>by cases e))) (h.T s' t ht)
 L j hj d hd hn:=by
  by_cases he:j=j0
  ·subst he
   have h1:=h.L j hj d hd hn;rw [au hs] at h1;rw [M6 _ _ _ _ (p6 hs)];have h2:VR G I N w (.loc j) (b6.G4 (.own sz len cells)) (a.tmps.getD d undef):=h1.G4;simp only [b6.G4,VR] at h2 ⊢;exact DR.mono hm.ext.kJ _ _ h2
  ·rw [O1 _ _ _ _ _ (fun e=>he e.symm)]
   exact VR.mono hm.ext (fun _ _=>rfl) (fun _ h=>h) _ _ _ (Or.inr (hm.keeps _ (fun e=>he (by cases e;rfl)))) (h.L j hj d hd hn)
 H:=h.H.EU hm (fun _ _ e=>by cases e)
 wf:=hm.wf h.wf
 U8:=h.U8
theorem kz:∀ (l:List b6) (i:Nat) (x:Data),A4 (l.set i (.d x))<=A4 l
 |[],_,_=>by simp
 |v::vs,0,x=>by simp only [y5,A4,b6.N4];omega
 |v::vs,i+1,x=>by
  have:=kz vs i x;simp only [u0,A4];omega
theorem RI.Rh (h:RI X l S st a w G I N){id off:Nat}{cs:List b6}{sz len:Nat}{cells:List Data}(hid:st.H[id]? =some (.cells cs))(hs:cs[off]? =some (.own sz len cells))(n6:List Touch)
  {G' :Gh} (hm:jv (.cell id off) G w G'):RI X l S { st with H:=st.H.set id (.cells (cs.set off (.d (.slice len cells)))),n6 } a w G' I N where
 T s' t ht:=by
  exact VR.mono hm.ext (fun _ _=>rfl) (fun _ h=>h) _ _ _ (Or.inr (hm.keeps _ (fun e=>by cases e))) (h.T s' t ht)
 L j hj d hd hn:=by
  exact VR.mono hm.ext (fun _ _=>rfl) (fun _ h=>h) _ _ _ (Or.inr (hm.keeps _ (fun e=>by cases e))) (h.L j hj d hd hn)
 H:=by
  intro id' o ho
  by_cases he:id' =id
  ·subst he
   rw [List.getElem?_set_self (p6 hid)] at ho;cases ho;have hO:=h.H id' _ hid;simp only [OR] at hO ⊢;obtain ⟨hN,c,e,f,h1,h2,h3,h4,h5⟩:=hO
   ·refine ⟨hN,c,e,f,h1,hm.obj _ _ h2,h3,by simpa using h4,fun i x hx=> ?_⟩
    by_cases hi:i=off
    ·subst hi
     rw [List.getElem?_set_self (p6 hs)] at hx;cases hx;obtain ⟨v,g1,g2⟩:=h5 i _ hs;refine ⟨v,g1,?_⟩;have h2:VR G I N w (.cell id' i) (b6.G4 (.own sz len cells)) v:=g2.G4;simp only [b6.G4,VR] at h2 ⊢;exact DR.mono hm.ext.kJ _ _ h2
    ·rw [A1 (fun e=>hi e.symm)] at hx
     obtain ⟨v,g1,g2⟩:=h5 i x hx;exact ⟨v,g1,VR.mono hm.ext (fun _ _=>rfl) (fun _ h=>h) _ _ _ (Or.inr (hm.keeps _ (fun e=>hi (by cases e;rfl)))) g2⟩
  ·rw [A1 (fun e=>he e.symm)] at ho
   exact OR.mono hm.ext (fun _ _=>rfl) (fun _ h=>h) id' o (fun h=>⟨hm.obj _ _ h,rfl⟩) (fun off' =>hm.keeps _ (fun e=>he (by cases e;rfl))) (h.H id' o ho)
 wf:=hm.wf h.wf
 U8:=by
  intro id' o ho
  by_cases he:id' =id
  ·subst he
   rw [List.getElem?_set_self (p6 hid)] at ho;cases ho;obtain ⟨d1,d2⟩:=h.U8 id' _ hid;have hb:=kz cs off (.slice len cells);simp only [y7.N4] at d1 d2 ⊢;exact ⟨fun hx=>by have:=d1 hx;omega,fun hx=>by have:=d2 hx;omega⟩
  ·rw [A1 (fun e=>he e.symm)] at ho
   exact h.U8 id' o ho
end
structure jr (w w' :World)(o:Obj):Prop where
 os:w'.os=w.os
 tape:w'.tape=w.tape
 output:w'.output=w.output
 size:w'.heap.size=w.heap.size+1
 old:∀ b,b<w.heap.size->w'.heap[b]? =w.heap[b]?
 new:w'.heap[w.heap.size]? =some o
theorem jr.alloc (w:World)(o:Obj):jr w (w.alloc o) o :=
 ⟨rfl,rfl,rfl,by simp,fun b hb=>RowKit.Below.heap_alloc w o b hb,by show (w.heap.push o)[w.heap.size]? =_;simp⟩
theorem jr.drew {w w' :World}{o:Obj}(h:jr w w' o)(n:Nat):jr w { w' with drawn:=n } o:=⟨h.os,h.tape,h.output,h.size,h.old,h.new⟩
theorem iI {G:Gh}{w:World}(hwf:WF G w){b:Nat}(h:G b≠ .free):b<w.heap.size:=by
 rcases u9 b w.heap.size with h' |h'
 ·exact h'
 ·exact absurd (hwf b h') h
section
variable {G:Gh} {w w' :World} {ob:Obj}
theorem jr.cell (hn:jr w w' ob){b:Nat}(hb:b<w.heap.size)(o:Nat):w'.cell? (ad b o)=w.cell? (ad b o):=by
 simp [World.cell?,hn.old b hb]
theorem jr.ext (hn:jr w w' ob)(hwf:WF G w)(jH:Mr):Ext G w (lu G w.heap.size jH) w' where
 os:=hn.os
 tape:=hn.tape
 output:=hn.output
 size:=by rw [hn.size];omega
 kJ b o hi:=by
  have hb:b<w.heap.size:=iI hwf (by grind [jq]);have hne:b≠w.heap.size:=by omega
  refine ⟨?_,hn.cell hb o⟩;simp_all [jq,O9]
 still b hb:=by
  have hlt:b<w.heap.size:=iI hwf (by grind);exact ⟨O9 (by omega),hn.old b hlt⟩
 shape b c e f hc:=by
  have hlt:b<w.heap.size:=by
   grind
  exact ⟨c,by rw [hn.old b hlt];exact hc,rfl⟩
theorem jr.keeps (hn:jr w w' ob)(hwf:WF G w)(jH:Mr)(q:Place):aR q G w (lu G w.heap.size jH) w' :=by
 intro b n hb;have hlt:b<w.heap.size:=iI hwf (by rw [hb];simp);exact ⟨by grind [O9],hn.old b hlt⟩
theorem jr.xO (hn:jr w w' ob)(hwf:WF G w)(jH:Mr)(id:Nat):∀ b,G b= .obj id->(lu G w.heap.size jH) b= .obj id/\w'.heap[b]? =w.heap[b]? :=by
 intro b hb;have hlt:b<w.heap.size:=iI hwf (by rw [hb];simp);exact ⟨by grind [O9],hn.old b hlt⟩
theorem jr.wf (hn:jr w w' ob)(hwf:WF G w)(jH:Mr):WF (lu G w.heap.size jH) w' :=by
 intro b hb;rw [hn.size] at hb;rw [O9 (by omega)];exact hwf b (by omega)
theorem jr.eE (hn:jr w w' ob)(hwf:WF G w)(jH:Mr)(l:G9):jw l G w (lu G w.heap.size jH) w' :=
 fun id _=>⟨hn.xO hwf jH id,fun off=>hn.keeps hwf jH (.cell id off)⟩
theorem jr.hr (hn:jr w w' ob)(hwf:WF G w)(jH:Mr){I I' :T0}{N N' :Nat->Prop}{H:o6}(hI:∀ id,N id->I' id=I id)(hN:∀ id,N id->N' id)(h:HR G I N w H) :
  HR (lu G w.heap.size jH) I' N' w' H :=
 fun id o ho=>OR.mono (hn.ext hwf jH) hI hN id o (fun hb=>hn.xO hwf jH id _ hb) (fun _=>hn.keeps hwf jH _) (h id o ho)
theorem jr.vr (hn:jr w w' ob)(hwf:WF G w)(jH:Mr){I I' :T0}{N N' :Nat->Prop}(hI:∀ id,N id->I' id=I id)(hN:∀ id,N id->N' id){pl:Place}{a:b6}{x:Value}(h:VR G I N w pl a x) :
  VR (lu G w.heap.size jH) I' N' w' pl a x :=
 VR.mono (hn.ext hwf jH) hI hN pl a x (Or.inr (hn.keeps hwf jH pl)) h
end
structure cK (X:Cx)(l:G9)(S:Nat->Prop)(entry:Nat)(st:E5)(a:Act)(w:World)(G:Gh)(I:T0)(N:Nat->Prop)
  (st' :E5) (k:Nat) (x' :Value) (w' :World) (G' :Gh) (I' :T0) (N' :Nat->Prop):Prop where
 ri:RI X l S st' a w' G' I' N'
 val:VR G' I' N' w' (.loc k) (st'.L.getD k .any) x'
 ext:Ext G w G' w'
 eE:jw l G w G' w'
 ko:∀ id,N id->st'.n6.any (Touch.K4 id)=false->I' id=I id/\∀ b,G b= .obj id->G' b= .obj id/\w'.heap[b]? =w.heap[b]?
 inj:∀ id,id<entry->N id->I' id=I id
 mono:∀ id,N id->N' id
 len:st.H.length<=st'.H.length
 hle:∀ id o',id<l.base->st'.H[id]? =some o' ->o'.N4<=id+1\/∃ o,st.H[id]? =some o/\o'.N4<=o.N4
section
variable {P:Program} {X:Cx} {l:G9} {S:Nat->Prop} {st:E5} {a:Act} {w w' :World} {G:Gh} {I:T0} {N:Nat->Prop} {ob:Obj}
theorem RI.new (h:RI X l S st a w G I N)(hn:jr w w' ob)(jH:Mr):RI X l S st a w' (lu G w.heap.size jH) I N where
 T s t ht:=hn.vr h.wf jH (fun _ _=>rfl) (fun _ h=>h) (h.T s t ht)
 L j hj d hd hN:=hn.vr h.wf jH (fun _ _=>rfl) (fun _ h=>h) (h.L j hj d hd hN)
 H:=hn.hr h.wf jH (fun _ _=>rfl) (fun _ h=>h) h.H
 wf:=hn.wf h.wf jH
 U8:=h.U8
theorem RI.put (h:RI X l S st a w G I N){k:Nat}(hk:¬ S k)(v:b6):RI X l S (put st k v) a w G I N where
 T:=h.T
 L j hj d hd hN:=by
  have:k≠j:=by grind
  simp only [y3.put];rw [O1 _ _ _ _ _ this];exact h.L j hj d hd hN
 H:=h.H
 wf:=h.wf
 U8:=h.U8
theorem cK.same (h:RI X l S st a w G I N){k:Nat}(hk:¬ S k)(aV:k<st.L.length)(entry:Nat){v:b6}{x:Value}(hv:VR G I N w (.loc k) v x) :
  cK X l S entry st a w G I N (put st k v) k x w G I N where
 ri:=h.put hk v
 val:=by simp_all [y3.put,M6]
 ext:=Ext.refl _ _
 eE:=jw.refl _ _ _
 ko _ _ _:=⟨rfl,fun _ hb=>⟨hb,rfl⟩⟩
 inj _ _ _:=rfl
 mono _ h:=h
 len:=n5 _
 hle _ o _ ho:=Or.inr ⟨o,ho,n5 _⟩
theorem cK.fresh (h:RI X l S st a w G I N){k:Nat}(hk:¬ S k)(aV:k<st.L.length)(entry:Nat)(hn:jr w w' ob)(jH:Mr){v:b6}{x:Value}
  (hv:VR (lu G w.heap.size jH) I N w' (.loc k) v x):cK X l S entry st a w G I N (put st k v) k x w' (lu G w.heap.size jH) I N where
 ri:=(h.new hn jH).put hk v
 val:=by simp_all [y3.put,M6]
 ext:=hn.ext h.wf jH
 eE:=hn.eE h.wf jH l
 ko id _ _:=⟨rfl,hn.xO h.wf jH id⟩
 inj _ _ _:=rfl
 mono _ h:=h
 len:=n5 _
 hle _ o _ ho:=Or.inr ⟨o,ho,n5 _⟩
end
section
variable {G:Gh} {I:T0} {N:Nat->Prop} {w w' :World}
theorem iE:∀ (cs:List b6) (xs:List Data) (vs:List Value),N9 cs=some xs->I7 G I N w cs vs ->
  xs.length=cs.length/\∀ (i:Nat) x,xs[i]? =some x->∃ v,vs[i]? =some v/\DR G w x v
 |[],xs,vs,h,_=>by
  simp_all [N9]
 |c::cs,xs,vs,h,hv=>by
  obtain ⟨v,vs',rfl,h2,h3⟩:=hv;unfold N9 at h;split at h
  ·rename_i x hx
   split at h
   ·rename_i ys hys
    simp at h;subst h;obtain ⟨g1,g2⟩:=iE cs ys vs' hys h3;refine ⟨by simp [g1],fun i y hi=> ?_⟩;cases i with
    |zero =>
     unfold b6.data? at hx;split at hx
     ·simp_all [VR]
     ·have:=h2.G4 (vv := .none)
      simp_all [b6.G4,VR]
     ·have:=h2.G4 (vv := .none)
      simp_all [b6.G4,VR]
     ·cases hx
    |succ i=>simp_all
   ·cases h
  ·cases h
theorem wu {b:Nat}:∀ (o:Nat) (xs:List Data),(∀ (i:Nat) x,xs[i]? =some x->jq G b (o+i)/\∃ v,w.cell? (ad b (o+i))=some v/\DR G w x v)->fH G w b o xs
 |_,[],_=>by simp [fH]
 |o,x::xs,h=>by
  obtain ⟨h1,h2⟩:=h 0 x rfl;refine ⟨by omega,by omega,wu (o+1) xs fun i y hi=> ?_⟩;have:=h (i+1) y (by simp_all)
  grind
theorem Kb (hwf:WF G w){c:Array Value}{e:TypeId}{f:Nat×Nat}(hn:jr w w' (.cells c e f))(hf:HG f c.size){cs:List b6}{xs:List Data}{vs:List Value}
  (hd:N9 cs=some xs) (hv:I7 G I N w cs vs) (hc:∀ (i:Nat) v,vs[i]? =some v->c[i]? =some v) {sz len cap:Nat} (hl:xs.length=len * sz) (hcap:len<=cap) (hsz:cap * sz<=c.size) {pl:Place} (hp:pl≠ .none) :
  VR (lu G w.heap.size (.grow (len * sz) pl)) I N w' pl (.own sz len xs) (.slice (some (ad w.heap.size 0)) len cap):=by
 refine ⟨hl,Or.inr ⟨hp,w.heap.size,0,cap,c,e,f,rfl,hcap,hn.new,by omega,hf,by simp,?_⟩⟩;obtain ⟨g1,g2⟩:=iE cs xs vs hd hv;refine wu 0 xs fun i x hi=> ?_
 obtain ⟨v,e1,e2⟩:=g2 i x hi;have hlt:=p6 hi;refine ⟨by simp [jq];omega,v,?_,DR.mono (hn.ext hwf _).kJ _ _ e2⟩;rw [T8 hn.new];simp_all
end
def DF (P:Program)(e:TypeId)(n:Nat):Option (List Value) :=
 if n=0 then some [] else
 match P.info? e with
 |some i=>match i.zero with
  |some z=>some ((Array.range n).map (z.cells[· % z.cells.size]!)).toList
  |none=>none
 |none=>none
def de (P:Program)(ck:Operand->q7->Bool)(o:Oper)(op:q9):Bool :=
 match o.op,op with
 | .alloc t,.alloc zero=>zh P t zero
 | .box _ x,.box y=>ck x y
 | .makeMap _ none,.makeMap=>true
 | .buildSlice t n parts,.p8 sz len zero ps _=>n==len&&mJ P t sz&&decide (len * sz<=16777216)&&(match P.underlying t with
  |some (.slice e)=>(match DF P e (len * sz) with
   |some zs=>consts zs zero&&iL P ck (fun i=>some (i * sz,sz)) parts.toList ps
   |none=>false)
  |_=>false)
 | .convert s d x,.Cv y=>ck x y&&(P.underlying s).isSome&&(match P.underlying d with|some (.slice e)=>(match P.underlying e with|some (.int .u8)=>true|_=>false)|_=>false)
 |_,_=>false
section
variable {P:Program} {X:Cx} {l:G9} {S:Nat->Prop} {st:E5} {a:Act} {w w' :World} {G:Gh} {I:T0} {N:Nat->Prop} {ob:Obj}
structure DS (l:G9)(st:E5)(N:Nat->Prop)(u5:Option Nat):Prop where
 new:¬ N (newId st u5)
 inside:∀ i,u5=some i->i<st.H.length
 base:l.base<=newId st u5
 strict:l.strict<=newId st u5
theorem EX (st:E5)(u5:Option Nat)(o:y7):st.H.length<=(J7 st u5 o).H.length:=by
 cases u5<;>simp [J7]
theorem iK {st:E5}{u5:Option Nat}(hi:∀ i,u5=some i->i<st.H.length)(o:y7)(id:Nat)(o' :y7)(h:(J7 st u5 o).H[id]? =some o') :
  (id=newId st u5/\o' =o)\/(id≠newId st u5/\st.H[id]? =some o'):=by
 cases u5 with
 |none =>
  simp only [J7,newId,Option.getD_none] at h ⊢
  rcases Nat.lt_trichotomy id st.H.length with hlt|heq|hgt
  ·rw [x9 hlt] at h
   exact Or.inr ⟨by omega,h⟩
  ·subst heq
   simp at h;exact Or.inl ⟨rfl,h.symm⟩
  ·rw [A8 (by simp;omega)] at h;cases h
 |some i =>
  simp only [J7,newId,Option.getD_some] at h ⊢
  by_cases he:id=i
  ·subst he
   rw [List.getElem?_set_self (hi id rfl)] at h;exact Or.inl ⟨rfl,by cases h;rfl⟩
  ·rw [A1 (fun e=>he e.symm)] at h
   exact Or.inr ⟨he,h⟩
theorem cK.newObj (h:RI X l S st a w G I N){k:Nat}(hk:¬ S k)(aV:k<st.L.length)(entry:Nat){u5:Option Nat}(hid:DS l st N u5)(hn:jr w w' ob)(o:y7)
  (ho:OR (lu G w.heap.size (.obj (newId st u5))) (yW I (newId st u5) (w.heap.size,0)) (fun i=>N i\/i=newId st u5) w' (newId st u5) o) {v:b6} {x:Value}
  (hv:VR (lu G w.heap.size (.obj (newId st u5))) (yW I (newId st u5) (w.heap.size,0)) (fun i=>N i\/i=newId st u5) w' (.loc k) v x) :
  cK X l S entry st a w G I N (put (J7 st u5 o) k v) k x w' (lu G w.heap.size (.obj (newId st u5))) (yW I (newId st u5) (w.heap.size,0)) (fun i=>N i\/i=newId st u5):=by
 have hI:∀ id,N id->yW I (newId st u5) (w.heap.size,0) id=I id:=fun id hN=>eM (by rintro rfl;exact hid.new hN)
 have hT:(J7 st u5 o).T=st.T:=by cases u5<;>rfl
 have hL:(J7 st u5 o).L=st.L:=by cases u5<;>rfl
 refine ⟨⟨?_,?_,?_,hn.wf h.wf _,?_⟩,?_,hn.ext h.wf _,hn.eE h.wf _ l,?_,?_,fun _ h=>Or.inl h,EX st u5 o,?_⟩
 ·intro s t ht
  simp only [y3.put,hT];exact hn.vr h.wf _ hI (fun _ h=>Or.inl h) (h.T s t ht)
 ·intro j hj d hd hN
  have:k≠j:=by rintro rfl;exact hk hj
  simp only [y3.put,hL];rw [O1 _ _ _ _ _ this];exact hn.vr h.wf _ hI (fun _ h=>Or.inl h) (h.L j hj d hd hN)
 ·intro id o' ho'
  simp only [y3.put] at ho'
  rcases iK hid.inside o id o' ho' with ⟨rfl,rfl⟩|⟨hne,hold⟩
  ·exact ho
  ·exact OR.mono (hn.ext h.wf _).sub hI (fun _ h=>Or.inl h) id o' (fun hb=>hn.xO h.wf _ id _ hb) (fun _=>hn.keeps h.wf _ _) (h.H id o' hold)
 ·intro id o' ho'
  simp only [y3.put] at ho'
  rcases iK hid.inside o id o' ho' with ⟨rfl,rfl⟩|⟨hne,hold⟩
  ·exact ⟨fun hx=>absurd hx (by have:=hid.strict;omega),fun hx=>absurd hx (by have:=hid.base;omega)⟩
  ·exact h.U8 id o' hold
 ·simp only [y3.put,hL]
  rw [M6 _ _ _ _ aV];exact hv
 ·intro id hN _
  exact ⟨hI id hN,hn.xO h.wf _ id⟩
 ·intro id _ hN
  exact hI id hN
 ·intro id o' hb ho'
  simp only [y3.put] at ho'
  rcases iK hid.inside o id o' ho' with ⟨rfl,rfl⟩|⟨hne,hold⟩
  ·exact absurd hb (by have:=hid.base;omega)
  ·exact Or.inr ⟨o',hold,n5 _⟩
theorem sW (n:Nat):HG (0,0) n:=by intro o _ h;simp at h
theorem HI (hwf:WF G w){c:Array Value}{e:TypeId}(hn:jr w w' (.cells c e)){id:Nat}(hid:¬ N id){cs:List b6}(hv:I7 G I N w cs c.toList) :
  OR (lu G w.heap.size (.obj id)) (yW I id (w.heap.size,0)) (fun i=>N i\/i=id) w' id (.cells cs):=by
 simp only [OR];refine ⟨Or.inr trivial,c,e,(0,0),by simpa using hn.new,by simp,sW _,?_,fun i x hx=> ?_⟩
 ·have:=I7.length _ _ hv
  simp at this;simp [this]
 ·obtain ⟨v,g1,g2⟩:=I7.get cs _ hv i x hx
  refine ⟨v,by simpa using g1,?_⟩;exact (hn.vr hwf _ (fun j hj=>eM (by rintro rfl;exact hid hj)) (fun _ h=>Or.inl h) g2).place
variable {ck:Operand->q7->Bool}
theorem MZ (h:RI X l S st a w G I N){k:Nat}(hk:¬ S k)(aV:k<st.L.length)(entry:Nat){u5:Option Nat}(hid:DS l st N u5){o:Oper}{zero:List b6}
  (hc:de P ck o (.alloc zero)=true):∃ x w' G' I' N',(execOp a.eval o).run P w= .ok (.value x) w' /\
   cK X l S entry st a w G I N (put (J7 st u5 (.cells zero)) k (.ptr (newId st u5) 0)) k x w' G' I' N' /\(∀ i,N' i↔N i\/i=newId st u5):=by
 obtain ⟨dst,ct,ty,pos,after,guard⟩:=o;cases ct<;>simp only [de] at hc<;>try (cases hc;done)
 rename_i t;obtain ⟨it,z,e1,e2,e3⟩:=kW (G:=G) (I:=I) (N:=N) (w:=w) hc;have hz:(zeroValue t).run P w= .ok z w:=by simp [zeroValue,typeInfo,e1,e2]
 refine ⟨.pointer (some (ad w.heap.size 0)),w.alloc (.cells z.cells t),_,_,_,?_,cK.newObj h hk aV entry hid (jr.alloc w (.cells z.cells t)) (.cells zero) (HI h.wf (jr.alloc w _) hid.new e3) ?_,fun i=>Iff.rfl⟩
 ·simp [execOp,Instr.alloc,hz,newVar,newRow]
 ·simp only [VR];exact ⟨Or.inr trivial,by simp⟩
theorem TB (h:RI X l S st a w G I N)(hρ:aL ck G I N w a.eval (F5 st.T st.L)){k:Nat}(hk:¬ S k)(aV:k<st.L.length)(entry:Nat){u5:Option Nat}(hid:DS l st N u5){o:Oper}{y:q7}
  (hc:de P ck o (.box y)=true) {cs:List b6} (hcs:(F5 st.T st.L y).cells? =some cs):∃ x w' G' I' N',(execOp a.eval o).run P w= .ok (.value x) w' /\
   cK X l S entry st a w G I N (put (J7 st u5 (.cells cs)) k (.ptr (newId st u5) 0)) k x w' G' I' N' /\(∀ i,N' i↔N i\/i=newId st u5):=by
 obtain ⟨dst,ct,ty,pos,after,guard⟩:=o;cases ct<;>simp only [de] at hc<;>try (cases hc;done)
 rename_i t x;obtain ⟨g1,_⟩:=ud hcs (hρ _ _ hc);refine ⟨.pointer (some (ad w.heap.size 0)),w.alloc (.cells (a.eval x).cells t),_,_,_,?_,cK.newObj h hk aV entry hid (jr.alloc w (.cells (a.eval x).cells t)) (.cells cs) (HI h.wf (jr.alloc w _) hid.new g1) ?_,fun i=>Iff.rfl⟩
 ·simp [execOp,Instr.box,newVar,newRow]
 ·simp only [VR];exact ⟨Or.inr trivial,by simp⟩
theorem TC (h:RI X l S st a w G I N){k:Nat}(hk:¬ S k)(aV:k<st.L.length)(entry:Nat){u5:Option Nat}(hid:DS l st N u5){o:Oper}
  (hc:de P ck o .makeMap=true):∃ x w' G' I' N',(execOp a.eval o).run P w= .ok (.value x) w' /\
   cK X l S entry st a w G I N (put (J7 st u5 (.map [])) k (.map (newId st u5))) k x w' G' I' N' /\(∀ i,N' i↔N i\/i=newId st u5):=by
 obtain ⟨dst,ct,ty,pos,after,guard⟩:=o;unfold de at hc;split at hc<;>try (cases hc;done)
 all_goals try (rename_i fK dX;cases dX;done)
 rename_i t fK dX;simp only at fK;subst fK;have hn:=jr.alloc w (.map #[] 0);refine ⟨.map (some w.heap.size),w.alloc (.map #[] 0),_,_,_,?_,cK.newObj h hk aV entry hid hn (.map []) ?_ ?_,fun i=>Iff.rfl⟩
 ·simp [execOp,Instr.makeMap]
 ·simp only [OR]
  exact ⟨Or.inr trivial,#[],0,by simpa using hn.new,by simp,by simp [ER]⟩
 ·simp only [VR];exact ⟨Or.inr trivial,by simp⟩
theorem mW (hρ:aL ck G I N w a.eval (F5 st.T st.L)){o:Oper}{sz len:Nat}{zero:List b6}{ps:List (Nat×Nat×q7)}{b:Bool}
  (hc:de P ck o (.p8 sz len zero ps b)=true) {cs:List b6} (hcs:bU zero (ps.map fun (o,s,x)=>(o,s,F5 st.T st.L x))=some cs) :
  ∃ (ys:Array Value) (e:TypeId),(execOp a.eval o).run P w= .ok (.value (.slice (some (ad w.heap.size 0)) len len)) (w.alloc (.cells ys e))/\I7 G I N w cs ys.toList:=by
 obtain ⟨dst,ct,ty,pos,after,guard⟩:=o;cases ct<;>simp only [de,b5,beq_iff_eq,decide_eq_true_eq] at hc<;>try (cases hc;done)
 rename_i t n parts;obtain ⟨⟨⟨rfl,ht⟩,Sw⟩,hz⟩:=hc;obtain ⟨e,hu,OZ,UZ⟩:=gM ht;have hsize:(sizeOf e).run P w= .ok sz w:=by rw [<- OZ];exact run_sizeOf UZ
 simp only [hu] at hz;split at hz
 ·rename_i zs hzs
  simp only [b5] at hz;obtain ⟨hz1,hz2⟩:=hz;have Zt:I7 G I N w zero zs:=di _ _ hz1;obtain ⟨ys,f1,f2⟩:=kE (P:=P) hρ parts.toList ps zero cs zs.toArray hz2 (by simpa using Zt) hcs;refine ⟨ys,e,?_,f2⟩;have hno:¬ n * sz>2 ^ 24:=by omega
  have OX:(parts.map fun (i,x)=>(i,a.eval x)).toList=parts.toList.map fun (i,x)=>(i,a.eval x):=by simp
  by_cases h0:n * sz=0
  ·unfold DF at hzs
   rw [if_pos h0] at hzs;simp at hzs;subst hzs;simp only [execOp,Instr.buildSlice,Sem.run_bind,run_underlying hu,Result.andThen_ok,hsize,if_neg hno,if_pos h0,Sem.run_pure,OX];have e1:(Array.range (n * sz)).map (fun x=>((#[]:Array Value)[x % (#[]:Array Value).size]!))= #[]:=by rw [h0];simp
   rw [e1];simp only [f1];simp [newRow]
  ·unfold DF at hzs
   rw [if_neg h0] at hzs;split at hzs
   ·rename_i it hit
    split at hzs
    ·rename_i z hzz
     simp only [Option.some.injEq] at hzs;have hzv:(zeroValue e).run P w= .ok z w:=by simp [zeroValue,typeInfo,hit,hzz]
     have e1:(Array.range (n * sz)).map (fun x=>z.cells[x % z.cells.size]!)=zs.toArray:=by rw [<- hzs]
     simp only [execOp,Instr.buildSlice,Sem.run_bind,run_underlying hu,Result.andThen_ok,hsize,if_neg hno,if_neg h0,Sem.run_pure,hzv,OX,e1,f1];simp [newRow]
    ·cases hzs
   ·cases hzs
 ·cases hz
theorem Na (h:RI X l S st a w G I N)(hρ:aL ck G I N w a.eval (F5 st.T st.L)){k:Nat}(hk:¬ S k)(aV:k<st.L.length)(entry:Nat){o:Oper}{sz len:Nat}{zero:List b6}{ps:List (Nat×Nat×q7)}
  (hc:de P ck o (.p8 sz len zero ps false)=true) {v:b6} {rs:List Nat} (hp:m6 (F5 st.T st.L) st.H (.p8 sz len zero ps false)=some (v,rs)) :
  ∃ x w' G',(execOp a.eval o).run P w= .ok (.value x) w' /\cK X l S entry st a w G I N (put st k v) k x w' G' I N:=by
 simp only [m6] at hp;split at hp
 ·rename_i cs hcs
  split at hp
  ·rename_i xs hxs
   split at hp
   ·rename_i hl
    simp at hp;obtain ⟨rfl,rfl⟩:=hp;obtain ⟨ys,e,hrun,hvs⟩:=mW (P:=P) hρ hc hcs;have hn:=jr.alloc w (.cells ys e);have hlen:ys.size=len * sz:=by
     have h1:=I7.length _ _ hvs;have h2:=(iE cs xs _ hxs hvs).1;simp at h1;omega
    exact ⟨_,_,_,hrun,cK.fresh h hk aV entry hn _ (Kb h.wf hn (sW _) hxs hvs (fun i v hi=>by simpa using hi) hl.2 (n5 _) (by omega) (by simp))⟩
   ·cases hp
  ·cases hp
 ·cases hp
theorem CQ (h:RI X l S st a w G I N)(hρ:aL ck G I N w a.eval (F5 st.T st.L)){k:Nat}(hk:¬ S k)(aV:k<st.L.length)(entry:Nat){u5:Option Nat}(hid:DS l st N u5){o:Oper}{sz len:Nat}{zero:List b6}
  {ps:List (Nat×Nat×q7)} (hc:de P ck o (.p8 sz len zero ps true)=true) {cs:List b6} (hcs:bU zero (ps.map fun (o,s,x)=>(o,s,F5 st.T st.L x))=some cs) (hl:cs.length=len * sz) :
  ∃ x w' G' I' N',(execOp a.eval o).run P w= .ok (.value x) w' /\
   cK X l S entry st a w G I N (put (J7 st u5 (.cells cs)) k (.D4 (newId st u5) sz 0 len)) k x w' G' I' N' /\(∀ i,N' i↔N i\/i=newId st u5):=by
 obtain ⟨ys,e,hrun,hvs⟩:=mW (P:=P) hρ hc hcs;have hn:=jr.alloc w (.cells ys e);have hlen:ys.size=len * sz:=by
  have h1:=I7.length _ _ hvs;simp at h1;omega
 refine ⟨_,_,_,_,_,hrun,cK.newObj h hk aV entry hid hn (.cells cs) (HI h.wf hn hid.new hvs) ?_,fun i=>Iff.rfl⟩;simp only [VR];exact ⟨Or.inr trivial,len,by simp,n5 _,ys,e,(0,0),by simpa using hn.new,by simp;omega⟩
end
section
variable {P:Program} {X:Cx} {l:G9} {S:Nat->Prop} {st:E5} {a:Act} {w w' :World} {G:Gh} {I:T0} {N:Nat->Prop} {D:Nat->Bool}
theorem RI.R8 (h:RI X l S st a w G I N)(hD:∀ j,D j=true->S j):aL (X.ck D) G I N w a.eval (F5 st.T st.L):=by
 intro x y hc;unfold Cx.ck at hc;split at hc
 ·rename_i t s
  have ht:X.names[s]? =some t:=by simpa using hc
  simp only [F5,Act.eval];exact (h.T s t ht).G4
 ·rename_i t j
  simp only [b5,beq_iff_eq,j5] at hc;simp only [F5,Act.eval];exact (h.L j (hD j hc.1.1) t hc.1.2 hc.2).G4
 ·rename_i v b
  simp only [F5,Act.eval];exact (bS v b hc).NP
 ·rename_i f g
  have:f=g:=by simpa using hc
  subst this;simp only [F5,b6.NP,b6.G4,Act.eval,VR];exact ⟨#[],#[],rfl,by simp [I7],by simp [I7]⟩
 ·simp [F5,b6.NP,b6.G4,VR]
 ·cases hc
theorem ze (st:E5)(y:q7):(D7 st y).2.H=st.H:=by
 cases y<;>simp only [D7];split<;>rfl
theorem zf (st:E5)(y:q7):(D7 st y).2.L.length=st.L.length:=by
 cases y<;>simp only [D7];split<;>simp
structure Xf (X:Cx)(l:G9)(S:Nat->Prop)(st:E5)(y:q7)(a:Act)(w:World)(G:Gh)(I:T0)(N:Nat->Prop)(pl:Place)(x:Value)(G' :Gh):Prop where
 ri:RI X l S (D7 st y).2 a w G' I N
 val:VR G' I N w pl (D7 st y).1 x
 ext:Ext G w G' w
 keeps:∀ id off,aR (.cell id off) G w G' w
 obj:∀ b id,G b= .obj id->G' b= .obj id
theorem RI.D7 (h:RI X l S st a w G I N)(hD:∀ j,D j=true->S j){x:Operand}{y:q7}(hc:X.ck D x y=true){pl:Place}(hp:pl≠ .none) :
  ∃ G',Xf X l S st y a w G I N pl (a.eval x) G' :=by
 have hρ:=h.R8 hD x y hc;have simple:(y3.D7 st y).2=st->VR G I N w .none (y3.D7 st y).1 (a.eval x)->∃ G',Xf X l S st y a w G I N pl (a.eval x) G' :=
  fun h1 h2=>⟨G,by rw [h1];exact h,h2.place,Ext.refl _ _,fun _ _ _ _ h=>⟨h,rfl⟩,fun _ _ h=>h⟩
 cases y with
 |slot s=>exact simple rfl hρ
 |const v =>
  refine simple rfl ?_;unfold Cx.ck at hc;split at hc
  ·simp_all
  ·simp_all
  ·rename_i v' b heq
   cases heq;exact bS _ _ hc
  ·rename_i f g heq
   cases heq;simpa [F5,b6.NP,b6.G4,y3.D7] using hρ
  ·rename_i heq
   cases heq;simp [y3.D7,VR]
  ·cases hc
 |loc j =>
  by_cases hown:∃ z len cells,st.L[j]? =some (.own z len cells)
  ·obtain ⟨z,len,cells,hj⟩:=hown
   unfold Cx.ck at hc;split at hc
   ·simp_all
   ·rename_i t j' heq
    cases heq;simp only [b5,beq_iff_eq,j5] at hc;have h1:=h.L j (hD j hc.1.1) t hc.1.2 hc.2;rw [au hj] at h1;obtain ⟨G',hm,hv⟩:=gP hp h1;refine ⟨G',?_,?_,hm.ext,fun id off=>hm.keeps _ (by simp),hm.obj⟩
    ·simp only [y3.D7,hj]
     exact h.KA hj hm
    ·simp only [y3.D7,hj,Act.eval]
     exact hv
   all_goals simp_all
  ·have e:y3.D7 st (.loc j)=(F5 st.T st.L (.loc j),st):=by
    simp only [y3.D7];split
    ·rename_i z len cells hj
     exact absurd ⟨z,len,cells,hj⟩ hown
    ·rfl
   exact simple (by rw [e]) (by rw [e];exact hρ)
theorem run_storeCells_at (b o:Nat)(e:TypeId)(f:Nat×Nat):∀ (vs:List Value) (i:Nat) (cur:Array Value) (w:World),w.heap[b]? =some (.cells cur e f)->HG f cur.size ->
  o+i+vs.length<=cur.size->IA vs->(storeCells (ad b o) vs i).run P w= .ok () (w.setRow b (L4 cur.toList (o+i) vs).toArray)
 |[],i,cur,w,hg,hf,hl,_=>by
  simp only [storeCells,L4,List.append_nil,List.length_nil,Nat.add_zero,List.take_append_drop];show Result.ok () w=_
  congr 1
  cases w with
  |mk heap tape drawn os output =>
   simp only [World.setRow]
   congr 1
   apply Array.ext
   ·simp
   ·intro k h1 h2
    simp only [Array.getElem_modify];split
    ·rename_i hk;subst hk
     have:heap[b]= .cells cur e f:=by
      simp only at hg;exact (Array.getElem?_eq_some_iff.1 hg).2
     rw [this]
    ·rfl
 |v::rest,i,cur,w,hg,hf,hl,h1=>by
  simp only [B7] at hl;have hi:o+i<cur.size:=by omega
  have hcell:w.cell? (ad b (o+i))=some cur[o+i]:=by rw [T8 hg];simp [hi]
  have aH5:w.frozen? (ad b (o+i))=false:=by
   simp only [World.frozen?,hg];have:=hf (o+i) hi;simp only [Bool.and_eq_false_iff,decide_eq_false_iff_not];omega
  have hst:(store ((ad b o).add i) v).run P w= .ok () (w.setRow b (cur.setIfInBounds (o+i) v)):=by
   rw [ak,run_store P w _ v _ (h1 v (by simp)),hcell];simp [aH5,setCell_eq_setRow w b (o+i) cur e f v hg]
  have ih:=run_storeCells_at b o e f rest (i+1) (cur.setIfInBounds (o+i) v) (w.setRow b (cur.setIfInBounds (o+i) v)) (setRow_heap w b cur _ e f hg) (by simpa using hf) (by simp;omega) (fun x hx=>h1 x (by simp [hx]));simp only [storeCells,Sem.run_bind,hst,Result.andThen_ok,ih,setRow_setRow]
  congr 3
  have hlt:o+i<cur.toList.length:=by simpa using hi
  simp only [L4,Array.toList_setIfInBounds];rw [show o+(i+1)=o+i+1 from by omega,List.take_succ_eq_append_getElem (by simpa using hlt),List.drop_set_of_lt (by omega)];simp only [List.take_set_of_le (n5 _),List.getElem_set_self,List.append_assoc,List.singleton_append,B7];rw [show o+i+1+rest.length=o+i+(rest.length+1) from by omega]
structure oB (id b:Nat)(w w' :World)(G:Gh):Prop where
 jH:G b= .obj id
 os:w'.os=w.os
 tape:w'.tape=w.tape
 output:w'.output=w.output
 size:w'.heap.size=w.heap.size
 other:∀ b',b' ≠b->w'.heap[b']? =w.heap[b']?
 shape:∀ (c:Array Value) (e:TypeId) (f:Nat×Nat),w.heap[b]? =some (Obj.cells c e f)->∃ c' :Array Value,w'.heap[b]? =some (Obj.cells c' e f)/\c'.size=c.size
theorem oB.ext {id b:Nat}(h:oB id b w w' G):Ext G w G w' where
 os:=h.os
 tape:=h.tape
 output:=h.output
 size:=by rw [h.size];exact n5 _
 kJ b' o hi:=by
  have hne:b' ≠b:=by rintro rfl;simp [jq,h.jH] at hi
  exact ⟨hi,by simp [World.cell?,h.other b' hne]⟩
 still b' hb:=by
  have hne:b' ≠b:=by rintro rfl;rw [h.jH] at hb;rcases hb with hb|⟨n,hb⟩<;>cases hb
  exact ⟨rfl,h.other b' hne⟩
 shape b' c e f hc:=by
  by_cases hne:b' =b
  ·subst hne;exact h.shape c e f hc
  ·exact ⟨c,by rw [h.other b' hne];exact hc,rfl⟩
theorem oB.keeps {id b:Nat}(h:oB id b w w' G)(q:Place):aR q G w G w' :=by
 intro b' n hb;have hne:b' ≠b:=by rintro rfl;rw [h.jH] at hb;cases hb
 exact ⟨hb,h.other b' hne⟩
theorem oB.xO {id b:Nat}(h:oB id b w w' G){id' :Nat}(hne:id' ≠id):∀ b',G b' = .obj id' ->G b' = .obj id' /\w'.heap[b']? =w.heap[b']? :=by
 intro b' hb;have:b' ≠b:=by rintro rfl;rw [h.jH] at hb;cases hb;exact hne rfl
 exact ⟨hb,h.other b' this⟩
theorem cK.write {D1:Nat->Prop}(h:RI X l S st a w G I N){k:Nat}(hk:¬ S k)(aV:k<st.L.length)(entry:Nat){id b:Nat}(hw:oB id b w w' G){o:y7}{o0:y7}(h0:st.H[id]? =some o0)
  (ho:OR G I N w' id o) (hmay:l.may id=true) (mD:o.N4<=max o0.N4 (id+1)\/(l.base<=id/\l.strict<=id)) (hD:∀ i,D1 i↔N i) {v:b6} {x:Value} (hv:VR G I N w' (.loc k) v x) (n6:List Touch) (EG:n6.any (Touch.K4 id)=true) :
  cK X l S entry st a w G I N (put { st with H:=st.H.set id o,n6 } k v) k x w' G I D1:=by
 have hN:∀ i,N i->D1 i:=fun i hi=>(hD i).2 hi
 refine ⟨⟨?_,?_,?_,fun b' hb' =>h.wf b' (by rw [<- hw.size];exact hb'),?_⟩,?_,hw.ext,?_,?_,fun _ _ _=>rfl,hN,by simp [y3.put],?_⟩
 ·intro s t ht
  exact VR.mono hw.ext (fun _ _=>rfl) hN _ _ _ (Or.inr (hw.keeps _)) (h.T s t ht)
 ·intro j hj d hd hn
  have:k≠j:=by rintro rfl;exact hk hj
  simp only [y3.put];rw [O1 _ _ _ _ _ this];exact VR.mono hw.ext (fun _ _=>rfl) hN _ _ _ (Or.inr (hw.keeps _)) (h.L j hj d hd hn)
 ·intro id' o' ho'
  simp only [y3.put] at ho'
  by_cases he:id' =id
  ·subst he
   rw [List.getElem?_set_self (p6 h0)] at ho';cases ho';exact OR.mono (Ext.refl _ _).sub (fun _ _=>rfl) hN _ _ (fun h=>⟨h,rfl⟩) (fun _ _ _ h=>⟨h,rfl⟩) ho
  ·rw [A1 (fun e=>he e.symm)] at ho'
   exact OR.mono hw.ext (fun _ _=>rfl) hN id' o' (fun hb=>hw.xO he _ hb) (fun _=>hw.keeps _) (h.H id' o' ho')
 ·intro id' o' ho'
  simp only [y3.put] at ho'
  by_cases he:id' =id
  ·subst he
   rw [List.getElem?_set_self (p6 h0)] at ho';cases ho';obtain ⟨d1,d2⟩:=h.U8 id' _ h0
   rcases mD with hb|hb
   ·exact ⟨fun hx=>by have:=d1 hx;omega,fun hx=>by have:=d2 hx;omega⟩
   ·exact ⟨fun hx=>by omega,fun hx=>by omega⟩
  ·rw [A1 (fun e=>he e.symm)] at ho'
   exact h.U8 id' o' ho'
 ·simp only [y3.put]
  rw [M6 _ _ _ _ aV];exact VR.mono (Ext.refl _ _).sub (fun _ _=>rfl) hN _ _ _ (Or.inr (fun _ _ h=>⟨h,rfl⟩)) hv
 ·intro id' hm
  have hne:id' ≠id:=by rintro rfl;rw [hmay] at hm;cases hm
  exact ⟨hw.xO hne,fun off=>hw.keeps _⟩
 ·intro id' _ ht
  have hne:id' ≠id:=by rintro rfl;simp only [y3.put] at ht;rw [EG] at ht;cases ht
  exact ⟨rfl,hw.xO hne⟩
 ·intro id' o' hb ho'
  simp only [y3.put] at ho'
  by_cases he:id' =id
  ·subst he
   rw [List.getElem?_set_self (p6 h0)] at ho';cases ho'
   rcases mD with hb' |hb'
   ·by_cases hc:o.N4<=id' +1
    ·exact Or.inl hc
    ·exact Or.inr ⟨o0,h0,by omega⟩
   ·omega
  ·rw [A1 (fun e=>he e.symm)] at ho'
   exact Or.inr ⟨o',ho',n5 _⟩
end
theorem IS (l:List b6)(off:Nat)(vs:List b6)(h:off+vs.length<=l.length)(i:Nat) :
  (splice l off vs)[i]? =if i<off then l[i]? else if i<off+vs.length then vs[i - off]? else l[i]? :=by
 unfold splice;have hl:(l.take off).length=off:=by simp;omega
 by_cases h1:i<off
 ·rw [if_pos h1,List.append_assoc,x9 (by omega),List.getElem?_take_of_lt h1]
 ·rw [if_neg h1,List.append_assoc,s7 (by omega),hl]
  by_cases h2:i<off+vs.length
  ·rw [if_pos h2,x9 (by omega)]
  ·rw [if_neg h2,s7 (by omega),List.getElem?_drop]
   congr 1;omega
theorem iO (l:List Value)(off:Nat)(vs:List Value)(h:off+vs.length<=l.length)(i:Nat) :
  (L4 l off vs)[i]? =if i<off then l[i]? else if i<off+vs.length then vs[i - off]? else l[i]? :=by
 unfold L4;have hl:(l.take off).length=off:=by simp;omega
 by_cases h1:i<off
 ·rw [if_pos h1,List.append_assoc,x9 (by omega),List.getElem?_take_of_lt h1]
 ·rw [if_neg h1,List.append_assoc,s7 (by omega),hl]
  by_cases h2:i<off+vs.length
  ·rw [if_pos h2,x9 (by omega)]
  ·rw [if_neg h2,s7 (by omega),List.getElem?_drop]
   congr 1;omega
theorem nc (l:List Value)(off:Nat)(vs:List Value)(h:off+vs.length<=l.length):(L4 l off vs).length=l.length:=by
 simp [L4];omega
theorem IT (l:List b6)(off:Nat)(vs:List b6)(h:off+vs.length<=l.length):(splice l off vs).length=l.length:=by
 simp [splice];omega
theorem cL:∀ (a b:List b6),A4 (a++b)=max (A4 a) (A4 b)
 |[],b=>by simp [A4]
 |v::vs,b=>by simp only [L6,A4,cL vs b];omega
theorem ta:∀ (n:Nat) (a:List b6),A4 (a.take n)<=A4 a
 |0,a=>by simp [A4]
 |n+1,[]=>by simp
 |n+1,v::vs=>by have:=ta n vs;simp only [List.take_succ_cons,A4];omega
theorem sZ:∀ (n:Nat) (a:List b6),A4 (a.drop n)<=A4 a
 |0,a=>by simp
 |n+1,[]=>by simp
 |n+1,v::vs=>by have:=sZ n vs;simp only [List.drop_succ_cons,A4];omega
theorem tZ (l:List b6)(off:Nat)(vs:List b6):A4 (splice l off vs)<=max (A4 l) (A4 vs):=by
 unfold splice;rw [cL,cL];have:=ta off l;have:=sZ (off+vs.length) l;omega
section
variable {P:Program} {X:Cx} {l:G9} {S:Nat->Prop} {st:E5} {a:Act} {w w' :World} {G:Gh} {I:T0} {N:Nat->Prop} {D:Nat->Bool}
theorem Ol {v:b6}{cs:List b6}(hv:v.cells? =some cs){id off:Nat}{x:Value}(h:VR G I N w (.cell id off) v x) :
  x.cells.size=cs.length/\IA x.cells.toList/\∀ (i:Nat) c,cs[i]? =some c->∃ u,x.cells.toList[i]? =some u/\VR G I N w (.cell id (off+i)) c u:=by
 unfold b6.cells? at hv;split at hv
 ·rename_i l'
  split at hv
  ·rename_i hall
   simp at hv;subst hv;simp only [VR] at h;obtain ⟨xs,rfl,h2⟩:=h;refine ⟨by simpa [Value.cells] using I7.length _ _ h2,kP _ _ hall h2,fun i c hc=> ?_⟩;obtain ⟨u,g1,g2⟩:=I7.get _ _ h2 i c hc;exact ⟨u,g1,g2.place⟩
  ·cases hv
 ·split at hv
  ·rename_i hone
   simp at hv;subst hv;obtain ⟨h1,h2⟩:=jM hone h;rw [h2];refine ⟨rfl,fun u hu=> ?_,fun i c hc=> ?_⟩
   ·simp at hu;subst hu;exact h1
   ·cases i with
    |zero=>simp at hc;subst hc;exact ⟨x,rfl,h⟩
    |succ i=>simp at hc
  ·cases hv
theorem cK.pre {entry:Nat}{S4 st' :E5}{G1 G' :Gh}{I' :T0}{N' :Nat->Prop}{k:Nat}{x:Value}(hx:Ext G w G1 w)(hk:∀ id off,aR (.cell id off) G w G1 w)(ho:∀ b id,G b= .obj id->G1 b= .obj id)
  (hH:S4.H=st.H) (h:cK X l S entry S4 a w G1 I N st' k x w' G' I' N'):cK X l S entry st a w G I N st' k x w' G' I' N' where
 ri:=h.ri
 val:=h.val
 ext:=hx.trans h.ext
 eE:=jw.trans (fun id _=>⟨fun b hb=>⟨ho b id hb,rfl⟩,hk id⟩) h.eE
 ko id hN ht:=by
  obtain ⟨h1,h2⟩:=h.ko id hN ht;exact ⟨h1,fun b hb=>h2 b (ho b id hb)⟩
 inj:=h.inj
 mono:=h.mono
 len:=by rw [<- hH];exact h.len
 hle id o' hb ho' :=by
  have:=h.hle id o' hb ho';rw [hH] at this;exact this
theorem Bu {id b:Nat}{c:Array Value}{e:TypeId}{f:Nat×Nat}(hb:w.heap[b]? =some (.cells c e f))(hl:G b= .obj id){c' :Array Value}(hs:c'.size=c.size):oB id b w (w.setRow b c') G where
 jH:=hl
 os:=rfl
 tape:=rfl
 output:=rfl
 size:=by simp
 other b' hne:=setRow_other w b b' c' hne
 shape c0 e0 f0 h0:=by
  rw [hb] at h0;cases h0;exact ⟨c',setRow_heap w b c c' e f hb,hs⟩
theorem Ap {id:Nat}{l0:List b6}{off:Nat}{cs:List b6}{c:Array Value}{e:TypeId}{f:Nat×Nat}(hN:N id)(hb:w.heap[(I id).1]? =some (.cells c e f))(Ih:G (I id).1= .obj id)(hf:HG f c.size)
  (hsz:(I id).2+l0.length<=c.size) (hold:∀ (i:Nat) x,l0[i]? =some x->∃ v,c[(I id).2+i]? =some v/\VR G I N w (.cell id i) x v)
  (hfit:off+cs.length<=l0.length) {vs:List Value} (hlen:vs.length=cs.length) (hnew:∀ (i:Nat) x,cs[i]? =some x->∃ u,vs[i]? =some u/\VR G I N w (.cell id (off+i)) x u) :
  OR G I N (w.setRow (I id).1 (L4 c.toList ((I id).2+off) vs).toArray) id (.cells (splice l0 off cs)) /\
   oB id (I id).1 w (w.setRow (I id).1 (L4 c.toList ((I id).2+off) vs).toArray) G:=by
 have um :(I id).2+off+vs.length<=c.toList.length:=by simp;omega
 have hsize:(L4 c.toList ((I id).2+off) vs).toArray.size=c.size:=by simp [nc _ _ _ um]
 have hw:=Bu (G:=G) hb Ih hsize;refine ⟨?_,hw⟩;simp only [OR];refine ⟨hN,_,e,f,setRow_heap w _ c _ e f hb,Ih,by rw [hsize];exact hf,by rw [hsize,IT _ _ _ hfit];exact hsz,fun i x hx=> ?_⟩;rw [IS _ _ _ hfit] at hx;have hg:(L4 c.toList ((I id).2+off) vs).toArray[(I id).2+i]? =(L4 c.toList ((I id).2+off) vs)[(I id).2+i]? :=by simp
 rw [hg,iO _ _ _ um];have mono:∀ {pl:Place} {x:b6} {v:Value},VR G I N w pl x v->VR G I N (w.setRow (I id).1 (L4 c.toList ((I id).2+off) vs).toArray) pl x v :=
  fun h=>VR.mono hw.ext (fun _ _=>rfl) (fun _ h=>h) _ _ _ (Or.inr (hw.keeps _)) h
 by_cases h1:i<off
 ·rw [if_pos h1] at hx
  rw [if_pos (by omega)];obtain ⟨v,g1,g2⟩:=hold i x hx;exact ⟨v,by simpa using g1,mono g2⟩
 ·rw [if_neg h1] at hx
  rw [if_neg (by omega)]
  by_cases h2:i<off+cs.length
  ·rw [if_pos h2] at hx
   rw [if_pos (by omega)];obtain ⟨u,g1,g2⟩:=hnew (i - off) x hx;refine ⟨u,?_,?_⟩
   ·rw [show (I id).2+i - ((I id).2+off)=i - off from by omega];exact g1
   ·rw [show i=off+(i - off) from by omega];exact mono g2
  ·rw [if_neg h2] at hx
   rw [if_neg (by omega)];obtain ⟨v,g1,g2⟩:=hold i x hx;exact ⟨v,by simpa using g1,mono g2⟩
theorem HR.wr {H H' :o6}(hH:HR G I N w H){id off:Nat}{cs:List b6}(h:wr H id off cs=some H') :
  ∃ l0 c e f,H[id]? =some (.cells l0)/\H' =H.set id (.cells (splice l0 off cs))/\off+cs.length<=l0.length/\N id/\w.heap[(I id).1]? =some (.cells c e f)/\G (I id).1= .obj id/\HG f c.size /\
   (I id).2+l0.length<=c.size/\∀ (i:Nat) x,l0[i]? =some x->∃ v,c[(I id).2+i]? =some v/\VR G I N w (.cell id i) x v:=by
 unfold y3.wr at h;split at h
 ·rename_i l0 hl
  split at h
  ·rename_i hfit
   simp at h;subst h;have ho:=hH id _ hl;simp only [OR] at ho;obtain ⟨hN,c,e,f,h1,h2,h3,h4,h5⟩:=ho;exact ⟨l0,c,e,f,hl,rfl,hfit,hN,h1,h2,h3,h4,h5⟩
  ·cases h
 ·cases h
def wU (P:Program)(ck:Operand->q7->Bool)(o:Oper)(op:q9):Bool :=
 match o.op,op with
 | .store t x y,.store n x' y' =>ck x x' &&ck y y' &&P.cellsOf t==n&&(P.info? t).isSome&&decide (0<n)
 |_,_=>false
theorem MC (h:RI X l S st a w G I N)(hD:∀ j,D j=true->S j){k:Nat}(hk:¬ S k)(aV:k<st.L.length)(entry:Nat){o:Oper}{n:Nat}{x y:q7}(hc:wU P (X.ck D) o (.store n x y)=true){E:Env}(hE:E.lim=l)
  {st' :E5} (he:Q0 E k n st (F5 st.T st.L x) y=some st'):∃ w' G',(execOp a.eval o).run P w= .ok .skip w' /\cK X l S entry st a w G I N st' k undef w' G' I N:=by
 obtain ⟨dst,ct,ty,pos,after,guard⟩:=o;cases ct<;>simp only [wU,b5,beq_iff_eq,decide_eq_true_eq] at hc<;>try (cases hc;done)
 rename_i t x' y';obtain ⟨⟨⟨⟨hx,hy⟩,hn⟩,hi⟩,hpos⟩:=hc;have h1:=h.R8 hD _ _ hx;unfold Q0 at he;split at he
 ·rename_i id off hp
  rw [hp] at h1;simp only [VR] at h1;split at he
  ·rename_i cs hcs
   split at he
   ·rename_i dw
    split at he
    ·rename_i H' hH'
     simp at he;subst he;obtain ⟨G1,hX⟩:=h.D7 hD hy (pl:= .cell id off) (by simp);obtain ⟨c1,c2,c3⟩:=Ol hcs hX.val;obtain ⟨l0,c,e,f,g1,g2,g3,g4,g5,g6,g7,g8,g9⟩:=hX.ri.H.wr hH';obtain ⟨hO,hW⟩:=Ap g4 g5 g6 g7 g8 g9 g3 (vs:=(a.eval y').cells.toList) (by simpa using c1) c3;have hrun:(storeCells (ad (I id).1 ((I id).2+off)) (a.eval y').cells.toList).run P w= .ok () (w.setRow (I id).1 (L4 c.toList ((I id).2+off) (a.eval y').cells.toList).toArray):=by
      have:=run_storeCells_at (P:=P) (I id).1 ((I id).2+off) e f (a.eval y').cells.toList 0 c w g5 g7 (by simp;omega) c2;simpa using this
     have hs:(sizeOf t).run P w= .ok n w:=by rw [<- hn];exact run_sizeOf hi
     have hsz:¬ ((a.eval y').cells.size≠n):=by rw [c1];simp [dw.1]
     have mD:(y7.cells (splice l0 off cs)).N4<=max (y7.cells l0).N4 (id+1)\/(l.base<=id/\l.strict<=id):=by
      rcases dw.2.2 with hb|hb
      ·left
       have:=tZ l0 off cs;simp only [y7.N4];omega
      ·right;rw [<- hE];exact hb
     have hM:=cK.write (D1:=N) hX.ri hk (by rw [zf];exact aV) entry hW g1 hO (by rw [<- hE];exact dw.2.1) mD (fun _=>Iff.rfl) (v:= .any) (x:=undef) (by simp [VR]) (.obj id::(D7 st y).2.n6) (by simp [Touch.K4]);refine ⟨w.setRow (I id).1 (L4 c.toList ((I id).2+off) (a.eval y').cells.toList).toArray,G1,?_,?_⟩
     ·simp only [execOp,h1.2,Instr.storeAt,Instr.sureAddr,storeVar,Sem.run_bind,Sem.run_pure,Result.andThen_ok,hs,if_neg hsz,hrun]
     ·have:=cK.pre (st:=st) hX.ext hX.keeps hX.obj (ze st y) hM
      rw [g2];exact this
    ·cases he
   ·cases he
  ·cases he
 ·cases he
end
structure PV (X:Cx)(j4:List n8)(S:Nat->Prop)(st:E5)(a:Act)(w:World)(I:T0):Prop where
 slot:∀ (j:Nat) ai s t d,S j->st.L[j]? ≠some (.tuple [])->j4[j]? =some ai->ai.op=q9.O3 (.slot s)->X.names[s]? =some t->(X.ops[j]?).bind (·.dst)=some d->X.names.contains d=false ->
  st.n6.any (Touch.R9 s)=false->a.tmps.getD d undef=a.tmps.getD t undef
 cell:∀ (j:Nat) ai x id off d l0,S j->st.L[j]? ≠some (.tuple [])->j4[j]? =some ai->ai.op=q9.load none x->Z8 st x=some (id,off)->st.H[id]? =some (.cells l0)->off<l0.length ->
  st.n6.any (Touch.aP id off)=false->(X.ops[j]?).bind (·.dst)=some d->X.names.contains d=false->w.cell? (ad (I id).1 ((I id).2+off))=some (a.tmps.getD d undef)
structure Tk (X:Cx)(l:G9)(S:Nat->Prop)(st S4:E5)(a:Act)(w:World)(G:Gh)(I:T0)(N:Nat->Prop)(k:Nat)(v:b6)(x:Value)(G1:Gh):Prop where
 ri:RI X l S S4 a w G1 I N
 val:VR G1 I N w (.loc k) v x
 ext:Ext G w G1 w
 eE:jw l G w G1 w
 obj:∀ b id:Nat,G b= .obj id->G1 b= .obj id
 len:S4.H.length=st.H.length
 L:S4.L.length=st.L.length
 n6:∀ p,st.n6.any p=true->S4.n6.any p=true
 hle:∀ (id:Nat) (o' :y7),S4.H[id]? =some o' ->∃ o:y7,st.H[id]? =some o/\o'.N4<=o.N4
section
variable {P:Program} {X:Cx} {l:G9} {S:Nat->Prop} {st:E5} {a:Act} {w w' :World} {G:Gh} {I:T0} {N:Nat->Prop} {D:Nat->Bool} {j4:List n8}
theorem Ak (h:RI X l S st a w G I N)(hpv:PV X j4 S st a w I)(hT:st.T.length=X.names.length)(hD:∀ j,D j=true->S j){k:Nat}(hk:¬ S k){x:Operand}{y:q7}(hc:X.ck D x y=true){sz len:Nat}
  {cells:List Data} {S4:E5} (ht:Q1 l j4 st sz y=some (len,cells,S4)):∃ G1,Tk X l S st S4 a w G I N k (.own sz len cells) (a.eval x) G1:=by
 unfold Q1 at ht;split at ht
 ·rename_i z len' cells'
  split at ht
  ·rename_i hz
   subst hz;simp at ht;obtain ⟨rfl,rfl,rfl⟩:=ht;refine ⟨G,h,?_,Ext.refl _ _,jw.refl _ _ _,fun _ _ h=>h,rfl,rfl,fun _ h=>h,fun _ o h=>⟨o,h,n5 _⟩⟩;unfold Cx.ck at hc;split at hc
   ·simp_all
   ·simp_all
   ·rename_i v' b heq
    cases heq;exact (bS _ _ hc).place
   all_goals simp_all
  ·cases ht
 ·cases ht
 ·cases ht
 ·rename_i j
  have WO:∃ t,x= .tmp t/\D j=true/\(X.ops[j]?).bind (·.dst)=some t/\X.names.contains t=false:=by
   unfold Cx.ck at hc;split at hc
   ·simp_all
   ·rename_i t j' heq
    cases heq;simp only [b5,beq_iff_eq,j5] at hc;exact ⟨t,rfl,hc.1.1,hc.1.2,hc.2⟩
   all_goals simp_all
  obtain ⟨t,rfl,hDj,xw,Hw⟩:=WO;have UY:=hD j hDj;have hjk:j≠k:=by rintro rfl;exact hk UY
  split at ht
  ·rename_i z len' cells' hj
   split at ht
   ·rename_i hz
    subst hz;simp at ht;obtain ⟨rfl,rfl,rfl⟩:=ht;have h1:=h.L j UY t xw Hw;rw [au hj] at h1;obtain ⟨G',hm,hv⟩:=gP (vv := .loc k) (by simp) h1;exact ⟨G',h.KA hj hm,hv,hm.ext,fun id _=>⟨fun b hb=>⟨hm.obj b id hb,rfl⟩,fun off=>hm.keeps _ (by simp)⟩,hm.obj,rfl,by simp,fun _ h=>h,fun _ o h=>⟨o,h,n5 _⟩⟩
   ·cases ht
  ·rename_i bt3 aE2 hj
   split at ht
   ·rename_i ai hai
    unfold V2 at ht;split at ht
    ·rename_i s hop
     split at ht
     ·cases ht
     ·rename_i hun
      split at ht
      ·rename_i z len' cells' hs
       split at ht
       ·rename_i hz
        subst hz;simp at ht;obtain ⟨rfl,rfl,rfl⟩:=ht;obtain ⟨ts,hts⟩:∃ ts,X.names[s]? =some ts:=by
         have:=p6 hs;exact ⟨_,s9 (by omega)⟩
        have h1:=h.T s ts hts;rw [au hs] at h1;have he:=hpv.slot j ai s ts t UY (by rw [hj];simp) hai hop hts xw Hw (by simpa using hun);obtain ⟨G',hm,hv⟩:=gP (vv := .loc k) (by simp) h1;refine ⟨G',h.Ri hs _ hm,?_,hm.ext,fun id _=>⟨fun b hb=>⟨hm.obj b id hb,rfl⟩,fun off=>hm.keeps _ (by simp)⟩,hm.obj,rfl,rfl,fun p hp=>by simp only [List.any_cons,hp,Bool.or_true],fun _ o h=>⟨o,h,n5 _⟩⟩;simp only [Act.eval,he];exact hv
       ·cases ht
      ·cases ht
    ·rename_i x' hop
     split at ht
     ·rename_i id off OY
      split at ht
      ·cases ht
      ·rename_i hun
       simp only [Bool.or_eq_true,j5,not_or,Bool.not_eq_true,Bool.not_eq_false] at hun;split at ht
       ·rename_i cs hcs
        split at ht
        ·rename_i z len' cells' Tj
         split at ht
         ·rename_i hz
          subst hz;simp at ht;obtain ⟨rfl,rfl,rfl⟩:=ht;have hO:=h.H id _ hcs;simp only [OR] at hO;obtain ⟨hN,c,e,f,g1,g2,g3,g4,g5⟩:=hO
          ·obtain ⟨v,e1,e2⟩:=g5 off _ Tj
           have he:=hpv.cell j ai x' id off t cs UY (by rw [hj];simp) hai hop OY hcs (p6 Tj) hun.1 xw Hw;rw [T8 g1,e1] at he;simp at he;obtain ⟨G',hm,hv⟩:=gP (vv := .loc k) (by simp) e2;refine ⟨G',h.Rh hcs Tj _ hm,?_,hm.ext,fun id' ag2 =>⟨fun b hb=>⟨hm.obj b id' hb,rfl⟩,fun off' =>hm.keeps _ ?_⟩,hm.obj,by simp,rfl,fun p hp=>by simp only [List.any_cons,hp,Bool.or_true],fun id' o' ho' => ?_⟩
           ·have e2' :a.eval (.tmp t)=v:=by simp [Act.eval,he]
            rw [e2'];exact hv
           ·rintro heq
            cases heq;rw [hun.2] at ag2;cases ag2
           ·by_cases hee:id' =id
            ·subst hee
             simp only at ho';rw [List.getElem?_set_self (p6 hcs)] at ho';cases ho';exact ⟨_,hcs,by simpa [y7.N4] using kz cs off _⟩
            ·simp only at ho'
             rw [A1 (fun e=>hee e.symm)] at ho';exact ⟨o',ho',n5 _⟩
         ·cases ht
        ·cases ht
       ·cases ht
     ·cases ht
    ·cases ht
   ·cases ht
  ·cases ht
def NA (P:Program)(t:TypeId):Bool :=
 match P.underlying t with
 |some (.slice _)=>true
 |some .string=>true
 |_=>false
theorem eV {t t2 e ty:TypeId}{i:TypeInfo}(hu:P.underlying t=some (.slice e))(hi:P.info? e=some i)(ht2:NA P t2=true)
  {base:Option Addr} {sLen sCap m:Nat} {x:Value} (hl:(Builtin.lenOf x).run P w= .ok m w) {nw:Array Value}
  (hnew:(Builtin.firstCells i.size m x).run P w= .ok nw w) (hle:sLen+m<=sCap):(Builtin.append_ #[t,t2] ty #[.slice base sLen sCap,x]).run P w =
   (match base with
    |some a=>((storeCells (a.add (sLen * i.size)) nw.toList).run P w).andThen fun _ w' => .ok (.slice base (sLen+m) sCap) w'
    |none=> .ok (.slice base (sLen+m) sCap) w):=by
 unfold NA at ht2;split at ht2
 ·rename_i e2 h2
  cases base<;>simp [Builtin.append_,run_underlying hu,sizeOf,typeInfo,hi,run_underlying h2,hl,hnew,hle]
 ·rename_i h2
  cases base<;>simp [Builtin.append_,run_underlying hu,sizeOf,typeInfo,hi,run_underlying h2,hl,hnew,hle]
 ·cases ht2
theorem zY (need old:Nat)(e:TypeId)(t:Nat):need<=(Question.appendCap need old e).cut t:=by
 simp [Question.cut]
theorem gT {t t2 e ty:TypeId}{i:TypeInfo}{z:Value}(hu:P.underlying t=some (.slice e))(hi:P.info? e=some i)(hz:i.zero=some z)(ht2:NA P t2=true)
  {base:Option Addr} {sLen sCap m:Nat} {x:Value} (hl:(Builtin.lenOf x).run P w= .ok m w) {nw old:Array Value}
  (hnew:(Builtin.firstCells i.size m x).run P w.drew= .ok nw w.drew) (hold:(Builtin.firstCells i.size sLen (.slice base sLen sCap)).run P w.drew= .ok old w.drew) (hgt:sCap<sLen+m)
  (h63:((sLen+m:Nat):Int)<=9223372036854775807) (hfit:Builtin.nextslicecap (sLen+m) sCap * i.bytes<=281474976710656) :
  ∃ cap,sLen+m<=cap/\(Builtin.append_ #[t,t2] ty #[.slice base sLen sCap,x]).run P w =
   .ok (.slice (some (ad w.heap.size 0)) (sLen+m) cap) (w.drew.alloc (.cells (old++nw++Builtin.zeroCells z.cells (cap - (sLen+m))) e)):=by
 refine ⟨(Question.appendCap (sLen+m) sCap e).cut (w.tape w.drawn (.appendCap (sLen+m) sCap e)),zY _ _ _ _,?_⟩;have hn:¬ (sLen+m<=sCap):=by omega
 have h63' :¬ (9223372036854775807<((sLen:Int)+(m:Int))):=by omega
 have ae2 :¬ (281474976710656<Builtin.nextslicecap (sLen+m) sCap * i.bytes):=by omega
 unfold NA at ht2;split at ht2
 ·rename_i e2 h2
  simp [Builtin.append_,run_underlying hu,sizeOf,typeInfo,hi,run_underlying h2,hl,hn,h63',ae2,Question.forced,hnew,hold,zeroValue,hz,newRow]
 ·rename_i h2
  simp [Builtin.append_,run_underlying hu,sizeOf,typeInfo,hi,run_underlying h2,hl,hn,h63',ae2,Question.forced,hnew,hold,zeroValue,hz,newRow]
 ·cases ht2
end
section
variable {P:Program} {X:Cx} {l:G9} {S:Nat->Prop} {st:E5} {a:Act} {w w' :World} {G:Gh} {I:T0} {N:Nat->Prop} {D:Nat->Bool} {j4:List n8}
theorem gn {w w2:World}(h:w2.heap=w.heap)(x:Addr):w2.cell? x=w.cell? x:=by simp [World.cell?,h]
theorem dA (x:Addr)(w:World):(loadCells x 0).run P w= .ok #[] w:=by simp [loadCells,loadCellsFrom]
theorem tP {H:o6}(hH:HR G I N w H){y:b6}{x:Value}(hv:VR G I N w .none y x){sz m:Nat}(hsz:0<sz){cs:List b6}(h:J5 H sz y=some (m,cs)) :
  ∃ vs:List Value,(Builtin.lenOf x).run P w= .ok m w/\(∀ w2:World,w2.heap=w.heap->(Builtin.firstCells sz m x).run P w2= .ok vs.toArray w2)/\I7 G I N w cs vs/\cs.length=m * sz:=by
 unfold J5 at h;split at h
 ·rename_i len cells
  split at h
  ·rename_i hl
   simp at h;obtain ⟨rfl,rfl⟩:=h;simp only [VR,DR] at hv
   rcases hv with ⟨rfl|⟨a0,rfl⟩,rfl,rfl⟩|⟨b,o,cap,rfl,h2,h3⟩
   ·exact ⟨[],by simp [Builtin.lenOf],fun w2 _=>by simp [Builtin.firstCells],by simp [I7],by simp⟩
   ·exact ⟨[],by simp [Builtin.lenOf],fun w2 _=>by simp [Builtin.firstCells,dA],by simp [I7],by simp⟩
   ·obtain ⟨vs,g1,g2,g3⟩:=fH.vals (I:=I) (N:=N) o cells h3
    refine ⟨vs,by simp [Builtin.lenOf],fun w2 MR=> ?_,g3,by simpa using hl⟩;have:=run_loadCells_list (P:=P) w2 (ad b o) vs (fun j v hj=>by rw [ak,gn MR];exact g2 j v hj);rw [g1,hl] at this;simpa [Builtin.firstCells] using this
  ·cases h
 ·rename_i z len cells
  split at h
  ·rename_i hz
   subst hz;simp at h;obtain ⟨rfl,rfl⟩:=h;have h0:=hv.G4 (vv := .none);simp only [VR] at hv;simp only [b6.G4,VR,DR] at h0
   rcases h0 with ⟨rfl|⟨a0,rfl⟩,rfl,rfl⟩|⟨b,o,cap,rfl,h2,h3⟩
   ·exact ⟨[],by simp [Builtin.lenOf],fun w2 _=>by simp [Builtin.firstCells],by simp [I7],by simp⟩
   ·exact ⟨[],by simp [Builtin.lenOf],fun w2 _=>by simp [Builtin.firstCells,dA],by simp [I7],by simp⟩
   ·obtain ⟨vs,g1,g2,g3⟩:=fH.vals (I:=I) (N:=N) o cells h3
    refine ⟨vs,by simp [Builtin.lenOf],fun w2 MR=> ?_,g3,by simpa using hv.1⟩;have:=run_loadCells_list (P:=P) w2 (ad b o) vs (fun j v hj=>by rw [ak,gn MR];exact g2 j v hj);rw [g1,hv.1] at this;simpa [Builtin.firstCells] using this
  ·cases h
 ·rename_i id z lo len
  split at h
  ·rename_i hz
   subst hz;split at h
   ·rename_i us xC
    simp at h;obtain ⟨rfl,rfl⟩:=h;simp only [VR] at hv;obtain ⟨_,cap,rfl,_⟩:=hv
    by_cases h0:len * z=0
    ·have hlen:us=[]:=by
      unfold rd at xC;split at xC
      ·split at xC
       ·simp [h0] at xC;exact xC
       ·cases xC
      ·cases xC
     subst hlen;refine ⟨[],by simp [Builtin.lenOf],fun w2 _=> ?_,by simp [I7],by simp [h0]⟩;simp [Builtin.firstCells,h0,dA]
    ·obtain ⟨_,xs,g1,g2,g3,g4⟩:=hH.rd xC (by omega)
     refine ⟨xs,by simp [Builtin.lenOf],fun w2 MR=> ?_,Q3 _ _ (by simp [g1,g2]) fun j b v hj hv=> ?_,by simpa using g2⟩
     ·have:=run_loadCells_list (P:=P) w2 (ad (I id).1 ((I id).2+lo)) xs (fun j v hj=>by rw [ak,gn MR];exact g3 j v hj)
      rw [g1] at this;simpa [Builtin.firstCells] using this
     ·simp at hj
      obtain ⟨b',hb',rfl⟩:=hj;exact (g4 j b' v hb' hv).G4
   ·cases h
  ·cases h
 ·rename_i s
  split at h
  ·rename_i hz
   subst hz;simp at h;obtain ⟨rfl,rfl⟩:=h;simp only [VR,DR] at hv;subst hv;have hsize:(⟨s.toArray⟩:ByteArray).size=s.length:=by simp [ByteArray.size]
   refine ⟨s.map fun b=> .int .u8 b.toNat,by simp [Builtin.lenOf,hsize],fun w2 _=> ?_,Q3 _ _ (by simp) fun j b v hj hv=> ?_,by simp⟩
   ·simp [Builtin.firstCells]
   ·simp at hj hv
    obtain ⟨c,hc,rfl⟩:=hj;obtain ⟨c',uk,rfl⟩:=hv;rw [hc] at uk;cases uk;simp [VR,DR]
  ·cases h
 ·cases h
theorem Ew {b n n' :Nat}{pl:Place}(hl:G b= .grow n pl)(hn:n<=n'){c:Array Value}{e:TypeId}{f:Nat×Nat}(hb:w.heap[b]? =some (.cells c e f)){c' :Array Value}(hs:c'.size=c.size)
  (hc:∀ i,i<n->c'[i]? =c[i]?):Ext G w (lu G b (.grow n' pl)) (w.setRow b c') where
 os:=rfl
 tape:=rfl
 output:=rfl
 size:=by simp
 kJ b' o hi:=by
  by_cases he:b' =b
  ·subst he
   have ho:o<n:=by simpa [jq,hl] using hi
   refine ⟨by simp [jq];omega,?_⟩;rw [T8 (setRow_heap w b' c c' e f hb),T8 hb];exact hc o ho
  ·refine ⟨by unfold jq at hi ⊢;rw [O9 he];exact hi,?_⟩
   simp [World.cell?,setRow_other w b b' c' he]
 still b' hb' :=by
  have hne:b' ≠b:=by rintro rfl;rw [hl] at hb';rcases hb' with h|⟨m,h⟩<;>cases h
  exact ⟨O9 hne,setRow_other w b b' c' hne⟩
 shape b' c0 e0 f0 h0:=by
  by_cases he:b' =b
  ·subst he
   rw [hb] at h0;cases h0;exact ⟨c',setRow_heap w b' c c' e f hb,hs⟩
  ·exact ⟨c0,by rw [setRow_other w b b' c' he];exact h0,rfl⟩
theorem kI {b n n' :Nat}{pl q:Place}(hl:G b= .grow n pl)(hq:q≠pl)(c' :Array Value):aR q G w (lu G b (.grow n' pl)) (w.setRow b c'):=by
 intro b' m hb';have hne:b' ≠b:=by rintro rfl;rw [hl] at hb';cases hb';exact hq rfl
 exact ⟨by rw [O9 hne];exact hb',setRow_other w b b' c' hne⟩
theorem tu {b n n' :Nat}{pl:Place}(hl:G b= .grow n pl)(c' :Array Value)(id:Nat):∀ b',G b' = .obj id->(lu G b (.grow n' pl)) b' = .obj id/\(w.setRow b c').heap[b']? =w.heap[b']? :=by
 intro b' hb';have hne:b' ≠b:=by rintro rfl;rw [hl] at hb';cases hb'
 exact ⟨by rw [O9 hne];exact hb',setRow_other w b b' c' hne⟩
theorem cK.grow (h:RI X l S st a w G I N){k:Nat}(hk:¬ S k)(aV:k<st.L.length)(entry:Nat){b n n' :Nat}(hl:G b= .grow n (.loc k))(hn:n<=n'){c:Array Value}{e:TypeId}{f:Nat×Nat}
  (hb:w.heap[b]? =some (.cells c e f)) {c' :Array Value} (hs:c'.size=c.size) (hc:∀ i,i<n->c'[i]? =c[i]?) {v:b6} {x:Value} (hv:VR (lu G b (.grow n' (.loc k))) I N (w.setRow b c') (.loc k) v x) :
  cK X l S entry st a w G I N (put st k v) k x (w.setRow b c') (lu G b (.grow n' (.loc k))) I N:=by
 have hx:=Ew hl hn hb hs hc;refine ⟨⟨?_,?_,?_,?_,h.U8⟩,?_,hx,fun id _=>⟨tu hl c' id,fun off=>kI hl (by simp) c'⟩,fun id _ _=>⟨rfl,tu hl c' id⟩,fun _ _ _=>rfl,fun _ h=>h,n5 _,fun _ o _ ho=>Or.inr ⟨o,ho,n5 _⟩⟩
 ·intro s t ht
  exact VR.mono hx (fun _ _=>rfl) (fun _ h=>h) _ _ _ (Or.inr (kI hl (by simp) c')) (h.T s t ht)
 ·intro j hj d hd hn
  have:k≠j:=by rintro rfl;exact hk hj
  simp only [y3.put];rw [O1 _ _ _ _ _ this];exact VR.mono hx (fun _ _=>rfl) (fun _ h=>h) _ _ _ (Or.inr (kI hl (by simpa using fun e=>this e.symm) c')) (h.L j hj d hd hn)
 ·intro id o ho
  exact OR.mono hx (fun _ _=>rfl) (fun _ h=>h) id o (fun hb=>tu hl c' id _ hb) (fun off=>kI hl (by simp) c') (h.H id o ho)
 ·intro b' hb'
  simp at hb';have hne:b' ≠b:=by rintro rfl;have:=h.wf b' hb';rw [hl] at this;cases this
  rw [O9 hne];exact h.wf b' hb'
 ·simp only [y3.put]
  rw [M6 _ _ _ _ aV];exact hv
theorem ug:∀ (xs:List Data),N9 (xs.map .d)=some xs
 |[]=>rfl
 |x::xs=>by simp [N9,b6.data?,ug xs]
theorem cK.XL {entry:Nat}{S4 st' :E5}{G1 G' :Gh}{I' :T0}{N' :Nat->Prop}{k:Nat}{x y:Value}{v:b6}(ht:Tk X l S st S4 a w G I N k v y G1)
  (h:cK X l S entry S4 a w G1 I N st' k x w' G' I' N'):cK X l S entry st a w G I N st' k x w' G' I' N' where
 ri:=h.ri
 val:=h.val
 ext:=ht.ext.trans h.ext
 eE:=jw.trans ht.eE h.eE
 ko id hN hh:=by
  obtain ⟨h1,h2⟩:=h.ko id hN hh;exact ⟨h1,fun b hb=>h2 b (ht.obj b id hb)⟩
 inj:=h.inj
 mono:=h.mono
 len:=by rw [<- ht.len];exact h.len
 hle id o' hb ho' :=by
  rcases h.hle id o' hb ho' with h1|⟨o,h1,h2⟩
  ·exact Or.inl h1
  ·obtain ⟨o2,h3,h4⟩:=ht.hle id o h1
   exact Or.inr ⟨o2,h3,Nat.le_trans h2 h4⟩
def gp (P:Program)(ck:Operand->q7->Bool)(o:Oper)(op:q9):Bool :=
 match o.op,op with
 | .call ⟨.builtin .append,args,argTypes⟩,.append sz bytes _ x' y' =>
  (match args.toList,argTypes.toList with
   |[x,y],[t,t2]=>ck x x' &&ck y y' &&NA P t2&&decide (0<sz)&&(match P.underlying t with
    |some (.slice e)=>(match P.info? e with
     |some i=>i.size==sz&&i.bytes==bytes&&decide (0<bytes)&&(match i.zero with|some z=>z.cells.size==sz|none=>false)
     |none=>false)
    |_=>false)
   |_,_=>false)
 |_,_=>false
theorem fJ {ck:Operand->q7->Bool}{o:Oper}{sz bytes:Nat}{ob:Bool}{x' y' :q7}(h:gp P ck o (.append sz bytes ob x' y')=true) :
  ∃ x y t t2 e i z,o.op= .call ⟨.builtin .append,#[x,y],#[t,t2]⟩/\ck x x' =true/\ck y y' =true/\NA P t2=true/\0<sz/\P.underlying t=some (.slice e)/\P.info? e=some i/\i.size=sz/\i.bytes=bytes/\i.zero=some z/\z.cells.size=sz/\0<bytes:=by
 unfold gp at h;split at h
 ·rename_i args argTypes sz' bytes' ob' x1 y1 fK dX
  cases dX;split at h
  ·rename_i x y t t2 ha ht
   simp only [b5,decide_eq_true_eq] at h;obtain ⟨⟨⟨⟨h1,h2⟩,h3⟩,h4⟩,h5⟩:=h;split at h5
   ·rename_i e he
    split at h5
    ·rename_i i hi
     simp only [b5,beq_iff_eq,decide_eq_true_eq] at h5;obtain ⟨⟨⟨h6,h7⟩,h9⟩,h8⟩:=h5;split at h8
     ·rename_i z hz
      refine ⟨x,y,t,t2,e,i,z,?_,h1,h2,h3,h4,he,hi,h6,h7,hz,by simpa using h8,h9⟩;rw [fK];have e1:args= #[x,y]:=by apply Array.toList_inj.1;simpa using ha
      have e2:argTypes= #[t,t2]:=by apply Array.toList_inj.1;simpa using ht
      rw [e1,e2]
     ·cases h8
    ·cases h5
   ·cases h5
  ·cases h
 ·cases h
end
section
variable {P:Program} {X:Cx} {l:G9} {S:Nat->Prop} {st:E5} {a:Act} {w w' :World} {G:Gh} {I:T0} {N:Nat->Prop} {D:Nat->Bool} {j4:List n8}
theorem tH {n bytes old:Nat}(h:roomFor n bytes=true)(hlt:old<n):Builtin.nextslicecap n old * bytes<=281474976710656:=by
 have h1:(2 * n+512) * bytes<=281474976710656:=by simpa [roomFor] using h
 have h2:=nextslicecap_le hlt;exact Nat.le_trans (Nat.mul_le_mul_right _ (by omega)) h1
theorem Dg {n bytes:Nat}(h:roomFor n bytes=true)(hb:0<bytes):((n:Nat):Int)<=9223372036854775807:=by
 have h1:(2 * n+512) * bytes<=281474976710656:=by simpa [roomFor] using h
 have h2:(2 * n+512) * 1<=(2 * n+512) * bytes:=Nat.mul_le_mul_left _ hb;omega
theorem SJ (hwf:WF G w){e:TypeId}{c:Array Value}(hn:jr w w' (.cells c e)){xs ys:List Data}{vo vn:List Value}(ho:I7 G I N w (xs.map .d) vo)(hy:I7 G I N w (ys.map .d) vn){rest:Array Value}
  (hc:c=vo.toArray++vn.toArray++rest) {sz n cap:Nat} (hl:(xs++ys).length=n * sz) (hcap:n<=cap) (hsz:cap * sz<=c.size) {pl:Place} (hp:pl≠ .none) :
  VR (lu G w.heap.size (.grow (n * sz) pl)) I N w' pl (.own sz n (xs++ys)) (.slice (some (ad w.heap.size 0)) n cap):=by
 refine Kb hwf hn (sW _) (ug (xs++ys)) (vs:=vo++vn) (by rw [List.map_append];exact I7.append _ _ _ _ ho hy) (fun i v hi=> ?_) hl hcap hsz hp;rw [hc];have hlt:=p6 hi;have:(vo.toArray++vn.toArray++rest)[i]? =(vo++vn++rest.toList)[i]? :=by
  rw [<- Array.getElem?_toList];simp
 rw [this,x9 hlt];exact hi
theorem wq (z:Array Value)(n:Nat):(Builtin.zeroCells z n).size=n * z.size:=by simp [Builtin.zeroCells]
theorem HV (h:RI X l S st a w G I N)(hpv:PV X j4 S st a w I)(hT:st.T.length=X.names.length)(hD:∀ j,D j=true->S j){k:Nat}(hk:¬ S k)(aV:k<st.L.length)(entry:Nat){o:Oper}{sz bytes:Nat}{x y:q7}
  (hc:gp P (X.ck D) o (.append sz bytes false x y)=true) {E:Env} (hE:E.lim=l) {u5:Option Nat} {st' :E5} (he:L0 E j4 u5 k sz bytes false st x (F5 st.T st.L y)=some st') :
  ∃ v w' G',(execOp a.eval o).run P w= .ok (.value v) w' /\cK X l S entry st a w G I N st' k v w' G' I N:=by
 obtain ⟨x0,y0,t,t2,e,i,z,hop,hcx,hcy,ht2,hsz,hu,hi,hsi,Tg,hz,hzs,hbp⟩:=fJ hc;unfold L0 at he;rw [hE] at he;split at he
 ·rename_i m cs hcs
  simp only [b7,if_false] at he;split at he
  ·rename_i new hnew
   split at he
   ·rename_i len cells S4 htk
    split at he
    ·rename_i hroom
     simp at he;subst he;obtain ⟨vn,hl,hf,Sx,hcl⟩:=tP (P:=P) h.H (h.R8 hD _ _ hcy) hsz hcs;obtain ⟨G1,NR⟩:=Ak h hpv hT hD hk hcx htk;have hdn:=iE cs new vn hnew Sx;have aK1 :I7 G I N w (new.map .d) vn:=by
      refine Q3 _ _ (by rw [I7.length _ _ Sx,List.length_map,hdn.1]) fun j b v hj hv=> ?_
      simp at hj;obtain ⟨b',hb',rfl⟩:=hj;obtain ⟨u,g1,g2⟩:=hdn.2 j b' hb';rw [hv] at g1;cases g1;simpa [VR] using g2
     have Xb:I7 G1 I N w (new.map .d) vn:=I7.mono NR.ext (fun _ _=>rfl) (fun _ h=>h) _ _ aK1;have ED:new.length=m * sz:=by rw [hdn.1,hcl]
     have uo:vn.length=m * sz:=by rw [I7.length _ _ Sx,hcl]
     have mF:(execOp a.eval o).run P w=((Builtin.append_ #[t,t2] o.type #[a.eval x0,a.eval y0]).run P w).andThen fun v w' => .ok (.value v) w' :=by
      obtain ⟨dst,ct,ty,pos,after,guard⟩:=o;simp only at hop;subst hop;simp [execOp,resolve,invoke,builtin]
     have hval:=NR.val;simp only [VR] at hval;obtain ⟨pO,hval⟩:=hval;subst hsi Tg;have out:∀ base sCap,a.eval x0= .slice base len sCap->sCap<len+m->(∃ vo:List Value,(∀ w2:World,w2.heap=w.heap->(Builtin.firstCells i.size len (.slice base len sCap)).run P w2= .ok vo.toArray w2)/\I7 G1 I N w (cells.map .d) vo) ->
       ∃ v w' G',(execOp a.eval o).run P w= .ok (.value v) w' /\cK X l S entry st a w G I N (put S4 k (.own i.size (len+m) (cells++new))) k v w' G' I N:=by
      rintro base sCap hx hlt ⟨vo,ho1,Vc⟩;obtain ⟨cap,hcap,hrun⟩:=gT (P:=P) (w:=w) (ty:=o.type) hu hi hz ht2 (base:=base) (sLen:=len) (sCap:=sCap) hl (hf w.drew rfl) (ho1 w.drew rfl) hlt (Dg hroom.1 hbp) (tH hroom.1 hlt);have hnb:jr w (w.drew.alloc (.cells (vo.toArray++vn.toArray++Builtin.zeroCells z.cells (cap - (len+m))) e)) (.cells (vo.toArray++vn.toArray++Builtin.zeroCells z.cells (cap - (len+m))) e):=by
       have:=jr.alloc w.drew (.cells (vo.toArray++vn.toArray++Builtin.zeroCells z.cells (cap - (len+m))) e);exact ⟨this.os,this.tape,this.output,this.size,this.old,this.new⟩
      have hvo:vo.length=len * i.size:=by rw [I7.length _ _ Vc,List.length_map,pO]
      refine ⟨_,_,_,?_,cK.XL NR (cK.fresh NR.ri hk (by rw [NR.L];exact aV) entry hnb (.grow ((len+m) * i.size) (.loc k)) (SJ NR.ri.wf hnb Vc Xb rfl ?_ hcap ?_ (by simp)))⟩
      ·rw [mF,hx,hrun];rfl
      ·rw [E0,pO,ED,Nat.add_mul]
      ·simp only [Array.size_append,List.size_toArray,wq,hzs,hvo,uo]
       have:cap * i.size=(len+m) * i.size+(cap - (len+m)) * i.size:=by rw [<- Nat.add_mul];congr 1;omega
       rw [this,Nat.add_mul];omega
     rcases hval with ⟨hnil,ag6⟩|⟨_,b,off,cap,c,e',f,h1,h2,h3,h4,h5,h6,h7⟩
     ·subst ag6
      have hc0:cells=[]:=by simpa using pO
      subst hc0;have hbase:∃ base:Option Addr,a.eval x0= .slice base 0 0/\(base=none\/∃ b o,base=some (ad b o)):=by
       rcases hnil with h|⟨b,o,h⟩
       ·exact ⟨none,h,Or.inl rfl⟩
       ·exact ⟨_,h,Or.inr ⟨b,o,rfl⟩⟩
      obtain ⟨base,hx,hbb⟩:=hbase
      by_cases hm:m=0
      ·subst hm
       have Hw:new=[]:=by simpa using ED
       have hvv:vn=[]:=by simpa using uo
       subst Hw hvv;have hrun:=eV (P:=P) (w:=w) (ty:=o.type) hu hi ht2 (base:=base) (sLen:=0) (sCap:=0) hl (hf w rfl) (n5 _);refine ⟨.slice base 0 0,w,G1,?_,cK.XL NR (cK.same NR.ri hk (by rw [NR.L];exact aV) entry ?_)⟩
       ·rw [mF,hx,hrun]
        cases base<;>simp [storeCells]
       ·simp only [VR]
        refine ⟨by simp,Or.inl ⟨?_,by simp⟩⟩
        rcases hbb with rfl|⟨b,o',rfl⟩
        ·exact Or.inl rfl
        ·exact Or.inr ⟨b,o',rfl⟩
      ·refine out base 0 hx (by omega) ⟨[],fun w2 _=> ?_,by simp [I7]⟩
       cases base<;>simp [Builtin.firstCells,dA]
     ·by_cases hfit:len+m<=cap
      ·have hrun:=eV (P:=P) (w:=w) (ty:=o.type) hu hi ht2 (base:=some (ad b off)) (sLen:=len) (sCap:=cap) hl (hf w rfl) hfit
       have hsize:off+len * i.size+vn.length<=c.size:=by
        rw [uo];have:(len+m) * i.size<=cap * i.size:=Nat.mul_le_mul_right _ hfit;rw [Nat.add_mul] at this;omega
       have hone:IA vn:=by
        intro u hu';obtain ⟨j,hj,rfl⟩:=List.getElem_of_mem hu';have hj2:j<(new.map b6.d).length:=by rw [List.length_map,ED,<- uo];exact hj
        obtain ⟨u',g1,g2⟩:=I7.get _ _ Xb j _ (s9 hj2);rw [s9 hj] at g1;cases g1;exact (jM (by simp [b6.one]) g2).1
       have hst:=run_storeCells_at (P:=P) b (off+len * i.size) e' f vn 0 c w h3 h5 (by omega) hone;simp only [Nat.add_zero] at hst;have um :off+len * i.size+vn.length<=c.toList.length:=by simpa using hsize
       have vk :(L4 c.toList (off+len * i.size) vn).toArray.size=c.size:=by simp [nc _ _ _ um]
       have hkeep:∀ j,j<off+len * i.size->(L4 c.toList (off+len * i.size) vn).toArray[j]? =c[j]? :=by
        intro j hj;rw [show (L4 c.toList (off+len * i.size) vn).toArray[j]? =(L4 c.toList (off+len * i.size) vn)[j]? from by simp,iO _ _ _ um,if_pos hj];simp
       refine ⟨.slice (some (ad b off)) (len+m) cap,w.setRow b (L4 c.toList (off+len * i.size) vn).toArray,_,?_,
        cK.XL NR (cK.grow NR.ri hk (by rw [NR.L];exact aV) entry h6 (n' :=off+(len+m) * i.size) (by rw [Nat.add_mul];omega) h3 vk hkeep ?_)⟩
       ·rw [mF,h1,hrun]
        simp only [ak,hst,Result.andThen_ok]
       ·have hx:=Ew h6 (n' :=off+(len+m) * i.size) (by rw [Nat.add_mul];omega) h3 vk hkeep
        simp only [VR];refine ⟨by rw [E0,pO,ED,Nat.add_mul],Or.inr ⟨by simp,b,off,cap,_,e',f,rfl,hfit,setRow_heap w b c _ e' f h3,by rw [vk];exact h4,by rw [vk];exact h5,by simp,?_⟩⟩;refine wu off _ fun j d hj=> ?_
        have hjl:=p6 hj;rw [E0,pO,ED] at hjl;refine ⟨by simp [jq,Nat.add_mul];omega,?_⟩;rw [T8 (setRow_heap w b c _ e' f h3),show (L4 c.toList (off+len * i.size) vn).toArray[off+j]? =(L4 c.toList (off+len * i.size) vn)[off+j]? from by simp,iO _ _ _ um]
        by_cases hjc:j<len * i.size
        ·rw [if_pos (by omega)]
         rw [x9 (by omega)] at hj;obtain ⟨vs,q1,q2,q3⟩:=fH.vals (I:=I) (N:=N) off cells h7;have hjv:j<vs.length:=by omega
         have q4:=q2 j _ (s9 hjv);rw [T8 h3] at q4;refine ⟨vs[j],by simpa using q4,?_⟩;obtain ⟨u,r1,r2⟩:=I7.get _ _ q3 j (.d d) (by simp [hj]);rw [s9 hjv] at r1;cases r1;simp only [VR] at r2;exact DR.mono hx.kJ _ _ r2
        ·rw [if_neg (by omega),if_pos (by omega)]
         rw [s7 (by omega),pO] at hj;obtain ⟨u,r1,r2⟩:=I7.get _ _ Xb (j - len * i.size) (.d d) (by simp [hj]);refine ⟨u,by rw [show off+j - (off+len * i.size)=j - len * i.size from by omega];exact r1,?_⟩;simp only [VR] at r2;exact DR.mono hx.kJ _ _ r2
      ·refine out (some (ad b off)) cap h1 (by omega) ?_
       obtain ⟨vs,q1,q2,q3⟩:=fH.vals (I:=I) (N:=N) off cells h7;refine ⟨vs,fun w2 MR=> ?_,q3⟩;have:=run_loadCells_list (P:=P) w2 (ad b off) vs (fun j v hj=>by rw [ak,gn MR];exact q2 j v hj);rw [q1,pO] at this;simpa [Builtin.firstCells] using this
    ·cases he
   ·cases he
  ·cases he
 ·cases he
end
end Go.y3


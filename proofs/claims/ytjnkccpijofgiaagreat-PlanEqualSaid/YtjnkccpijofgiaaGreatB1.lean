/-
  The invariant of a region's run; ownership moved from place to place; new blocks.; New blocks: what they leave as it was; slices made of parts and of texts.; Operations that make a block: variables, maps, slices of parts, bytes of a text.; Operands; transfers; writes into objects.; Stores, clear, maps written.; Append: the right taken; the two ways of the built-in function.; Append to a slice by content.; Append, as an effect.
  (Put together by a small program out of several texts; blanks left out to keep the folder small.)
-/
import Derived.Test.YtjnkccpijofgiaaGreatB0
import Derived.Laws.MakeOwn
set_option linter.unusedVariables false
set_option linter.unusedSimpArgs false
namespace Go.Abs
def upd (G:Gh)(b:Nat)(l:Lab):Gh:=fun x=>if x=b then l else G x
def updI (I:Inj)(id:Nat)(p:Nat×Nat):Inj:=fun x=>if x=id then p else I x
@[simp] theorem upd_same (G:Gh) (b:Nat) (l:Lab):upd G b l b=l:=by simp [upd]
theorem upd_other {G:Gh}{b:Nat}{l:Lab}{x:Nat}(h:x≠b):upd G b l x=G x:=by simp [upd,h]
@[simp] theorem updI_same (I:Inj) (id:Nat) (p:Nat×Nat):updI I id p id=p:=by simp [updI]
theorem updI_other {I:Inj}{id:Nat}{p:Nat×Nat}{x:Nat}(h:x≠id):updI I id p x=I x:=by simp [updI,h]
def Pres (l:Lim)(G:Gh)(w:World)(G' :Gh)(w' :World):Prop :=
 ∀ id,l.may id=false→(∀ b,G b= .obj id→G' b= .obj id∧w'.heap[b]? =w.heap[b]?)∧∀ off,Keeps (.cell id off) G w G' w'
theorem Pres.refl (l:Lim)(G:Gh)(w:World):Pres l G w G w:=fun _ _=>⟨fun _ h=>⟨h,rfl⟩,fun _ _ _ h=>⟨h,rfl⟩⟩
theorem Pres.trans {l:Lim}{G:Gh}{w:World}{G1:Gh}{w1:World}{G2:Gh}{w2:World}(h:Pres l G w G1 w1)(k:Pres l G1 w1 G2 w2):Pres l G w G2 w2:=by
 intro id hid
 obtain ⟨h1,h2⟩:=h id hid
 obtain ⟨k1,k2⟩:=k id hid
 refine ⟨fun b hb=> ?_,fun off b n hb=> ?_⟩
 ·obtain ⟨a1,a2⟩:=h1 b hb
  obtain ⟨b1,b2⟩:=k1 b a1
  exact ⟨b1,b2.trans a2⟩
 ·obtain ⟨a1,a2⟩:=h2 off b n hb
  obtain ⟨b1,b2⟩:=k2 off b n a1
  exact ⟨b1,b2.trans a2⟩
def Disc (l:Lim)(H:Heap):Prop :=
 ∀ id o,H[id]? =some o→(id<l.strict→o.bnd≤id+1)∧(id<l.base→o.bnd≤l.base)
def IdleD (_P:Program)(idle:FuncId→Bool)(d:Deferred):Prop :=
 ∃ f cap,d.target= .fn (.func f) cap∧idle f=true
structure RI (X:Cx)(l:Lim)(S:Nat→Prop)(st:RSt)(a:Act)(w:World)(G:Gh)(I:Inj)(N:Nat→Prop):Prop where
 T:∀ (s:Nat) t,X.names[s]? =some t→VR G I N w (.slot s) (st.T.getD s .any) (a.tmps.getD t undef)
 L:∀ (j:Nat),S j→∀ d,(X.ops[j]?).bind (·.dst)=some d→X.names.contains d=false→VR G I N w (.loc j) (st.L.getD j .any) (a.tmps.getD d undef)
 H:HR G I N w st.H
 wf:WF G w
 disc:Disc l st.H
theorem Imm_upd_grow {G:Gh}{b n:Nat}{pl pl' :Place}(h:G b= .grow n pl)(x o:Nat):Imm (upd G b (.grow n pl')) x o↔Imm G x o:=by
 unfold Imm upd
 by_cases hx:x=b
 ·subst hx;simp [h]
 ·simp [hx]
theorem Ext.relabel {G:Gh}{w:World}{b n:Nat}{pl pl' :Place}(h:G b= .grow n pl):Ext G w (upd G b (.grow n pl')) w where
 os:=rfl
 tape:=rfl
 output:=rfl
 size:=Nat.le_refl _
 imm x o hi:=⟨(Imm_upd_grow h x o).2 hi,rfl⟩
 still x hx:=by
  have:x≠b:=by rintro rfl;rw [h] at hx;rcases hx with hx|⟨m,hx⟩<;>cases hx
  exact ⟨upd_other this,rfl⟩
 shape _ c _ _ hc:=⟨c,hc,rfl⟩
theorem Keeps.relabel {G:Gh}{w:World}{b n:Nat}{pl pl' q:Place}(h:G b= .grow n pl)(hq:q≠pl):Keeps q G w (upd G b (.grow n pl')) w:=by
 intro x m hx
 have:x≠b:=by rintro rfl;rw [h] at hx;cases hx;exact hq rfl
 exact ⟨by rw [upd_other this];exact hx,rfl⟩
structure Moved (pl:Place)(G:Gh)(w:World)(G' :Gh):Prop where
 ext:Ext G w G' w
 keeps:∀ q,q≠pl→Keeps q G w G' w
 obj:∀ b id,G b= .obj id→G' b= .obj id
 wf:WF G w→WF G' w
theorem Moved.refl (pl:Place)(G:Gh)(w:World):Moved pl G w G:=⟨Ext.refl _ _,fun _ _ _ _ h=>⟨h,rfl⟩,fun _ _ h=>h,fun h=>h⟩
theorem own_move {G:Gh}{I:Inj}{N:Nat→Prop}{w:World}{pl pl' :Place}(hp' :pl' ≠ .none){sz len:Nat}{cells:List Data}{x:Value}(h:VR G I N w pl (.own sz len cells) x) :
  ∃ G',Moved pl G w G' ∧VR G' I N w pl' (.own sz len cells) x:=by
 have h0:=h
 simp only [VR] at h
 obtain ⟨hl,h⟩:=h
 rcases h with h|⟨hp,b,o,cap,c,e,f,h1,h2,h3,h4,h5,h6,h7⟩
 ·exact ⟨G,Moved.refl _ _ _,by simp only [VR];exact ⟨hl,Or.inl h⟩⟩
 ·refine ⟨upd G b (.grow (o+len * sz) pl'),⟨Ext.relabel h6,fun q hq=>Keeps.relabel h6 hq,fun x id hx=> ?_,fun hwf x hx=> ?_⟩,?_⟩
  ·have:x≠b:=by rintro rfl;rw [h6] at hx;cases hx
   rw [upd_other this];exact hx
  ·have:x≠b:=by
    rintro rfl
    have:=hwf x hx
    rw [h6] at this;cases this
   rw [upd_other this];exact hwf x hx
  ·simp only [VR]
   exact ⟨hl,Or.inr ⟨hp',b,o,cap,c,e,f,h1,h2,h3,h4,h5,upd_same _ _ _,DRs.mono (Ext.relabel h6).imm b o cells h7⟩⟩
theorem getD_set_same {α:Type}(l:List α)(i:Nat)(v d:α)(h:i<l.length):(l.set i v).getD i d=v:=by
 simp [List.getD,h]
theorem getD_set_other {α:Type}(l:List α)(i j:Nat)(v d:α)(h:i≠j):(l.set i v).getD j d=l.getD j d:=by
 simp [List.getD,List.getElem?_set_ne h]
theorem lt_of_getElem? {α:Type}{l:List α}{i:Nat}{v:α}(h:l[i]? =some v):i<l.length:=by
 rcases Nat.lt_or_ge i l.length with h' |h'
 ·exact h'
 ·rw [List.getElem?_eq_none h'] at h;cases h
theorem getD_of {α:Type}{l:List α}{i:Nat}{v d:α}(h:l[i]? =some v):l.getD i d=v:=by simp [List.getD,h]
section
variable {X:Cx} {l:Lim} {S:Nat→Prop} {st:RSt} {a:Act} {w:World} {G:Gh} {I:Inj} {N:Nat→Prop}
theorem HR.moved {H:Heap}{pl:Place}(hH:HR G I N w H){G' :Gh}(hm:Moved pl G w G')(hpl:∀ id off,pl≠ .cell id off):HR G' I N w H:=by
 intro id o ho
 exact OR.mono hm.ext (fun _ _=>rfl) (fun _ h=>h) id o (fun h=>⟨hm.obj _ _ h,rfl⟩) (fun off=>hm.keeps _ (fun e=>hpl id off e.symm)) (hH id o ho)
theorem RI.takeSlot (h:RI X l S st a w G I N){s:Nat}{sz len:Nat}{cells:List Data}(hs:st.T[s]? =some (.own sz len cells))(tch:List Touch)
  {G' :Gh} (hm:Moved (.slot s) G w G'):RI X l S { st with T:=st.T.set s (.d (.slice len cells)),tch } a w G' I N where
 T s' t ht:=by
  by_cases he:s' =s
  ·subst he
   have h1:=h.T s' t ht
   rw [getD_of hs] at h1
   rw [getD_set_same _ _ _ _ (lt_of_getElem? hs)]
   have h2:VR G I N w (.slot s') (AVal.asD (.own sz len cells)) (a.tmps.getD t undef):=h1.asD
   simp only [AVal.asD,VR] at h2 ⊢
   exact DR.mono hm.ext.imm _ _ h2
  ·rw [getD_set_other _ _ _ _ _ (fun e=>he e.symm)]
   exact VR.mono hm.ext (fun _ _=>rfl) (fun _ h=>h) _ _ _ (Or.inr (hm.keeps _ (fun e=>he (by cases e;rfl)))) (h.T s' t ht)
 L j hj d hd hn:=VR.mono hm.ext (fun _ _=>rfl) (fun _ h=>h) _ _ _ (Or.inr (hm.keeps _ (fun e=>by cases e))) (h.L j hj d hd hn)
 H:=h.H.moved hm (fun _ _ e=>by cases e)
 wf:=hm.wf h.wf
 disc:=h.disc
theorem RI.takeLoc (h:RI X l S st a w G I N){j0:Nat}{sz len:Nat}{cells:List Data}(hs:st.L[j0]? =some (.own sz len cells))
  {G' :Gh} (hm:Moved (.loc j0) G w G'):RI X l S { st with L:=st.L.set j0 (.d (.slice len cells)) } a w G' I N where
 T s' t ht:=VR.mono hm.ext (fun _ _=>rfl) (fun _ h=>h) _ _ _ (Or.inr (hm.keeps _ (fun e=>by cases e))) (h.T s' t ht)
 L j hj d hd hn:=by
  by_cases he:j=j0
  ·subst he
   have h1:=h.L j hj d hd hn
   rw [getD_of hs] at h1
   rw [getD_set_same _ _ _ _ (lt_of_getElem? hs)]
   have h2:VR G I N w (.loc j) (AVal.asD (.own sz len cells)) (a.tmps.getD d undef):=h1.asD
   simp only [AVal.asD,VR] at h2 ⊢
   exact DR.mono hm.ext.imm _ _ h2
  ·rw [getD_set_other _ _ _ _ _ (fun e=>he e.symm)]
   exact VR.mono hm.ext (fun _ _=>rfl) (fun _ h=>h) _ _ _ (Or.inr (hm.keeps _ (fun e=>he (by cases e;rfl)))) (h.L j hj d hd hn)
 H:=h.H.moved hm (fun _ _ e=>by cases e)
 wf:=hm.wf h.wf
 disc:=h.disc
theorem bndL_set_d:∀ (l:List AVal) (i:Nat) (x:Data),bndL (l.set i (.d x))≤bndL l
 |[],_,_=>by simp
 |v::vs,0,x=>by simp only [List.set_cons_zero,bndL,AVal.bnd];omega
 |v::vs,i+1,x=>by
  have:=bndL_set_d vs i x
  simp only [List.set_cons_succ,bndL];omega
theorem RI.takeCell (h:RI X l S st a w G I N){id off:Nat}{cs:List AVal}{sz len:Nat}{cells:List Data}(hid:st.H[id]? =some (.cells cs))(hs:cs[off]? =some (.own sz len cells))(tch:List Touch)
  {G' :Gh} (hm:Moved (.cell id off) G w G'):RI X l S { st with H:=st.H.set id (.cells (cs.set off (.d (.slice len cells)))),tch } a w G' I N where
 T s' t ht:=by
  exact VR.mono hm.ext (fun _ _=>rfl) (fun _ h=>h) _ _ _ (Or.inr (hm.keeps _ (fun e=>by cases e))) (h.T s' t ht)
 L j hj d hd hn:=by
  exact VR.mono hm.ext (fun _ _=>rfl) (fun _ h=>h) _ _ _ (Or.inr (hm.keeps _ (fun e=>by cases e))) (h.L j hj d hd hn)
 H:=by
  intro id' o ho
  by_cases he:id' =id
  ·subst he
   rw [List.getElem?_set_self (lt_of_getElem? hid)] at ho
   cases ho
   have hO:=h.H id' _ hid
   simp only [OR] at hO ⊢
   obtain ⟨hN,c,e,f,h1,h2,h3,h4,h5⟩:=hO
   ·refine ⟨hN,c,e,f,h1,hm.obj _ _ h2,h3,by simpa using h4,fun i x hx=> ?_⟩
    by_cases hi:i=off
    ·subst hi
     rw [List.getElem?_set_self (lt_of_getElem? hs)] at hx
     cases hx
     obtain ⟨v,g1,g2⟩:=h5 i _ hs
     refine ⟨v,g1,?_⟩
     have h2:VR G I N w (.cell id' i) (AVal.asD (.own sz len cells)) v:=g2.asD
     simp only [AVal.asD,VR] at h2 ⊢
     exact DR.mono hm.ext.imm _ _ h2
    ·rw [List.getElem?_set_ne (fun e=>hi e.symm)] at hx
     obtain ⟨v,g1,g2⟩:=h5 i x hx
     exact ⟨v,g1,VR.mono hm.ext (fun _ _=>rfl) (fun _ h=>h) _ _ _ (Or.inr (hm.keeps _ (fun e=>hi (by cases e;rfl)))) g2⟩
  ·rw [List.getElem?_set_ne (fun e=>he e.symm)] at ho
   exact OR.mono hm.ext (fun _ _=>rfl) (fun _ h=>h) id' o (fun h=>⟨hm.obj _ _ h,rfl⟩) (fun off' =>hm.keeps _ (fun e=>he (by cases e;rfl))) (h.H id' o ho)
 wf:=hm.wf h.wf
 disc:=by
  intro id' o ho
  by_cases he:id' =id
  ·subst he
   rw [List.getElem?_set_self (lt_of_getElem? hid)] at ho
   cases ho
   obtain ⟨d1,d2⟩:=h.disc id' _ hid
   have hb:=bndL_set_d cs off (.slice len cells)
   simp only [AObj.bnd] at d1 d2 ⊢
   exact ⟨fun hx=>by have:=d1 hx;omega,fun hx=>by have:=d2 hx;omega⟩
  ·rw [List.getElem?_set_ne (fun e=>he e.symm)] at ho
   exact h.disc id' o ho
end
end Go.Abs
namespace Go.Abs
structure New (w w' :World)(o:Obj):Prop where
 os:w'.os=w.os
 tape:w'.tape=w.tape
 output:w'.output=w.output
 size:w'.heap.size=w.heap.size+1
 old:∀ b,b<w.heap.size→w'.heap[b]? =w.heap[b]?
 new:w'.heap[w.heap.size]? =some o
theorem New.alloc (w:World)(o:Obj):New w (w.alloc o) o :=
 ⟨rfl,rfl,rfl,by simp,fun b hb=>RowKit.Below.heap_alloc w o b hb,by show (w.heap.push o)[w.heap.size]? =_;simp⟩
theorem New.drew {w w' :World}{o:Obj}(h:New w w' o)(n:Nat):New w { w' with drawn:=n } o:=⟨h.os,h.tape,h.output,h.size,h.old,h.new⟩
theorem lt_of_label {G:Gh}{w:World}(hwf:WF G w){b:Nat}(h:G b≠ .free):b<w.heap.size:=by
 rcases Nat.lt_or_ge b w.heap.size with h' |h'
 ·exact h'
 ·exact absurd (hwf b h') h
section
variable {G:Gh} {w w' :World} {ob:Obj}
theorem New.cell (hn:New w w' ob){b:Nat}(hb:b<w.heap.size)(o:Nat):w'.cell? (ad b o)=w.cell? (ad b o):=by
 simp [World.cell?,hn.old b hb]
theorem New.ext (hn:New w w' ob)(hwf:WF G w)(lab:Lab):Ext G w (upd G w.heap.size lab) w' where
 os:=hn.os
 tape:=hn.tape
 output:=hn.output
 size:=by rw [hn.size];omega
 imm b o hi:=by
  have hb:b<w.heap.size:=lt_of_label hwf (by intro e;simp [Imm,e] at hi)
  have hne:b≠w.heap.size:=by omega
  refine ⟨?_,hn.cell hb o⟩
  unfold Imm at hi ⊢
  rw [upd_other hne];exact hi
 still b hb:=by
  have hlt:b<w.heap.size:=lt_of_label hwf (by rintro e;rw [e] at hb;rcases hb with hb|⟨n,hb⟩<;>cases hb)
  exact ⟨upd_other (by omega),hn.old b hlt⟩
 shape b c e f hc:=by
  have hlt:b<w.heap.size:=by
   rcases Nat.lt_or_ge b w.heap.size with h|h
   ·exact h
   ·rw [Array.getElem?_eq_none h] at hc;cases hc
  exact ⟨c,by rw [hn.old b hlt];exact hc,rfl⟩
theorem New.keeps (hn:New w w' ob)(hwf:WF G w)(lab:Lab)(q:Place):Keeps q G w (upd G w.heap.size lab) w' :=by
 intro b n hb
 have hlt:b<w.heap.size:=lt_of_label hwf (by rw [hb];simp)
 exact ⟨by rw [upd_other (by omega)];exact hb,hn.old b hlt⟩
theorem New.objs (hn:New w w' ob)(hwf:WF G w)(lab:Lab)(id:Nat):∀ b,G b= .obj id→(upd G w.heap.size lab) b= .obj id∧w'.heap[b]? =w.heap[b]? :=by
 intro b hb
 have hlt:b<w.heap.size:=lt_of_label hwf (by rw [hb];simp)
 exact ⟨by rw [upd_other (by omega)];exact hb,hn.old b hlt⟩
theorem New.wf (hn:New w w' ob)(hwf:WF G w)(lab:Lab):WF (upd G w.heap.size lab) w' :=by
 intro b hb
 rw [hn.size] at hb
 rw [upd_other (by omega)]
 exact hwf b (by omega)
theorem New.pres (hn:New w w' ob)(hwf:WF G w)(lab:Lab)(l:Lim):Pres l G w (upd G w.heap.size lab) w' :=
 fun id _=>⟨hn.objs hwf lab id,fun off=>hn.keeps hwf lab (.cell id off)⟩
theorem New.hr (hn:New w w' ob)(hwf:WF G w)(lab:Lab){I I' :Inj}{N N' :Nat→Prop}{H:Heap}(hI:∀ id,N id→I' id=I id)(hN:∀ id,N id→N' id)(h:HR G I N w H) :
  HR (upd G w.heap.size lab) I' N' w' H :=
 fun id o ho=>OR.mono (hn.ext hwf lab) hI hN id o (fun hb=>hn.objs hwf lab id _ hb) (fun _=>hn.keeps hwf lab _) (h id o ho)
theorem New.vr (hn:New w w' ob)(hwf:WF G w)(lab:Lab){I I' :Inj}{N N' :Nat→Prop}(hI:∀ id,N id→I' id=I id)(hN:∀ id,N id→N' id){pl:Place}{a:AVal}{x:Value}(h:VR G I N w pl a x) :
  VR (upd G w.heap.size lab) I' N' w' pl a x :=
 VR.mono (hn.ext hwf lab) hI hN pl a x (Or.inr (hn.keeps hwf lab pl)) h
end
structure Mid (X:Cx)(l:Lim)(S:Nat→Prop)(entry:Nat)(st:RSt)(a:Act)(w:World)(G:Gh)(I:Inj)(N:Nat→Prop)
  (st' :RSt) (k:Nat) (x' :Value) (w' :World) (G' :Gh) (I' :Inj) (N' :Nat→Prop):Prop where
 ri:RI X l S st' a w' G' I' N'
 val:VR G' I' N' w' (.loc k) (st'.L.getD k .any) x'
 ext:Ext G w G' w'
 pres:Pres l G w G' w'
 ko:∀ id,N id→st'.tch.any (Touch.objHit id)=false→I' id=I id∧∀ b,G b= .obj id→G' b= .obj id∧w'.heap[b]? =w.heap[b]?
 inj:∀ id,id<entry→N id→I' id=I id
 mono:∀ id,N id→N' id
 len:st.H.length≤st'.H.length
 hle:∀ id o',id<l.base→st'.H[id]? =some o' →o'.bnd≤id+1∨∃ o,st.H[id]? =some o∧o'.bnd≤o.bnd
section
variable {P:Program} {X:Cx} {l:Lim} {S:Nat→Prop} {st:RSt} {a:Act} {w w' :World} {G:Gh} {I:Inj} {N:Nat→Prop} {ob:Obj}
theorem RI.new (h:RI X l S st a w G I N)(hn:New w w' ob)(lab:Lab):RI X l S st a w' (upd G w.heap.size lab) I N where
 T s t ht:=hn.vr h.wf lab (fun _ _=>rfl) (fun _ h=>h) (h.T s t ht)
 L j hj d hd hN:=hn.vr h.wf lab (fun _ _=>rfl) (fun _ h=>h) (h.L j hj d hd hN)
 H:=hn.hr h.wf lab (fun _ _=>rfl) (fun _ h=>h) h.H
 wf:=hn.wf h.wf lab
 disc:=h.disc
theorem RI.put (h:RI X l S st a w G I N){k:Nat}(hk:¬ S k)(v:AVal):RI X l S (put st k v) a w G I N where
 T:=h.T
 L j hj d hd hN:=by
  have:k≠j:=by rintro rfl;exact hk hj
  simp only [Abs.put]
  rw [getD_set_other _ _ _ _ _ this]
  exact h.L j hj d hd hN
 H:=h.H
 wf:=h.wf
 disc:=h.disc
theorem Mid.same (h:RI X l S st a w G I N){k:Nat}(hk:¬ S k)(hkl:k<st.L.length)(entry:Nat){v:AVal}{x:Value}(hv:VR G I N w (.loc k) v x) :
  Mid X l S entry st a w G I N (put st k v) k x w G I N where
 ri:=h.put hk v
 val:=by simp only [Abs.put];rw [getD_set_same _ _ _ _ hkl];exact hv
 ext:=Ext.refl _ _
 pres:=Pres.refl _ _ _
 ko _ _ _:=⟨rfl,fun _ hb=>⟨hb,rfl⟩⟩
 inj _ _ _:=rfl
 mono _ h:=h
 len:=Nat.le_refl _
 hle _ o _ ho:=Or.inr ⟨o,ho,Nat.le_refl _⟩
theorem Mid.fresh (h:RI X l S st a w G I N){k:Nat}(hk:¬ S k)(hkl:k<st.L.length)(entry:Nat)(hn:New w w' ob)(lab:Lab){v:AVal}{x:Value}
  (hv:VR (upd G w.heap.size lab) I N w' (.loc k) v x):Mid X l S entry st a w G I N (put st k v) k x w' (upd G w.heap.size lab) I N where
 ri:=(h.new hn lab).put hk v
 val:=by simp only [Abs.put];rw [getD_set_same _ _ _ _ hkl];exact hv
 ext:=hn.ext h.wf lab
 pres:=hn.pres h.wf lab l
 ko id _ _:=⟨rfl,hn.objs h.wf lab id⟩
 inj _ _ _:=rfl
 mono _ h:=h
 len:=Nat.le_refl _
 hle _ o _ ho:=Or.inr ⟨o,ho,Nat.le_refl _⟩
end
section
variable {G:Gh} {I:Inj} {N:Nat→Prop} {w w' :World}
theorem datas_sound:∀ (cs:List AVal) (xs:List Data) (vs:List Value),datas? cs=some xs→VRs G I N w cs vs →
  xs.length=cs.length∧∀ (i:Nat) x,xs[i]? =some x→∃ v,vs[i]? =some v∧DR G w x v
 |[],xs,vs,h,_=>by
  simp [datas?] at h;subst h
  exact ⟨rfl,by simp⟩
 |c::cs,xs,vs,h,hv=>by
  simp only [VRs] at hv
  obtain ⟨v,vs',rfl,h2,h3⟩:=hv
  unfold datas? at h
  split at h
  ·rename_i x hx
   split at h
   ·rename_i ys hys
    simp at h;subst h
    obtain ⟨g1,g2⟩:=datas_sound cs ys vs' hys h3
    refine ⟨by simp [g1],fun i y hi=> ?_⟩
    cases i with
    |zero =>
     simp at hi;subst hi
     refine ⟨v,rfl,?_⟩
     unfold AVal.data? at hx
     split at hx
     ·simp at hx;subst hx;simpa [VR] using h2
     ·rename_i sz len cells
      simp at hx;subst hx
      have:=h2.asD (pl' := .none)
      simpa [AVal.asD,VR] using this
     ·simp at hx;subst hx
      have:=h2.asD (pl' := .none)
      simpa [AVal.asD,VR] using this
     ·cases hx
    |succ i=>simpa using g2 i y (by simpa using hi)
   ·cases h
  ·cases h
theorem DRs_of {b:Nat}:∀ (o:Nat) (xs:List Data),(∀ (i:Nat) x,xs[i]? =some x→Imm G b (o+i)∧∃ v,w.cell? (ad b (o+i))=some v∧DR G w x v)→DRs G w b o xs
 |_,[],_=>by simp [DRs]
 |o,x::xs,h=>by
  simp only [DRs]
  obtain ⟨h1,h2⟩:=h 0 x rfl
  refine ⟨by simpa using h1,by simpa using h2,DRs_of (o+1) xs fun i y hi=> ?_⟩
  have:=h (i+1) y (by simpa using hi)
  rw [show o+1+i=o+(i+1) from by omega]
  exact this
theorem own_new (hwf:WF G w){c:Array Value}{e:TypeId}{f:Nat×Nat}(hn:New w w' (.cells c e f))(hf:NoFr f c.size){cs:List AVal}{xs:List Data}{vs:List Value}
  (hd:datas? cs=some xs) (hv:VRs G I N w cs vs) (hc:∀ (i:Nat) v,vs[i]? =some v→c[i]? =some v) {sz len cap:Nat} (hl:xs.length=len * sz) (hcap:len≤cap) (hsz:cap * sz≤c.size) {pl:Place} (hp:pl≠ .none) :
  VR (upd G w.heap.size (.grow (len * sz) pl)) I N w' pl (.own sz len xs) (.slice (some (ad w.heap.size 0)) len cap):=by
 simp only [VR]
 refine ⟨hl,Or.inr ⟨hp,w.heap.size,0,cap,c,e,f,rfl,hcap,hn.new,by simpa using hsz,hf,by simp,?_⟩⟩
 obtain ⟨g1,g2⟩:=datas_sound cs xs vs hd hv
 refine DRs_of 0 xs fun i x hi=> ?_
 obtain ⟨v,e1,e2⟩:=g2 i x hi
 have hlt:=lt_of_getElem? hi
 refine ⟨by simp [Imm];omega,v,?_,DR.mono (hn.ext hwf _).imm _ _ e2⟩
 rw [cell_of_heap hn.new]
 simpa using hc i v e1
end
end Go.Abs
namespace Go.Abs
def zerosOf (P:Program)(e:TypeId)(n:Nat):Option (List Value) :=
 if n=0 then some [] else
 match P.info? e with
 |some i=>match i.zero with
  |some z=>some ((Array.range n).map (z.cells[· % z.cells.size]!)).toList
  |none=>none
 |none=>none
def chkNew (P:Program)(ck:Operand→Opd→Bool)(o:Oper)(op:AOp):Bool :=
 match o.op,op with
 | .alloc t,.alloc zero=>zeroOK P t zero
 | .box _ x,.box y=>ck x y
 | .makeMap _ none,.makeMap=>true
 | .makeSlice t n c,.makeS sz zero x y=>ck n x&&ck c y&&isSliceT P t sz&&(match P.underlying t with
  |some (.slice e)=>zeroOK P e zero&&(match P.info? e with
   |some i=>Nat.beq i.size sz&&Nat.ble i.bytes 1000
   |none=>false)
  |_=>false)
 | .buildSlice t n parts,.bslice sz len zero ps _=>n==len&&isSliceT P t sz&&decide (len * sz≤16777216)&&(match P.underlying t with
  |some (.slice e)=>(match zerosOf P e (len * sz) with
   |some zs=>consts zs zero&&partsOK P ck (fun i=>some (i * sz,sz)) parts.toList ps
   |none=>false)
  |_=>false)
 | .convert s d x,.convSB y=>ck x y&&(P.underlying s).isSome&&(match P.underlying d with|some (.slice e)=>(match P.underlying e with|some (.int .u8)=>true|_=>false)|_=>false)
 |_,_=>false
section
variable {P:Program} {X:Cx} {l:Lim} {S:Nat→Prop} {st:RSt} {a:Act} {w w' :World} {G:Gh} {I:Inj} {N:Nat→Prop} {ob:Obj}
structure IdOK (l:Lim)(st:RSt)(N:Nat→Prop)(nid:Option Nat):Prop where
 new:¬ N (newId st nid)
 inside:∀ i,nid=some i→i<st.H.length
 base:l.base≤newId st nid
 strict:l.strict≤newId st nid
theorem newObjA_len (st:RSt)(nid:Option Nat)(o:AObj):st.H.length≤(newObjA st nid o).H.length:=by
 cases nid<;>simp [newObjA]
theorem newObjA_get {st:RSt}{nid:Option Nat}(hi:∀ i,nid=some i→i<st.H.length)(o:AObj)(id:Nat)(o' :AObj)(h:(newObjA st nid o).H[id]? =some o') :
  (id=newId st nid∧o' =o)∨(id≠newId st nid∧st.H[id]? =some o'):=by
 cases nid with
 |none =>
  simp only [newObjA,newId,Option.getD_none] at h ⊢
  rcases Nat.lt_trichotomy id st.H.length with hlt|heq|hgt
  ·rw [List.getElem?_append_left hlt] at h
   exact Or.inr ⟨by omega,h⟩
  ·subst heq
   simp at h
   exact Or.inl ⟨rfl,h.symm⟩
  ·rw [List.getElem?_eq_none (by simp;omega)] at h;cases h
 |some i =>
  simp only [newObjA,newId,Option.getD_some] at h ⊢
  by_cases he:id=i
  ·subst he
   rw [List.getElem?_set_self (hi id rfl)] at h
   exact Or.inl ⟨rfl,by cases h;rfl⟩
  ·rw [List.getElem?_set_ne (fun e=>he e.symm)] at h
   exact Or.inr ⟨he,h⟩
theorem Mid.newObj (h:RI X l S st a w G I N){k:Nat}(hk:¬ S k)(hkl:k<st.L.length)(entry:Nat){nid:Option Nat}(hid:IdOK l st N nid)(hn:New w w' ob)(o:AObj)
  (ho:OR (upd G w.heap.size (.obj (newId st nid))) (updI I (newId st nid) (w.heap.size,0)) (fun i=>N i∨i=newId st nid) w' (newId st nid) o) {v:AVal} {x:Value}
  (hv:VR (upd G w.heap.size (.obj (newId st nid))) (updI I (newId st nid) (w.heap.size,0)) (fun i=>N i∨i=newId st nid) w' (.loc k) v x) :
  Mid X l S entry st a w G I N (put (newObjA st nid o) k v) k x w' (upd G w.heap.size (.obj (newId st nid))) (updI I (newId st nid) (w.heap.size,0)) (fun i=>N i∨i=newId st nid):=by
 have hI:∀ id,N id→updI I (newId st nid) (w.heap.size,0) id=I id:=fun id hN=>updI_other (by rintro rfl;exact hid.new hN)
 have hT:(newObjA st nid o).T=st.T:=by cases nid<;>rfl
 have hL:(newObjA st nid o).L=st.L:=by cases nid<;>rfl
 refine ⟨⟨?_,?_,?_,hn.wf h.wf _,?_⟩,?_,hn.ext h.wf _,hn.pres h.wf _ l,?_,?_,fun _ h=>Or.inl h,newObjA_len st nid o,?_⟩
 ·intro s t ht
  simp only [Abs.put,hT]
  exact hn.vr h.wf _ hI (fun _ h=>Or.inl h) (h.T s t ht)
 ·intro j hj d hd hN
  have:k≠j:=by rintro rfl;exact hk hj
  simp only [Abs.put,hL]
  rw [getD_set_other _ _ _ _ _ this]
  exact hn.vr h.wf _ hI (fun _ h=>Or.inl h) (h.L j hj d hd hN)
 ·intro id o' ho'
  simp only [Abs.put] at ho'
  rcases newObjA_get hid.inside o id o' ho' with ⟨rfl,rfl⟩|⟨hne,hold⟩
  ·exact ho
  ·exact OR.mono (hn.ext h.wf _).sub hI (fun _ h=>Or.inl h) id o' (fun hb=>hn.objs h.wf _ id _ hb) (fun _=>hn.keeps h.wf _ _) (h.H id o' hold)
 ·intro id o' ho'
  simp only [Abs.put] at ho'
  rcases newObjA_get hid.inside o id o' ho' with ⟨rfl,rfl⟩|⟨hne,hold⟩
  ·exact ⟨fun hx=>absurd hx (by have:=hid.strict;omega),fun hx=>absurd hx (by have:=hid.base;omega)⟩
  ·exact h.disc id o' hold
 ·simp only [Abs.put,hL]
  rw [getD_set_same _ _ _ _ hkl]
  exact hv
 ·intro id hN _
  exact ⟨hI id hN,hn.objs h.wf _ id⟩
 ·intro id _ hN
  exact hI id hN
 ·intro id o' hb ho'
  simp only [Abs.put] at ho'
  rcases newObjA_get hid.inside o id o' ho' with ⟨rfl,rfl⟩|⟨hne,hold⟩
  ·exact absurd hb (by have:=hid.base;omega)
  ·exact Or.inr ⟨o',hold,Nat.le_refl _⟩
theorem NoFr00 (n:Nat):NoFr (0,0) n:=by intro o _ h;simp at h
theorem OR_new (hwf:WF G w){c:Array Value}{e:TypeId}(hn:New w w' (.cells c e)){id:Nat}(hid:¬ N id){cs:List AVal}(hv:VRs G I N w cs c.toList) :
  OR (upd G w.heap.size (.obj id)) (updI I id (w.heap.size,0)) (fun i=>N i∨i=id) w' id (.cells cs):=by
 simp only [OR]
 refine ⟨Or.inr trivial,c,e,(0,0),by simpa using hn.new,by simp,NoFr00 _,?_,fun i x hx=> ?_⟩
 ·have:=VRs.length _ _ hv
  simp at this
  simp [this]
 ·obtain ⟨v,g1,g2⟩:=VRs.get cs _ hv i x hx
  refine ⟨v,by simpa using g1,?_⟩
  exact (hn.vr hwf _ (fun j hj=>updI_other (by rintro rfl;exact hid hj)) (fun _ h=>Or.inl h) g2).place
variable {ck:Operand→Opd→Bool}
theorem new_alloc (h:RI X l S st a w G I N){k:Nat}(hk:¬ S k)(hkl:k<st.L.length)(entry:Nat){nid:Option Nat}(hid:IdOK l st N nid){o:Oper}{zero:List AVal}
  (hc:chkNew P ck o (.alloc zero)=true):∃ x w' G' I' N',(execOp a.eval o).run P w= .ok (.value x) w' ∧
   Mid X l S entry st a w G I N (put (newObjA st nid (.cells zero)) k (.ptr (newId st nid) 0)) k x w' G' I' N' ∧(∀ i,N' i↔N i∨i=newId st nid):=by
 obtain ⟨dst,oop,ty,pos,after,guard⟩:=o
 cases oop<;>simp only [chkNew] at hc<;>try (cases hc;done)
 rename_i t
 obtain ⟨it,z,e1,e2,e3⟩:=zeroOK_sound (G:=G) (I:=I) (N:=N) (w:=w) hc
 have hz:(zeroValue t).run P w= .ok z w:=by simp [zeroValue,typeInfo,e1,e2]
 refine ⟨.pointer (some (ad w.heap.size 0)),w.alloc (.cells z.cells t),_,_,_,?_,Mid.newObj h hk hkl entry hid (New.alloc w (.cells z.cells t)) (.cells zero) (OR_new h.wf (New.alloc w _) hid.new e3) ?_,fun i=>Iff.rfl⟩
 ·simp [execOp,Instr.alloc,hz,newVar,newRow]
 ·simp only [VR];exact ⟨Or.inr trivial,by simp⟩
theorem new_box (h:RI X l S st a w G I N)(hρ:Opds ck G I N w a.eval (rho st.T st.L)){k:Nat}(hk:¬ S k)(hkl:k<st.L.length)(entry:Nat){nid:Option Nat}(hid:IdOK l st N nid){o:Oper}{y:Opd}
  (hc:chkNew P ck o (.box y)=true) {cs:List AVal} (hcs:(rho st.T st.L y).cells? =some cs):∃ x w' G' I' N',(execOp a.eval o).run P w= .ok (.value x) w' ∧
   Mid X l S entry st a w G I N (put (newObjA st nid (.cells cs)) k (.ptr (newId st nid) 0)) k x w' G' I' N' ∧(∀ i,N' i↔N i∨i=newId st nid):=by
 obtain ⟨dst,oop,ty,pos,after,guard⟩:=o
 cases oop<;>simp only [chkNew] at hc<;>try (cases hc;done)
 rename_i t x
 obtain ⟨g1,_⟩:=cells_sound hcs (hρ _ _ hc)
 refine ⟨.pointer (some (ad w.heap.size 0)),w.alloc (.cells (a.eval x).cells t),_,_,_,?_,Mid.newObj h hk hkl entry hid (New.alloc w (.cells (a.eval x).cells t)) (.cells cs) (OR_new h.wf (New.alloc w _) hid.new g1) ?_,fun i=>Iff.rfl⟩
 ·simp [execOp,Instr.box,newVar,newRow]
 ·simp only [VR];exact ⟨Or.inr trivial,by simp⟩
theorem new_map (h:RI X l S st a w G I N){k:Nat}(hk:¬ S k)(hkl:k<st.L.length)(entry:Nat){nid:Option Nat}(hid:IdOK l st N nid){o:Oper}
  (hc:chkNew P ck o .makeMap=true):∃ x w' G' I' N',(execOp a.eval o).run P w= .ok (.value x) w' ∧
   Mid X l S entry st a w G I N (put (newObjA st nid (.map [])) k (.map (newId st nid))) k x w' G' I' N' ∧(∀ i,N' i↔N i∨i=newId st nid):=by
 obtain ⟨dst,oop,ty,pos,after,guard⟩:=o
 unfold chkNew at hc
 split at hc<;>try (cases hc;done)
 all_goals try (rename_i heq1 heq2;cases heq2;done)
 rename_i t heq1 heq2
 simp only at heq1
 subst heq1
 have hn:=New.alloc w (.map #[] 0)
 refine ⟨.map (some w.heap.size),w.alloc (.map #[] 0),_,_,_,?_,Mid.newObj h hk hkl entry hid hn (.map []) ?_ ?_,fun i=>Iff.rfl⟩
 ·simp [execOp,Instr.makeMap]
 ·simp only [OR]
  exact ⟨Or.inr trivial,#[],0,by simpa using hn.new,by simp,by simp [ER],⟨by simp,by simp⟩⟩
 ·simp only [VR];exact ⟨Or.inr trivial,by simp⟩
theorem madeCells_flat (z:Array Value):∀ n:Nat,(madeCells z (n * z.size)).toList=(List.replicate n z.toList).flatten:=by
 intro n
 by_cases h0:z.size=0
 ·have hz:z.toList=[]:=by
   apply List.eq_nil_of_length_eq_zero
   simpa using h0
  rw [h0,hz]
  have:(List.replicate n ([]:List Value)).flatten=[]:=by
   induction n with
   |zero=>rfl
   |succ n ih=>rw [List.replicate_succ,List.flatten_cons,ih];rfl
  rw [this]
  simp [madeCells]
 ·induction n with
  |zero=>simp [madeCells]
  |succ n ih =>
   have e:(List.replicate (n+1) z.toList).flatten=(List.replicate n z.toList).flatten++z.toList:=by
    rw [List.replicate_succ',List.flatten_append]
    simp
   rw [e,← ih]
   apply List.ext_getElem
   ·simp [madeCells,Nat.add_mul]
   ·intro i h1 h2
    have h1' :i<(n+1) * z.size:=by simpa [madeCells] using h1
    rw [Nat.add_mul,Nat.one_mul] at h1'
    rcases Nat.lt_or_ge i (n * z.size) with h|h
    ·rw [List.getElem_append_left (by simpa [madeCells] using h)]
     simp [madeCells]
    ·rw [List.getElem_append_right (by simpa [madeCells] using h)]
     have a1:(madeCells z ((n+1) * z.size)).toList[i]=z[i % z.size]! :=by simp [madeCells]
     have hm:i % z.size=i - n * z.size:=by
      have e2:i=(i - n * z.size)+n * z.size:=by omega
      have e3:i % z.size=((i - n * z.size)+n * z.size) % z.size:=congrArg (· % z.size) e2
      rw [e3,Nat.add_mul_mod_self_right,Nat.mod_eq_of_lt (by omega)]
     have hlt:i - n * z.size<z.size:=by omega
     have hl:(madeCells z (n * z.size)).toList.length=n * z.size:=by simp [madeCells]
     rw [a1,hm]
     simp [madeCells,hlt]
theorem VRs_flat {zero:List AVal}{zs:List Value}(h:VRs G I N w zero zs):∀ n:Nat,VRs G I N w (List.replicate n zero).flatten (List.replicate n zs).flatten
 |0=>by simp [VRs]
 |n+1=>by
  rw [List.replicate_succ,List.replicate_succ,List.flatten_cons,List.flatten_cons]
  exact VRs.append _ _ _ _ h (VRs_flat h n)
theorem makeN_sound {sz:Nat}{zero:List AVal}{x y:AVal}{n:Nat}(h:makeN sz zero x y=some n):x= .d (.int .i64 n)∧y= .d (.int .i64 n)∧n≤1000000∧0<sz∧zero.length=sz:=by
 unfold makeN at h
 split at h
 ·rename_i a b
  split at h
  ·rename_i hc
   cases h
   obtain ⟨rfl,h0,h1,h2,h3⟩:=hc
   have:((a.toNat:Nat):Int)=a:=Int.toNat_of_nonneg h0
   rw [this]
   exact ⟨rfl,rfl,by omega,h2,h3⟩
  ·cases h
 ·cases h
theorem new_makeS (h:RI X l S st a w G I N)(hρ:Opds ck G I N w a.eval (rho st.T st.L)){k:Nat}(hk:¬ S k)(hkl:k<st.L.length)(entry:Nat){nid:Option Nat}(hid:IdOK l st N nid){o:Oper}{sz:Nat}{zero:List AVal}{x y:Opd}
  (hc:chkNew P ck o (.makeS sz zero x y)=true) {n:Nat} (hn:makeN sz zero (rho st.T st.L x) (rho st.T st.L y)=some n) :
  ∃ x w' G' I' N',(execOp a.eval o).run P w= .ok (.value x) w' ∧
   Mid X l S entry st a w G I N (put (newObjA st nid (.cells (List.replicate n zero).flatten)) k (.sref (newId st nid) sz 0 n)) k x w' G' I' N' ∧(∀ i,N' i↔N i∨i=newId st nid):=by
 obtain ⟨dst,oop,ty,pos,after,guard⟩:=o
 cases oop<;>simp only [chkNew,Bool.and_eq_true] at hc<;>try (cases hc;done)
 rename_i t c1 c2
 obtain ⟨⟨⟨h1,h2⟩,ht⟩,hz⟩:=hc
 obtain ⟨e,hu,hse,hie⟩:=isSliceT_sound ht
 obtain ⟨e1,e2,hb,hsz,hzl⟩:=makeN_sound hn
 simp only [hu,Bool.and_eq_true] at hz
 obtain ⟨hz1,hz2⟩:=hz
 obtain ⟨it,z,f1,f2,f3⟩:=zeroOK_sound (G:=G) (I:=I) (N:=N) (w:=w) hz1
 rw [f1] at hz2
 simp only [Bool.and_eq_true] at hz2
 have s1:it.size=sz:=Nat.eq_of_beq_eq_true hz2.1
 have s2:it.bytes≤1000:=Nat.le_of_ble_eq_true hz2.2
 have g1:=hρ _ _ h1
 have g2:=hρ _ _ h2
 rw [e1] at g1
 rw [e2] at g2
 simp only [VR,DR] at g1 g2
 have hzs:z.cells.size=sz:=by
  have:=VRs.length _ _ f3
  simp at this
  omega
 have hb' :(it.bytes:Int) * (n:Int)≤281474976710656:=by
  have h:it.bytes * n≤1000 * 1000000:=Nat.mul_le_mul s2 hb
  have h:((it.bytes * n:Nat):Int)≤281474976710656:=by omega
  rwa [Int.natCast_mul] at h
 have hr:=run_make (P:=P) w t e it z hu f1 f2 .i64 .i64 n n (by omega) (Int.le_refl _) hb' (by omega)
 simp only [Int.toNat_natCast] at hr
 have hcs:VRs G I N w (List.replicate n zero).flatten (madeCells z.cells (n * it.size)).toList:=by
  rw [s1,← hzs,madeCells_flat]
  exact VRs_flat f3 n
 have hnw:=New.alloc w (.cells (madeCells z.cells (n * it.size)) e)
 refine ⟨.slice (some (ad w.heap.size 0)) n n,_,_,_,_,?_,Mid.newObj h hk hkl entry hid hnw (.cells (List.replicate n zero).flatten) (OR_new h.wf hnw hid.new hcs) ?_,fun i=>Iff.rfl⟩
 ·simp [execOp,g1,g2,hr,ad]
 ·simp only [VR]
  exact ⟨Or.inr trivial,n,by simp,Nat.le_refl _,madeCells z.cells (n * it.size),e,(0,0),by simpa using hnw.new,by simp [size_madeCells,s1]⟩
theorem run_buildSlice (hρ:Opds ck G I N w a.eval (rho st.T st.L)){o:Oper}{sz len:Nat}{zero:List AVal}{ps:List (Nat×Nat×Opd)}{b:Bool}
  (hc:chkNew P ck o (.bslice sz len zero ps b)=true) {cs:List AVal} (hcs:fillA zero (ps.map fun (o,s,x)=>(o,s,rho st.T st.L x))=some cs) :
  ∃ (ys:Array Value) (e:TypeId),(execOp a.eval o).run P w= .ok (.value (.slice (some (ad w.heap.size 0)) len len)) (w.alloc (.cells ys e))∧VRs G I N w cs ys.toList:=by
 obtain ⟨dst,oop,ty,pos,after,guard⟩:=o
 cases oop<;>simp only [chkNew,Bool.and_eq_true,beq_iff_eq,decide_eq_true_eq] at hc<;>try (cases hc;done)
 rename_i t n parts
 obtain ⟨⟨⟨rfl,ht⟩,hsm⟩,hz⟩:=hc
 obtain ⟨e,hu,hse,hie⟩:=isSliceT_sound ht
 have hsize:(sizeOf e).run P w= .ok sz w:=by rw [← hse];exact run_sizeOf hie
 simp only [hu] at hz
 split at hz
 ·rename_i zs hzs
  simp only [Bool.and_eq_true] at hz
  obtain ⟨hz1,hz2⟩:=hz
  have hzr:VRs G I N w zero zs:=consts_sound _ _ hz1
  obtain ⟨ys,f1,f2⟩:=fill_sound (P:=P) hρ parts.toList ps zero cs zs.toArray hz2 (by simpa using hzr) hcs
  refine ⟨ys,e,?_,f2⟩
  have hno:¬ n * sz>2 ^ 24:=by omega
  have hparts:(parts.map fun (i,x)=>(i,a.eval x)).toList=parts.toList.map fun (i,x)=>(i,a.eval x):=by simp
  by_cases h0:n * sz=0
  ·unfold zerosOf at hzs
   rw [if_pos h0] at hzs
   simp at hzs;subst hzs
   simp only [execOp,Instr.buildSlice,Sem.run_bind,run_underlying hu,Result.andThen_ok,hsize,if_neg hno,if_pos h0,Sem.run_pure,hparts]
   have e1:(Array.range (n * sz)).map (fun x=>((#[]:Array Value)[x % (#[]:Array Value).size]!))= #[]:=by rw [h0];simp
   rw [e1]
   simp only [f1]
   simp [newRow]
  ·unfold zerosOf at hzs
   rw [if_neg h0] at hzs
   split at hzs
   ·rename_i it hit
    split at hzs
    ·rename_i z hzz
     simp only [Option.some.injEq] at hzs
     have hzv:(zeroValue e).run P w= .ok z w:=by simp [zeroValue,typeInfo,hit,hzz]
     have e1:(Array.range (n * sz)).map (fun x=>z.cells[x % z.cells.size]!)=zs.toArray:=by rw [← hzs]
     simp only [execOp,Instr.buildSlice,Sem.run_bind,run_underlying hu,Result.andThen_ok,hsize,if_neg hno,if_neg h0,Sem.run_pure,hzv,hparts,e1,f1]
     simp [newRow]
    ·cases hzs
   ·cases hzs
 ·cases hz
theorem new_slice (h:RI X l S st a w G I N)(hρ:Opds ck G I N w a.eval (rho st.T st.L)){k:Nat}(hk:¬ S k)(hkl:k<st.L.length)(entry:Nat){o:Oper}{sz len:Nat}{zero:List AVal}{ps:List (Nat×Nat×Opd)}
  (hc:chkNew P ck o (.bslice sz len zero ps false)=true) {v:AVal} {rs:List Nat} (hp:pureOp (rho st.T st.L) st.H (.bslice sz len zero ps false)=some (v,rs)) :
  ∃ x w' G',(execOp a.eval o).run P w= .ok (.value x) w' ∧Mid X l S entry st a w G I N (put st k v) k x w' G' I N:=by
 simp only [pureOp] at hp
 split at hp
 ·rename_i cs hcs
  split at hp
  ·rename_i xs hxs
   split at hp
   ·rename_i hl
    simp at hp
    obtain ⟨rfl,rfl⟩:=hp
    obtain ⟨ys,e,hrun,hvs⟩:=run_buildSlice (P:=P) hρ hc hcs
    have hn:=New.alloc w (.cells ys e)
    have hlen:ys.size=len * sz:=by
     have h1:=VRs.length _ _ hvs
     have h2:=(datas_sound cs xs _ hxs hvs).1
     simp at h1;omega
    exact ⟨_,_,_,hrun,Mid.fresh h hk hkl entry hn _ (own_new h.wf hn (NoFr00 _) hxs hvs (fun i v hi=>by simpa using hi) hl.2 (Nat.le_refl _) (by omega) (by simp))⟩
   ·cases hp
  ·cases hp
 ·cases hp
theorem new_sliceObj (h:RI X l S st a w G I N)(hρ:Opds ck G I N w a.eval (rho st.T st.L)){k:Nat}(hk:¬ S k)(hkl:k<st.L.length)(entry:Nat){nid:Option Nat}(hid:IdOK l st N nid){o:Oper}{sz len:Nat}{zero:List AVal}
  {ps:List (Nat×Nat×Opd)} (hc:chkNew P ck o (.bslice sz len zero ps true)=true) {cs:List AVal} (hcs:fillA zero (ps.map fun (o,s,x)=>(o,s,rho st.T st.L x))=some cs) (hl:cs.length=len * sz) :
  ∃ x w' G' I' N',(execOp a.eval o).run P w= .ok (.value x) w' ∧
   Mid X l S entry st a w G I N (put (newObjA st nid (.cells cs)) k (.sref (newId st nid) sz 0 len)) k x w' G' I' N' ∧(∀ i,N' i↔N i∨i=newId st nid):=by
 obtain ⟨ys,e,hrun,hvs⟩:=run_buildSlice (P:=P) hρ hc hcs
 have hn:=New.alloc w (.cells ys e)
 have hlen:ys.size=len * sz:=by
  have h1:=VRs.length _ _ hvs
  simp at h1;omega
 refine ⟨_,_,_,_,_,hrun,Mid.newObj h hk hkl entry hid hn (.cells cs) (OR_new h.wf hn hid.new hvs) ?_,fun i=>Iff.rfl⟩
 simp only [VR]
 exact ⟨Or.inr trivial,len,by simp,Nat.le_refl _,ys,e,(0,0),by simpa using hn.new,by simp;omega⟩
end
end Go.Abs
namespace Go.Abs
section
variable {P:Program} {X:Cx} {l:Lim} {S:Nat→Prop} {st:RSt} {a:Act} {w w' :World} {G:Gh} {I:Inj} {N:Nat→Prop} {D:Nat→Bool}
theorem RI.opds (h:RI X l S st a w G I N)(hD:∀ j,D j=true→S j):Opds (X.ck D) G I N w a.eval (rho st.T st.L):=by
 intro x y hc
 unfold Cx.ck at hc
 split at hc
 ·rename_i t s
  have ht:X.names[s]? =some t:=by simpa using hc
  simp only [rho,Act.eval]
  exact (h.T s t ht).asD
 ·rename_i t j
  simp only [Bool.and_eq_true,beq_iff_eq,Bool.not_eq_true'] at hc
  simp only [rho,Act.eval]
  exact (h.L j (hD j hc.1.1) t hc.1.2 hc.2).asD
 ·rename_i v b
  simp only [rho,Act.eval]
  exact (constOK_sound v b hc).cst
 ·rename_i f g
  have:f=g:=by simpa using hc
  subst this
  simp only [rho,AVal.cst,AVal.asD,Act.eval,VR]
  exact ⟨#[],#[],rfl,by simp [VRs],by simp [VRs]⟩
 ·simp [rho,AVal.cst,AVal.asD,VR]
 ·cases hc
theorem xfer_H (st:RSt)(y:Opd):(xfer st y).2.H=st.H:=by
 cases y<;>simp only [xfer]
 split<;>rfl
theorem xfer_T (st:RSt)(y:Opd):(xfer st y).2.T=st.T:=by
 cases y<;>simp only [xfer]
 split<;>rfl
theorem xfer_tch (st:RSt)(y:Opd):(xfer st y).2.tch=st.tch:=by
 cases y<;>simp only [xfer]
 split<;>rfl
theorem xfer_len (st:RSt)(y:Opd):(xfer st y).2.L.length=st.L.length:=by
 cases y<;>simp only [xfer]
 split<;>simp
structure Xf (X:Cx)(l:Lim)(S:Nat→Prop)(st:RSt)(y:Opd)(a:Act)(w:World)(G:Gh)(I:Inj)(N:Nat→Prop)(pl:Place)(x:Value)(G' :Gh):Prop where
 ri:RI X l S (xfer st y).2 a w G' I N
 val:VR G' I N w pl (xfer st y).1 x
 ext:Ext G w G' w
 keeps:∀ id off,Keeps (.cell id off) G w G' w
 obj:∀ b id,G b= .obj id→G' b= .obj id
theorem RI.xfer (h:RI X l S st a w G I N)(hD:∀ j,D j=true→S j){x:Operand}{y:Opd}(hc:X.ck D x y=true){pl:Place}(hp:pl≠ .none) :
  ∃ G',Xf X l S st y a w G I N pl (a.eval x) G' :=by
 have hρ:=h.opds hD x y hc
 have simple:(Abs.xfer st y).2=st→VR G I N w .none (Abs.xfer st y).1 (a.eval x)→∃ G',Xf X l S st y a w G I N pl (a.eval x) G' :=
  fun h1 h2=>⟨G,by rw [h1];exact h,h2.place,Ext.refl _ _,fun _ _ _ _ h=>⟨h,rfl⟩,fun _ _ h=>h⟩
 cases y with
 |slot s=>exact simple rfl hρ
 |const v =>
  refine simple rfl ?_
  unfold Cx.ck at hc
  split at hc
  ·simp_all
  ·simp_all
  ·rename_i v' b heq
   cases heq
   exact constOK_sound _ _ hc
  ·rename_i f g heq
   cases heq
   simpa [rho,AVal.cst,AVal.asD,Abs.xfer] using hρ
  ·rename_i heq
   cases heq
   simp [Abs.xfer,VR]
  ·cases hc
 |loc j =>
  by_cases hown:∃ z len cells,st.L[j]? =some (.own z len cells)
  ·obtain ⟨z,len,cells,hj⟩:=hown
   unfold Cx.ck at hc
   split at hc
   ·simp_all
   ·rename_i t j' heq
    cases heq
    simp only [Bool.and_eq_true,beq_iff_eq,Bool.not_eq_true'] at hc
    have h1:=h.L j (hD j hc.1.1) t hc.1.2 hc.2
    rw [getD_of hj] at h1
    obtain ⟨G',hm,hv⟩:=own_move hp h1
    refine ⟨G',?_,?_,hm.ext,fun id off=>hm.keeps _ (by simp),hm.obj⟩
    ·simp only [Abs.xfer,hj]
     exact h.takeLoc hj hm
    ·simp only [Abs.xfer,hj,Act.eval]
     exact hv
   all_goals simp_all
  ·by_cases hnil:st.L[j]? =some .nils
   ·have e:Abs.xfer st (.loc j)=(.nils,st):=by simp only [Abs.xfer,hnil]
    refine simple (by rw [e]) ?_
    rw [e]
    unfold Cx.ck at hc
    split at hc
    ·simp_all
    ·rename_i t j' heq
     cases heq
     simp only [Bool.and_eq_true,beq_iff_eq,Bool.not_eq_true'] at hc
     have h1:=h.L j (hD j hc.1.1) t hc.1.2 hc.2
     rw [getD_of hnil] at h1
     simpa only [VR,Act.eval] using h1
    all_goals simp_all
   ·have e:Abs.xfer st (.loc j)=(rho st.T st.L (.loc j),st):=by
     simp only [Abs.xfer]
     split
     ·rename_i z len cells hj
      exact absurd ⟨z,len,cells,hj⟩ hown
     ·rename_i hj;exact absurd hj hnil
     ·rfl
    exact simple (by rw [e]) (by rw [e];exact hρ)
theorem run_storeCells_at (b o:Nat)(e:TypeId)(f:Nat×Nat):∀ (vs:List Value) (i:Nat) (cur:Array Value) (w:World),w.heap[b]? =some (.cells cur e f)→NoFr f cur.size →
  o+i+vs.length≤cur.size→ones vs→(storeCells (ad b o) vs i).run P w= .ok () (w.setRow b (spliceV cur.toList (o+i) vs).toArray)
 |[],i,cur,w,hg,hf,hl,_=>by
  simp only [storeCells,spliceV,List.append_nil,List.length_nil,Nat.add_zero,List.take_append_drop]
  show Result.ok () w=_
  congr 1
  cases w with
  |mk heap tape drawn os output =>
   simp only [World.setRow]
   congr 1
   apply Array.ext
   ·simp
   ·intro k h1 h2
    simp only [Array.getElem_modify]
    split
    ·rename_i hk;subst hk
     have:heap[b]= .cells cur e f:=by
      simp only at hg
      exact (Array.getElem?_eq_some_iff.1 hg).2
     rw [this]
    ·rfl
 |v::rest,i,cur,w,hg,hf,hl,h1=>by
  simp only [List.length_cons] at hl
  have hi:o+i<cur.size:=by omega
  have hcell:w.cell? (ad b (o+i))=some cur[o+i]:=by rw [cell_of_heap hg];simp [hi]
  have hfro:w.frozen? (ad b (o+i))=false:=by
   simp only [World.frozen?,hg]
   have:=hf (o+i) hi
   simp only [Bool.and_eq_false_iff,decide_eq_false_iff_not]
   omega
  have hst:(store ((ad b o).add i) v).run P w= .ok () (w.setRow b (cur.setIfInBounds (o+i) v)):=by
   rw [add_ad,run_store P w _ v _ (h1 v (by simp)),hcell]
   simp [hfro,setCell_eq_setRow w b (o+i) cur e f v hg]
  have ih:=run_storeCells_at b o e f rest (i+1) (cur.setIfInBounds (o+i) v) (w.setRow b (cur.setIfInBounds (o+i) v)) (setRow_heap w b cur _ e f hg) (by simpa using hf) (by simp;omega) (fun x hx=>h1 x (by simp [hx]))
  simp only [storeCells,Sem.run_bind,hst,Result.andThen_ok,ih,setRow_setRow]
  congr 3
  have hlt:o+i<cur.toList.length:=by simpa using hi
  simp only [spliceV,Array.toList_setIfInBounds]
  rw [show o+(i+1)=o+i+1 from by omega,List.take_succ_eq_append_getElem (by simpa using hlt),List.drop_set_of_lt (by omega)]
  simp only [List.take_set_of_le (Nat.le_refl _),List.getElem_set_self,List.append_assoc,List.singleton_append,List.length_cons]
  rw [show o+i+1+rest.length=o+i+(rest.length+1) from by omega]
structure Wrote (id b:Nat)(w w' :World)(G:Gh):Prop where
 lab:G b= .obj id
 os:w'.os=w.os
 tape:w'.tape=w.tape
 output:w'.output=w.output
 size:w'.heap.size=w.heap.size
 other:∀ b',b' ≠b→w'.heap[b']? =w.heap[b']?
 shape:∀ (c:Array Value) (e:TypeId) (f:Nat×Nat),w.heap[b]? =some (Obj.cells c e f)→∃ c' :Array Value,w'.heap[b]? =some (Obj.cells c' e f)∧c'.size=c.size
theorem Wrote.ext {id b:Nat}(h:Wrote id b w w' G):Ext G w G w' where
 os:=h.os
 tape:=h.tape
 output:=h.output
 size:=by rw [h.size];exact Nat.le_refl _
 imm b' o hi:=by
  have hne:b' ≠b:=by rintro rfl;simp [Imm,h.lab] at hi
  exact ⟨hi,by simp [World.cell?,h.other b' hne]⟩
 still b' hb:=by
  have hne:b' ≠b:=by rintro rfl;rw [h.lab] at hb;rcases hb with hb|⟨n,hb⟩<;>cases hb
  exact ⟨rfl,h.other b' hne⟩
 shape b' c e f hc:=by
  by_cases hne:b' =b
  ·subst hne;exact h.shape c e f hc
  ·exact ⟨c,by rw [h.other b' hne];exact hc,rfl⟩
theorem Wrote.keeps {id b:Nat}(h:Wrote id b w w' G)(q:Place):Keeps q G w G w' :=by
 intro b' n hb
 have hne:b' ≠b:=by rintro rfl;rw [h.lab] at hb;cases hb
 exact ⟨hb,h.other b' hne⟩
theorem Wrote.objs {id b:Nat}(h:Wrote id b w w' G){id' :Nat}(hne:id' ≠id):∀ b',G b' = .obj id' →G b' = .obj id' ∧w'.heap[b']? =w.heap[b']? :=by
 intro b' hb
 have:b' ≠b:=by rintro rfl;rw [h.lab] at hb;cases hb;exact hne rfl
 exact ⟨hb,h.other b' this⟩
theorem Mid.write {D1:Nat→Prop}(h:RI X l S st a w G I N){k:Nat}(hk:¬ S k)(hkl:k<st.L.length)(entry:Nat){id b:Nat}(hw:Wrote id b w w' G){o:AObj}{o0:AObj}(h0:st.H[id]? =some o0)
  (ho:OR G I N w' id o) (hmay:l.may id=true) (hbnd:o.bnd≤max o0.bnd (id+1)∨(l.base≤id∧l.strict≤id)) (hD:∀ i,D1 i↔N i) {v:AVal} {x:Value} (hv:VR G I N w' (.loc k) v x) (tch:List Touch) (htch:tch.any (Touch.objHit id)=true) :
  Mid X l S entry st a w G I N (put { st with H:=st.H.set id o,tch } k v) k x w' G I D1:=by
 have hN:∀ i,N i→D1 i:=fun i hi=>(hD i).2 hi
 refine ⟨⟨?_,?_,?_,fun b' hb' =>h.wf b' (by rw [← hw.size];exact hb'),?_⟩,?_,hw.ext,?_,?_,fun _ _ _=>rfl,hN,by simp [Abs.put],?_⟩
 ·intro s t ht
  exact VR.mono hw.ext (fun _ _=>rfl) hN _ _ _ (Or.inr (hw.keeps _)) (h.T s t ht)
 ·intro j hj d hd hn
  have:k≠j:=by rintro rfl;exact hk hj
  simp only [Abs.put]
  rw [getD_set_other _ _ _ _ _ this]
  exact VR.mono hw.ext (fun _ _=>rfl) hN _ _ _ (Or.inr (hw.keeps _)) (h.L j hj d hd hn)
 ·intro id' o' ho'
  simp only [Abs.put] at ho'
  by_cases he:id' =id
  ·subst he
   rw [List.getElem?_set_self (lt_of_getElem? h0)] at ho'
   cases ho'
   exact OR.mono (Ext.refl _ _).sub (fun _ _=>rfl) hN _ _ (fun h=>⟨h,rfl⟩) (fun _ _ _ h=>⟨h,rfl⟩) ho
  ·rw [List.getElem?_set_ne (fun e=>he e.symm)] at ho'
   exact OR.mono hw.ext (fun _ _=>rfl) hN id' o' (fun hb=>hw.objs he _ hb) (fun _=>hw.keeps _) (h.H id' o' ho')
 ·intro id' o' ho'
  simp only [Abs.put] at ho'
  by_cases he:id' =id
  ·subst he
   rw [List.getElem?_set_self (lt_of_getElem? h0)] at ho'
   cases ho'
   obtain ⟨d1,d2⟩:=h.disc id' _ h0
   rcases hbnd with hb|hb
   ·exact ⟨fun hx=>by have:=d1 hx;omega,fun hx=>by have:=d2 hx;omega⟩
   ·exact ⟨fun hx=>by omega,fun hx=>by omega⟩
  ·rw [List.getElem?_set_ne (fun e=>he e.symm)] at ho'
   exact h.disc id' o' ho'
 ·simp only [Abs.put]
  rw [getD_set_same _ _ _ _ hkl]
  exact VR.mono (Ext.refl _ _).sub (fun _ _=>rfl) hN _ _ _ (Or.inr (fun _ _ h=>⟨h,rfl⟩)) hv
 ·intro id' hm
  have hne:id' ≠id:=by rintro rfl;rw [hmay] at hm;cases hm
  exact ⟨hw.objs hne,fun off=>hw.keeps _⟩
 ·intro id' _ ht
  have hne:id' ≠id:=by rintro rfl;simp only [Abs.put] at ht;rw [htch] at ht;cases ht
  exact ⟨rfl,hw.objs hne⟩
 ·intro id' o' hb ho'
  simp only [Abs.put] at ho'
  by_cases he:id' =id
  ·subst he
   rw [List.getElem?_set_self (lt_of_getElem? h0)] at ho'
   cases ho'
   rcases hbnd with hb' |hb'
   ·by_cases hc:o.bnd≤id' +1
    ·exact Or.inl hc
    ·exact Or.inr ⟨o0,h0,by omega⟩
   ·omega
  ·rw [List.getElem?_set_ne (fun e=>he e.symm)] at ho'
   exact Or.inr ⟨o',ho',Nat.le_refl _⟩
end
end Go.Abs
namespace Go.Abs
theorem splice_get (l:List AVal)(off:Nat)(vs:List AVal)(h:off+vs.length≤l.length)(i:Nat) :
  (splice l off vs)[i]? =if i<off then l[i]? else if i<off+vs.length then vs[i - off]? else l[i]? :=by
 unfold splice
 have hl:(l.take off).length=off:=by simp;omega
 by_cases h1:i<off
 ·rw [if_pos h1,List.append_assoc,List.getElem?_append_left (by omega),List.getElem?_take_of_lt h1]
 ·rw [if_neg h1,List.append_assoc,List.getElem?_append_right (by omega),hl]
  by_cases h2:i<off+vs.length
  ·rw [if_pos h2,List.getElem?_append_left (by omega)]
  ·rw [if_neg h2,List.getElem?_append_right (by omega),List.getElem?_drop]
   congr 1;omega
theorem spliceV_get (l:List Value)(off:Nat)(vs:List Value)(h:off+vs.length≤l.length)(i:Nat) :
  (spliceV l off vs)[i]? =if i<off then l[i]? else if i<off+vs.length then vs[i - off]? else l[i]? :=by
 unfold spliceV
 have hl:(l.take off).length=off:=by simp;omega
 by_cases h1:i<off
 ·rw [if_pos h1,List.append_assoc,List.getElem?_append_left (by omega),List.getElem?_take_of_lt h1]
 ·rw [if_neg h1,List.append_assoc,List.getElem?_append_right (by omega),hl]
  by_cases h2:i<off+vs.length
  ·rw [if_pos h2,List.getElem?_append_left (by omega)]
  ·rw [if_neg h2,List.getElem?_append_right (by omega),List.getElem?_drop]
   congr 1;omega
theorem spliceV_len (l:List Value)(off:Nat)(vs:List Value)(h:off+vs.length≤l.length):(spliceV l off vs).length=l.length:=by
 simp [spliceV];omega
theorem splice_len (l:List AVal)(off:Nat)(vs:List AVal)(h:off+vs.length≤l.length):(splice l off vs).length=l.length:=by
 simp [splice];omega
theorem bndL_append:∀ (a b:List AVal),bndL (a++b)=max (bndL a) (bndL b)
 |[],b=>by simp [bndL]
 |v::vs,b=>by simp only [List.cons_append,bndL,bndL_append vs b];omega
theorem bndL_take:∀ (n:Nat) (a:List AVal),bndL (a.take n)≤bndL a
 |0,a=>by simp [bndL]
 |n+1,[]=>by simp
 |n+1,v::vs=>by have:=bndL_take n vs;simp only [List.take_succ_cons,bndL];omega
theorem bndL_drop:∀ (n:Nat) (a:List AVal),bndL (a.drop n)≤bndL a
 |0,a=>by simp
 |n+1,[]=>by simp
 |n+1,v::vs=>by have:=bndL_drop n vs;simp only [List.drop_succ_cons,bndL];omega
theorem bndL_splice (l:List AVal)(off:Nat)(vs:List AVal):bndL (splice l off vs)≤max (bndL l) (bndL vs):=by
 unfold splice
 rw [bndL_append,bndL_append]
 have:=bndL_take off l
 have:=bndL_drop (off+vs.length) l
 omega
section
variable {P:Program} {X:Cx} {l:Lim} {S:Nat→Prop} {st:RSt} {a:Act} {w w' :World} {G:Gh} {I:Inj} {N:Nat→Prop} {D:Nat→Bool}
theorem cells_at {v:AVal}{cs:List AVal}(hv:v.cells? =some cs){id off:Nat}{x:Value}(h:VR G I N w (.cell id off) v x) :
  x.cells.size=cs.length∧ones x.cells.toList∧∀ (i:Nat) c,cs[i]? =some c→∃ u,x.cells.toList[i]? =some u∧VR G I N w (.cell id (off+i)) c u:=by
 unfold AVal.cells? at hv
 split at hv
 ·rename_i l'
  split at hv
  ·rename_i hall
   simp at hv;subst hv
   simp only [VR] at h
   obtain ⟨xs,rfl,h2⟩:=h
   refine ⟨by simpa [Value.cells] using VRs.length _ _ h2,ones_sound _ _ hall h2,fun i c hc=> ?_⟩
   obtain ⟨u,g1,g2⟩:=VRs.get _ _ h2 i c hc
   exact ⟨u,g1,g2.place⟩
  ·cases hv
 ·split at hv
  ·rename_i hone
   simp at hv;subst hv
   obtain ⟨h1,h2⟩:=one_sound hone h
   rw [h2]
   refine ⟨rfl,fun u hu=> ?_,fun i c hc=> ?_⟩
   ·simp at hu;subst hu;exact h1
   ·cases i with
    |zero=>simp at hc;subst hc;exact ⟨x,rfl,h⟩
    |succ i=>simp at hc
  ·cases hv
theorem Mid.pre {entry:Nat}{st1 st' :RSt}{G1 G' :Gh}{I' :Inj}{N' :Nat→Prop}{k:Nat}{x:Value}(hx:Ext G w G1 w)(hk:∀ id off,Keeps (.cell id off) G w G1 w)(ho:∀ b id,G b= .obj id→G1 b= .obj id)
  (hH:st1.H=st.H) (h:Mid X l S entry st1 a w G1 I N st' k x w' G' I' N'):Mid X l S entry st a w G I N st' k x w' G' I' N' where
 ri:=h.ri
 val:=h.val
 ext:=hx.trans h.ext
 pres:=Pres.trans (fun id _=>⟨fun b hb=>⟨ho b id hb,rfl⟩,hk id⟩) h.pres
 ko id hN ht:=by
  obtain ⟨h1,h2⟩:=h.ko id hN ht
  exact ⟨h1,fun b hb=>h2 b (ho b id hb)⟩
 inj:=h.inj
 mono:=h.mono
 len:=by rw [← hH];exact h.len
 hle id o' hb ho' :=by
  have:=h.hle id o' hb ho'
  rw [hH] at this;exact this
theorem wrote_row {id b:Nat}{c:Array Value}{e:TypeId}{f:Nat×Nat}(hb:w.heap[b]? =some (.cells c e f))(hl:G b= .obj id){c' :Array Value}(hs:c'.size=c.size):Wrote id b w (w.setRow b c') G where
 lab:=hl
 os:=rfl
 tape:=rfl
 output:=rfl
 size:=by simp
 other b' hne:=setRow_other w b b' c' hne
 shape c0 e0 f0 h0:=by
  rw [hb] at h0;cases h0
  exact ⟨c',setRow_heap w b c c' e f hb,hs⟩
theorem OR_splice {id:Nat}{l0:List AVal}{off:Nat}{cs:List AVal}{c:Array Value}{e:TypeId}{f:Nat×Nat}(hN:N id)(hb:w.heap[(I id).1]? =some (.cells c e f))(hlab:G (I id).1= .obj id)(hf:NoFr f c.size)
  (hsz:(I id).2+l0.length≤c.size) (hold:∀ (i:Nat) x,l0[i]? =some x→∃ v,c[(I id).2+i]? =some v∧VR G I N w (.cell id i) x v)
  (hfit:off+cs.length≤l0.length) {vs:List Value} (hlen:vs.length=cs.length) (hnew:∀ (i:Nat) x,cs[i]? =some x→∃ u,vs[i]? =some u∧VR G I N w (.cell id (off+i)) x u) :
  OR G I N (w.setRow (I id).1 (spliceV c.toList ((I id).2+off) vs).toArray) id (.cells (splice l0 off cs)) ∧
   Wrote id (I id).1 w (w.setRow (I id).1 (spliceV c.toList ((I id).2+off) vs).toArray) G:=by
 have hfit' :(I id).2+off+vs.length≤c.toList.length:=by simp;omega
 have hsize:(spliceV c.toList ((I id).2+off) vs).toArray.size=c.size:=by simp [spliceV_len _ _ _ hfit']
 have hw:=wrote_row (G:=G) hb hlab hsize
 refine ⟨?_,hw⟩
 simp only [OR]
 refine ⟨hN,_,e,f,setRow_heap w _ c _ e f hb,hlab,by rw [hsize];exact hf,by rw [hsize,splice_len _ _ _ hfit];exact hsz,fun i x hx=> ?_⟩
 rw [splice_get _ _ _ hfit] at hx
 have hg:(spliceV c.toList ((I id).2+off) vs).toArray[(I id).2+i]? =(spliceV c.toList ((I id).2+off) vs)[(I id).2+i]? :=by simp
 rw [hg,spliceV_get _ _ _ hfit']
 have mono:∀ {pl:Place} {x:AVal} {v:Value},VR G I N w pl x v→VR G I N (w.setRow (I id).1 (spliceV c.toList ((I id).2+off) vs).toArray) pl x v :=
  fun h=>VR.mono hw.ext (fun _ _=>rfl) (fun _ h=>h) _ _ _ (Or.inr (hw.keeps _)) h
 by_cases h1:i<off
 ·rw [if_pos h1] at hx
  rw [if_pos (by omega)]
  obtain ⟨v,g1,g2⟩:=hold i x hx
  exact ⟨v,by simpa using g1,mono g2⟩
 ·rw [if_neg h1] at hx
  rw [if_neg (by omega)]
  by_cases h2:i<off+cs.length
  ·rw [if_pos h2] at hx
   rw [if_pos (by omega)]
   obtain ⟨u,g1,g2⟩:=hnew (i - off) x hx
   refine ⟨u,?_,?_⟩
   ·rw [show (I id).2+i - ((I id).2+off)=i - off from by omega];exact g1
   ·rw [show i=off+(i - off) from by omega];exact mono g2
  ·rw [if_neg h2] at hx
   rw [if_neg (by omega)]
   obtain ⟨v,g1,g2⟩:=hold i x hx
   exact ⟨v,by simpa using g1,mono g2⟩
theorem HR.wr {H H' :Heap}(hH:HR G I N w H){id off:Nat}{cs:List AVal}(h:wr H id off cs=some H') :
  ∃ l0 c e f,H[id]? =some (.cells l0)∧H' =H.set id (.cells (splice l0 off cs))∧off+cs.length≤l0.length∧N id∧w.heap[(I id).1]? =some (.cells c e f)∧G (I id).1= .obj id∧NoFr f c.size ∧
   (I id).2+l0.length≤c.size∧∀ (i:Nat) x,l0[i]? =some x→∃ v,c[(I id).2+i]? =some v∧VR G I N w (.cell id i) x v:=by
 unfold Abs.wr at h
 split at h
 ·rename_i l0 hl
  split at h
  ·rename_i hfit
   simp at h;subst h
   have ho:=hH id _ hl
   simp only [OR] at ho
   obtain ⟨hN,c,e,f,h1,h2,h3,h4,h5⟩:=ho
   exact ⟨l0,c,e,f,hl,rfl,hfit,hN,h1,h2,h3,h4,h5⟩
  ·cases h
 ·cases h
def chkStore (P:Program)(ck:Operand→Opd→Bool)(o:Oper)(op:AOp):Bool :=
 match o.op,op with
 | .store t x y,.store n x' y' =>ck x x' &&ck y y' &&P.cellsOf t==n&&(P.info? t).isSome&&decide (0<n)
 |_,_=>false
theorem eff_store (h:RI X l S st a w G I N)(hD:∀ j,D j=true→S j){k:Nat}(hk:¬ S k)(hkl:k<st.L.length)(entry:Nat){o:Oper}{n:Nat}{x y:Opd}(hc:chkStore P (X.ck D) o (.store n x y)=true){E:Env}(hE:E.lim=l)
  {st' :RSt} (he:storeEff E k n st (rho st.T st.L x) y=some st'):∃ w' G',(execOp a.eval o).run P w= .ok .skip w' ∧Mid X l S entry st a w G I N st' k undef w' G' I N:=by
 obtain ⟨dst,oop,ty,pos,after,guard⟩:=o
 cases oop<;>simp only [chkStore,Bool.and_eq_true,beq_iff_eq,decide_eq_true_eq] at hc<;>try (cases hc;done)
 rename_i t x' y'
 obtain ⟨⟨⟨⟨hx,hy⟩,hn⟩,hi⟩,hpos⟩:=hc
 have h1:=h.opds hD _ _ hx
 unfold storeEff at he
 split at he
 ·rename_i id off hp
  rw [hp] at h1
  simp only [VR] at h1
  split at he
  ·rename_i cs hcs
   split at he
   ·rename_i hcond
    split at he
    ·rename_i H' hH'
     simp at he;subst he
     obtain ⟨G1,hX⟩:=h.xfer hD hy (pl:= .cell id off) (by simp)
     obtain ⟨c1,c2,c3⟩:=cells_at hcs hX.val
     obtain ⟨l0,c,e,f,g1,g2,g3,g4,g5,g6,g7,g8,g9⟩:=hX.ri.H.wr hH'
     obtain ⟨hO,hW⟩:=OR_splice g4 g5 g6 g7 g8 g9 g3 (vs:=(a.eval y').cells.toList) (by simpa using c1) c3
     have hrun:(storeCells (ad (I id).1 ((I id).2+off)) (a.eval y').cells.toList).run P w= .ok () (w.setRow (I id).1 (spliceV c.toList ((I id).2+off) (a.eval y').cells.toList).toArray):=by
      have:=run_storeCells_at (P:=P) (I id).1 ((I id).2+off) e f (a.eval y').cells.toList 0 c w g5 g7 (by simp;omega) c2
      simpa using this
     have hs:(sizeOf t).run P w= .ok n w:=by rw [← hn];exact run_sizeOf hi
     have hsz:¬ ((a.eval y').cells.size≠n):=by rw [c1];simp [hcond.1]
     have hbnd:(AObj.cells (splice l0 off cs)).bnd≤max (AObj.cells l0).bnd (id+1)∨(l.base≤id∧l.strict≤id):=by
      rcases hcond.2.2 with hb|hb
      ·left
       have:=bndL_splice l0 off cs
       simp only [AObj.bnd];omega
      ·right;rw [← hE];exact hb
     have hM:=Mid.write (D1:=N) hX.ri hk (by rw [xfer_len];exact hkl) entry hW g1 hO (by rw [← hE];exact hcond.2.1) hbnd (fun _=>Iff.rfl) (v:= .any) (x:=undef) (by simp [VR]) (.obj id::(xfer st y).2.tch) (by simp [Touch.objHit])
     refine ⟨w.setRow (I id).1 (spliceV c.toList ((I id).2+off) (a.eval y').cells.toList).toArray,G1,?_,?_⟩
     ·simp only [execOp,h1.2,Instr.storeAt,Instr.sureAddr,storeVar,Sem.run_bind,Sem.run_pure,Result.andThen_ok,hs,if_neg hsz,hrun]
     ·have:=Mid.pre (st:=st) hX.ext hX.keeps hX.obj (xfer_H st y) hM
      rw [g2]
      exact this
    ·cases he
   ·cases he
  ·cases he
 ·cases he
end
end Go.Abs
namespace Go.Abs
structure PV (X:Cx)(ais:List AIns)(S:Nat→Prop)(st:RSt)(a:Act)(w:World)(I:Inj):Prop where
 slot:∀ (j:Nat) ai s t d,S j→st.L[j]? ≠some (.tuple [])→ais[j]? =some ai→ai.op=AOp.mov (.slot s)→X.names[s]? =some t→(X.ops[j]?).bind (·.dst)=some d→X.names.contains d=false →
  st.tch.any (Touch.slotHit s)=false→a.tmps.getD d undef=a.tmps.getD t undef
 cell:∀ (j:Nat) ai x id off d l0,S j→st.L[j]? ≠some (.tuple [])→ais[j]? =some ai→ai.op=AOp.load none x→ptrOf st x=some (id,off)→st.H[id]? =some (.cells l0)→off<l0.length →
  st.tch.any (Touch.cellHit id off)=false→(X.ops[j]?).bind (·.dst)=some d→X.names.contains d=false→w.cell? (ad (I id).1 ((I id).2+off))=some (a.tmps.getD d undef)
structure Tk (X:Cx)(l:Lim)(S:Nat→Prop)(st st1:RSt)(a:Act)(w:World)(G:Gh)(I:Inj)(N:Nat→Prop)(k:Nat)(v:AVal)(x:Value)(G1:Gh):Prop where
 ri:RI X l S st1 a w G1 I N
 val:VR G1 I N w (.loc k) v x
 ext:Ext G w G1 w
 pres:Pres l G w G1 w
 obj:∀ b id:Nat,G b= .obj id→G1 b= .obj id
 len:st1.H.length=st.H.length
 L:st1.L.length=st.L.length
 tch:∀ p,st.tch.any p=true→st1.tch.any p=true
 hle:∀ (id:Nat) (o' :AObj),st1.H[id]? =some o' →∃ o:AObj,st.H[id]? =some o∧o'.bnd≤o.bnd
section
variable {P:Program} {X:Cx} {l:Lim} {S:Nat→Prop} {st:RSt} {a:Act} {w w' :World} {G:Gh} {I:Inj} {N:Nat→Prop} {D:Nat→Bool} {ais:List AIns}
theorem takeOwn_sound (h:RI X l S st a w G I N)(hpv:PV X ais S st a w I)(hT:st.T.length=X.names.length)(hD:∀ j,D j=true→S j){k:Nat}(hk:¬ S k){x:Operand}{y:Opd}(hc:X.ck D x y=true){sz len:Nat}
  {cells:List Data} {st1:RSt} (ht:takeOwn l ais st sz y=some (len,cells,st1)):∃ G1,Tk X l S st st1 a w G I N k (.own sz len cells) (a.eval x) G1:=by
 unfold takeOwn at ht
 split at ht
 ·rename_i z len' cells'
  split at ht
  ·rename_i hz
   subst hz
   simp at ht;obtain ⟨rfl,rfl,rfl⟩:=ht
   refine ⟨G,h,?_,Ext.refl _ _,Pres.refl _ _ _,fun _ _ h=>h,rfl,rfl,fun _ h=>h,fun _ o h=>⟨o,h,Nat.le_refl _⟩⟩
   unfold Cx.ck at hc
   split at hc
   ·simp_all
   ·simp_all
   ·rename_i v' b heq
    cases heq
    exact (constOK_sound _ _ hc).place
   all_goals simp_all
  ·cases ht
 ·cases ht
 ·cases ht
 ·rename_i j
  have hloc:∃ t,x= .tmp t∧D j=true∧(X.ops[j]?).bind (·.dst)=some t∧X.names.contains t=false:=by
   unfold Cx.ck at hc
   split at hc
   ·simp_all
   ·rename_i t j' heq
    cases heq
    simp only [Bool.and_eq_true,beq_iff_eq,Bool.not_eq_true'] at hc
    exact ⟨t,rfl,hc.1.1,hc.1.2,hc.2⟩
   all_goals simp_all
  obtain ⟨t,rfl,hDj,hdst,hnn⟩:=hloc
  have hSj:=hD j hDj
  have hjk:j≠k:=by rintro rfl;exact hk hSj
  split at ht
  ·rename_i z len' cells' hj
   split at ht
   ·rename_i hz
    subst hz
    simp at ht;obtain ⟨rfl,rfl,rfl⟩:=ht
    have h1:=h.L j hSj t hdst hnn
    rw [getD_of hj] at h1
    obtain ⟨G',hm,hv⟩:=own_move (pl' := .loc k) (by simp) h1
    exact ⟨G',h.takeLoc hj hm,hv,hm.ext,fun id _=>⟨fun b hb=>⟨hm.obj b id hb,rfl⟩,fun off=>hm.keeps _ (by simp)⟩,hm.obj,rfl,by simp,fun _ h=>h,fun _ o h=>⟨o,h,Nat.le_refl _⟩⟩
   ·cases ht
  ·rename_i len0 cells0 hj
   split at ht
   ·rename_i ai hai
    unfold takeVia at ht
    split at ht
    ·rename_i s hop
     split at ht
     ·cases ht
     ·rename_i hun
      split at ht
      ·rename_i z len' cells' hs
       split at ht
       ·rename_i hz
        subst hz
        simp at ht;obtain ⟨rfl,rfl,rfl⟩:=ht
        obtain ⟨ts,hts⟩:∃ ts,X.names[s]? =some ts:=by
         have:=lt_of_getElem? hs
         exact ⟨_,List.getElem?_eq_getElem (by omega)⟩
        have h1:=h.T s ts hts
        rw [getD_of hs] at h1
        have he:=hpv.slot j ai s ts t hSj (by rw [hj];simp) hai hop hts hdst hnn (by simpa using hun)
        obtain ⟨G',hm,hv⟩:=own_move (pl' := .loc k) (by simp) h1
        refine ⟨G',h.takeSlot hs _ hm,?_,hm.ext,fun id _=>⟨fun b hb=>⟨hm.obj b id hb,rfl⟩,fun off=>hm.keeps _ (by simp)⟩,hm.obj,rfl,rfl,fun p hp=>by simp only [List.any_cons,hp,Bool.or_true],fun _ o h=>⟨o,h,Nat.le_refl _⟩⟩
        simp only [Act.eval,he]
        exact hv
       ·cases ht
      ·cases ht
    ·rename_i x' hop
     split at ht
     ·rename_i id off hptr
      split at ht
      ·cases ht
      ·rename_i hun
       simp only [Bool.or_eq_true,Bool.not_eq_true',not_or,Bool.not_eq_true,Bool.not_eq_false] at hun
       split at ht
       ·rename_i cs hcs
        split at ht
        ·rename_i z len' cells' hco
         split at ht
         ·rename_i hz
          subst hz
          simp at ht;obtain ⟨rfl,rfl,rfl⟩:=ht
          have hO:=h.H id _ hcs
          simp only [OR] at hO
          obtain ⟨hN,c,e,f,g1,g2,g3,g4,g5⟩:=hO
          ·obtain ⟨v,e1,e2⟩:=g5 off _ hco
           have he:=hpv.cell j ai x' id off t cs hSj (by rw [hj];simp) hai hop hptr hcs (lt_of_getElem? hco) hun.1 hdst hnn
           rw [cell_of_heap g1,e1] at he
           simp at he
           obtain ⟨G',hm,hv⟩:=own_move (pl' := .loc k) (by simp) e2
           refine ⟨G',h.takeCell hcs hco _ hm,?_,hm.ext,fun id' hid' =>⟨fun b hb=>⟨hm.obj b id' hb,rfl⟩,fun off' =>hm.keeps _ ?_⟩,hm.obj,by simp,rfl,fun p hp=>by simp only [List.any_cons,hp,Bool.or_true],fun id' o' ho' => ?_⟩
           ·have e2' :a.eval (.tmp t)=v:=by simp [Act.eval,he]
            rw [e2'];exact hv
           ·rintro heq
            cases heq
            rw [hun.2] at hid';cases hid'
           ·by_cases hee:id' =id
            ·subst hee
             simp only at ho'
             rw [List.getElem?_set_self (lt_of_getElem? hcs)] at ho'
             cases ho'
             exact ⟨_,hcs,by simpa [AObj.bnd] using bndL_set_d cs off _⟩
            ·simp only at ho'
             rw [List.getElem?_set_ne (fun e=>hee e.symm)] at ho'
             exact ⟨o',ho',Nat.le_refl _⟩
         ·cases ht
        ·cases ht
       ·cases ht
     ·cases ht
    ·cases ht
   ·cases ht
  ·cases ht
def srcT (P:Program)(t:TypeId):Bool :=
 match P.underlying t with
 |some (.slice _)=>true
 |some .string=>true
 |_=>false
theorem run_append_in {t t2 e ty:TypeId}{i:TypeInfo}(hu:P.underlying t=some (.slice e))(hi:P.info? e=some i)(ht2:srcT P t2=true)
  {base:Option Addr} {sLen sCap m:Nat} {x:Value} (hl:(Builtin.lenOf x).run P w= .ok m w) {nw:Array Value}
  (hnew:(Builtin.firstCells i.size m x).run P w= .ok nw w) (hle:sLen+m≤sCap):(Builtin.append_ #[t,t2] ty #[.slice base sLen sCap,x]).run P w =
   (match base with
    |some a=>((storeCells (a.add (sLen * i.size)) nw.toList).run P w).andThen fun _ w' => .ok (.slice base (sLen+m) sCap) w'
    |none=> .ok (.slice base (sLen+m) sCap) w):=by
 unfold srcT at ht2
 split at ht2
 ·rename_i e2 h2
  cases base<;>simp [Builtin.append_,run_underlying hu,sizeOf,typeInfo,hi,run_underlying h2,hl,hnew,hle]
 ·rename_i h2
  cases base<;>simp [Builtin.append_,run_underlying hu,sizeOf,typeInfo,hi,run_underlying h2,hl,hnew,hle]
 ·cases ht2
theorem cut_appendCap (need old:Nat)(e:TypeId)(t:Nat):need≤(Question.appendCap need old e).cut t:=by
 simp [Question.cut]
theorem run_append_out {t t2 e ty:TypeId}{i:TypeInfo}{z:Value}(hu:P.underlying t=some (.slice e))(hi:P.info? e=some i)(hz:i.zero=some z)(ht2:srcT P t2=true)
  {base:Option Addr} {sLen sCap m:Nat} {x:Value} (hl:(Builtin.lenOf x).run P w= .ok m w) {nw old:Array Value}
  (hnew:(Builtin.firstCells i.size m x).run P w.drew= .ok nw w.drew) (hold:(Builtin.firstCells i.size sLen (.slice base sLen sCap)).run P w.drew= .ok old w.drew) (hgt:sCap<sLen+m)
  (h63:((sLen+m:Nat):Int)≤9223372036854775807) (hfit:Builtin.nextslicecap (sLen+m) sCap * i.bytes≤281474976710656) :
  ∃ cap,sLen+m≤cap∧(Builtin.append_ #[t,t2] ty #[.slice base sLen sCap,x]).run P w =
   .ok (.slice (some (ad w.heap.size 0)) (sLen+m) cap) (w.drew.alloc (.cells (old++nw++Builtin.zeroCells z.cells (cap - (sLen+m))) e)):=by
 refine ⟨(Question.appendCap (sLen+m) sCap e).cut (w.tape w.drawn (.appendCap (sLen+m) sCap e)),cut_appendCap _ _ _ _,?_⟩
 have hn:¬ (sLen+m≤sCap):=by omega
 have h63' :¬ (9223372036854775807<((sLen:Int)+(m:Int))):=by omega
 have h48' :¬ (281474976710656<Builtin.nextslicecap (sLen+m) sCap * i.bytes):=by omega
 unfold srcT at ht2
 split at ht2
 ·rename_i e2 h2
  simp [Builtin.append_,run_underlying hu,sizeOf,typeInfo,hi,run_underlying h2,hl,hn,h63',h48',Question.forced,hnew,hold,zeroValue,hz,newRow]
 ·rename_i h2
  simp [Builtin.append_,run_underlying hu,sizeOf,typeInfo,hi,run_underlying h2,hl,hn,h63',h48',Question.forced,hnew,hold,zeroValue,hz,newRow]
 ·cases ht2
end
end Go.Abs
namespace Go.Abs
section
variable {P:Program} {X:Cx} {l:Lim} {S:Nat→Prop} {st:RSt} {a:Act} {w w' :World} {G:Gh} {I:Inj} {N:Nat→Prop} {D:Nat→Bool} {ais:List AIns}
theorem cell_heap {w w2:World}(h:w2.heap=w.heap)(x:Addr):w2.cell? x=w.cell? x:=by simp [World.cell?,h]
theorem loadCells_zero (x:Addr)(w:World):(loadCells x 0).run P w= .ok #[] w:=by simp [loadCells,loadCellsFrom]
theorem src_sound {H:Heap}(hH:HR G I N w H){y:AVal}{x:Value}(hv:VR G I N w .none y x){sz m:Nat}(hsz:0<sz){cs:List AVal}(h:sliceCells H sz y=some (m,cs)) :
  ∃ vs:List Value,(Builtin.lenOf x).run P w= .ok m w∧(∀ w2:World,w2.heap=w.heap→(Builtin.firstCells sz m x).run P w2= .ok vs.toArray w2)∧VRs G I N w cs vs∧cs.length=m * sz:=by
 unfold sliceCells at h
 split at h
 ·rename_i len cells
  split at h
  ·rename_i hl
   simp at h;obtain ⟨rfl,rfl⟩:=h
   simp only [VR,DR] at hv
   rcases hv with ⟨rfl|⟨a0,rfl⟩,rfl,rfl⟩|⟨b,o,cap,rfl,h2,h3⟩
   ·exact ⟨[],by simp [Builtin.lenOf],fun w2 _=>by simp [Builtin.firstCells],by simp [VRs],by simp⟩
   ·exact ⟨[],by simp [Builtin.lenOf],fun w2 _=>by simp [Builtin.firstCells,loadCells_zero],by simp [VRs],by simp⟩
   ·obtain ⟨vs,g1,g2,g3⟩:=DRs.vals (I:=I) (N:=N) o cells h3
    refine ⟨vs,by simp [Builtin.lenOf],fun w2 hw2=> ?_,g3,by simpa using hl⟩
    have:=run_loadCells_list (P:=P) w2 (ad b o) vs (fun j v hj=>by rw [add_ad,cell_heap hw2];exact g2 j v hj)
    rw [g1,hl] at this
    simpa [Builtin.firstCells] using this
  ·cases h
 ·rename_i z len cells
  split at h
  ·rename_i hz
   subst hz
   simp at h;obtain ⟨rfl,rfl⟩:=h
   have h0:=hv.asD (pl' := .none)
   simp only [VR] at hv
   simp only [AVal.asD,VR,DR] at h0
   rcases h0 with ⟨rfl|⟨a0,rfl⟩,rfl,rfl⟩|⟨b,o,cap,rfl,h2,h3⟩
   ·exact ⟨[],by simp [Builtin.lenOf],fun w2 _=>by simp [Builtin.firstCells],by simp [VRs],by simp⟩
   ·exact ⟨[],by simp [Builtin.lenOf],fun w2 _=>by simp [Builtin.firstCells,loadCells_zero],by simp [VRs],by simp⟩
   ·obtain ⟨vs,g1,g2,g3⟩:=DRs.vals (I:=I) (N:=N) o cells h3
    refine ⟨vs,by simp [Builtin.lenOf],fun w2 hw2=> ?_,g3,by simpa using hv.1⟩
    have:=run_loadCells_list (P:=P) w2 (ad b o) vs (fun j v hj=>by rw [add_ad,cell_heap hw2];exact g2 j v hj)
    rw [g1,hv.1] at this
    simpa [Builtin.firstCells] using this
  ·cases h
 ·rename_i id z lo len
  split at h
  ·rename_i hz
   subst hz
   split at h
   ·rename_i us hus
    simp at h;obtain ⟨rfl,rfl⟩:=h
    simp only [VR] at hv
    obtain ⟨_,cap,rfl,_⟩:=hv
    by_cases h0:len * z=0
    ·have hlen:us=[]:=by
      unfold rd at hus
      split at hus
      ·split at hus
       ·simp [h0] at hus;exact hus
       ·cases hus
      ·cases hus
     subst hlen
     refine ⟨[],by simp [Builtin.lenOf],fun w2 _=> ?_,by simp [VRs],by simp [h0]⟩
     simp [Builtin.firstCells,h0,loadCells_zero]
    ·obtain ⟨_,xs,g1,g2,g3,g4⟩:=hH.rd hus (by omega)
     refine ⟨xs,by simp [Builtin.lenOf],fun w2 hw2=> ?_,VRs_of_pointwise _ _ (by simp [g1,g2]) fun j b v hj hv=> ?_,by simpa using g2⟩
     ·have:=run_loadCells_list (P:=P) w2 (ad (I id).1 ((I id).2+lo)) xs (fun j v hj=>by rw [add_ad,cell_heap hw2];exact g3 j v hj)
      rw [g1] at this
      simpa [Builtin.firstCells] using this
     ·simp at hj
      obtain ⟨b',hb',rfl⟩:=hj
      exact (g4 j b' v hb' hv).asD
   ·cases h
  ·cases h
 ·rename_i s
  split at h
  ·rename_i hz
   subst hz
   simp at h;obtain ⟨rfl,rfl⟩:=h
   simp only [VR,DR] at hv
   subst hv
   have hsize:(⟨s.toArray⟩:ByteArray).size=s.length:=by simp [ByteArray.size]
   refine ⟨s.map fun b=> .int .u8 b.toNat,by simp [Builtin.lenOf,hsize],fun w2 _=> ?_,VRs_of_pointwise _ _ (by simp) fun j b v hj hv=> ?_,by simp⟩
   ·simp [Builtin.firstCells]
   ·simp at hj hv
    obtain ⟨c,hc,rfl⟩:=hj
    obtain ⟨c',hc',rfl⟩:=hv
    rw [hc] at hc'
    cases hc'
    simp [VR,DR]
  ·cases h
 ·cases h
theorem grow_ext {b n n' :Nat}{pl:Place}(hl:G b= .grow n pl)(hn:n≤n'){c:Array Value}{e:TypeId}{f:Nat×Nat}(hb:w.heap[b]? =some (.cells c e f)){c' :Array Value}(hs:c'.size=c.size)
  (hc:∀ i,i<n→c'[i]? =c[i]?):Ext G w (upd G b (.grow n' pl)) (w.setRow b c') where
 os:=rfl
 tape:=rfl
 output:=rfl
 size:=by simp
 imm b' o hi:=by
  by_cases he:b' =b
  ·subst he
   have ho:o<n:=by simpa [Imm,hl] using hi
   refine ⟨by simp [Imm];omega,?_⟩
   rw [cell_of_heap (setRow_heap w b' c c' e f hb),cell_of_heap hb]
   exact hc o ho
  ·refine ⟨by unfold Imm at hi ⊢;rw [upd_other he];exact hi,?_⟩
   simp [World.cell?,setRow_other w b b' c' he]
 still b' hb' :=by
  have hne:b' ≠b:=by rintro rfl;rw [hl] at hb';rcases hb' with h|⟨m,h⟩<;>cases h
  exact ⟨upd_other hne,setRow_other w b b' c' hne⟩
 shape b' c0 e0 f0 h0:=by
  by_cases he:b' =b
  ·subst he
   rw [hb] at h0;cases h0
   exact ⟨c',setRow_heap w b' c c' e f hb,hs⟩
  ·exact ⟨c0,by rw [setRow_other w b b' c' he];exact h0,rfl⟩
theorem grow_keeps {b n n' :Nat}{pl q:Place}(hl:G b= .grow n pl)(hq:q≠pl)(c' :Array Value):Keeps q G w (upd G b (.grow n' pl)) (w.setRow b c'):=by
 intro b' m hb'
 have hne:b' ≠b:=by rintro rfl;rw [hl] at hb';cases hb';exact hq rfl
 exact ⟨by rw [upd_other hne];exact hb',setRow_other w b b' c' hne⟩
theorem grow_objs {b n n' :Nat}{pl:Place}(hl:G b= .grow n pl)(c' :Array Value)(id:Nat):∀ b',G b' = .obj id→(upd G b (.grow n' pl)) b' = .obj id∧(w.setRow b c').heap[b']? =w.heap[b']? :=by
 intro b' hb'
 have hne:b' ≠b:=by rintro rfl;rw [hl] at hb';cases hb'
 exact ⟨by rw [upd_other hne];exact hb',setRow_other w b b' c' hne⟩
theorem Mid.grow (h:RI X l S st a w G I N){k:Nat}(hk:¬ S k)(hkl:k<st.L.length)(entry:Nat){b n n' :Nat}(hl:G b= .grow n (.loc k))(hn:n≤n'){c:Array Value}{e:TypeId}{f:Nat×Nat}
  (hb:w.heap[b]? =some (.cells c e f)) {c' :Array Value} (hs:c'.size=c.size) (hc:∀ i,i<n→c'[i]? =c[i]?) {v:AVal} {x:Value} (hv:VR (upd G b (.grow n' (.loc k))) I N (w.setRow b c') (.loc k) v x) :
  Mid X l S entry st a w G I N (put st k v) k x (w.setRow b c') (upd G b (.grow n' (.loc k))) I N:=by
 have hx:=grow_ext hl hn hb hs hc
 refine ⟨⟨?_,?_,?_,?_,h.disc⟩,?_,hx,fun id _=>⟨grow_objs hl c' id,fun off=>grow_keeps hl (by simp) c'⟩,fun id _ _=>⟨rfl,grow_objs hl c' id⟩,fun _ _ _=>rfl,fun _ h=>h,Nat.le_refl _,fun _ o _ ho=>Or.inr ⟨o,ho,Nat.le_refl _⟩⟩
 ·intro s t ht
  exact VR.mono hx (fun _ _=>rfl) (fun _ h=>h) _ _ _ (Or.inr (grow_keeps hl (by simp) c')) (h.T s t ht)
 ·intro j hj d hd hn
  have:k≠j:=by rintro rfl;exact hk hj
  simp only [Abs.put]
  rw [getD_set_other _ _ _ _ _ this]
  exact VR.mono hx (fun _ _=>rfl) (fun _ h=>h) _ _ _ (Or.inr (grow_keeps hl (by simpa using fun e=>this e.symm) c')) (h.L j hj d hd hn)
 ·intro id o ho
  exact OR.mono hx (fun _ _=>rfl) (fun _ h=>h) id o (fun hb=>grow_objs hl c' id _ hb) (fun off=>grow_keeps hl (by simp) c') (h.H id o ho)
 ·intro b' hb'
  simp at hb'
  have hne:b' ≠b:=by rintro rfl;have:=h.wf b' hb';rw [hl] at this;cases this
  rw [upd_other hne];exact h.wf b' hb'
 ·simp only [Abs.put]
  rw [getD_set_same _ _ _ _ hkl]
  exact hv
theorem datas_map_d:∀ (xs:List Data),datas? (xs.map .d)=some xs
 |[]=>rfl
 |x::xs=>by simp [datas?,AVal.data?,datas_map_d xs]
theorem Mid.ofTk {entry:Nat}{st1 st' :RSt}{G1 G' :Gh}{I' :Inj}{N' :Nat→Prop}{k:Nat}{x y:Value}{v:AVal}(ht:Tk X l S st st1 a w G I N k v y G1)
  (h:Mid X l S entry st1 a w G1 I N st' k x w' G' I' N'):Mid X l S entry st a w G I N st' k x w' G' I' N' where
 ri:=h.ri
 val:=h.val
 ext:=ht.ext.trans h.ext
 pres:=Pres.trans ht.pres h.pres
 ko id hN hh:=by
  obtain ⟨h1,h2⟩:=h.ko id hN hh
  exact ⟨h1,fun b hb=>h2 b (ht.obj b id hb)⟩
 inj:=h.inj
 mono:=h.mono
 len:=by rw [← ht.len];exact h.len
 hle id o' hb ho' :=by
  rcases h.hle id o' hb ho' with h1|⟨o,h1,h2⟩
  ·exact Or.inl h1
  ·obtain ⟨o2,h3,h4⟩:=ht.hle id o h1
   exact Or.inr ⟨o2,h3,Nat.le_trans h2 h4⟩
def chkAppend (P:Program)(ck:Operand→Opd→Bool)(o:Oper)(op:AOp):Bool :=
 match o.op,op with
 | .call ⟨.builtin .append,args,argTypes⟩,.append sz bytes _ x' y' =>
  (match args.toList,argTypes.toList with
   |[x,y],[t,t2]=>ck x x' &&ck y y' &&srcT P t2&&decide (0<sz)&&(match P.underlying t with
    |some (.slice e)=>(match P.info? e with
     |some i=>i.size==sz&&i.bytes==bytes&&decide (0<bytes)&&(match i.zero with|some z=>z.cells.size==sz|none=>false)
     |none=>false)
    |_=>false)
   |_,_=>false)
 |_,_=>false
theorem chkAppend_sound {ck:Operand→Opd→Bool}{o:Oper}{sz bytes:Nat}{ob:Bool}{x' y' :Opd}(h:chkAppend P ck o (.append sz bytes ob x' y')=true) :
  ∃ x y t t2 e i z,o.op= .call ⟨.builtin .append,#[x,y],#[t,t2]⟩∧ck x x' =true∧ck y y' =true∧srcT P t2=true∧0<sz∧P.underlying t=some (.slice e)∧P.info? e=some i∧i.size=sz∧i.bytes=bytes∧i.zero=some z∧z.cells.size=sz∧0<bytes:=by
 unfold chkAppend at h
 split at h
 ·rename_i args argTypes sz' bytes' ob' x1 y1 heq1 heq2
  cases heq2
  split at h
  ·rename_i x y t t2 ha ht
   simp only [Bool.and_eq_true,decide_eq_true_eq] at h
   obtain ⟨⟨⟨⟨h1,h2⟩,h3⟩,h4⟩,h5⟩:=h
   split at h5
   ·rename_i e he
    split at h5
    ·rename_i i hi
     simp only [Bool.and_eq_true,beq_iff_eq,decide_eq_true_eq] at h5
     obtain ⟨⟨⟨h6,h7⟩,h9⟩,h8⟩:=h5
     split at h8
     ·rename_i z hz
      refine ⟨x,y,t,t2,e,i,z,?_,h1,h2,h3,h4,he,hi,h6,h7,hz,by simpa using h8,h9⟩
      rw [heq1]
      have e1:args= #[x,y]:=by apply Array.toList_inj.1;simpa using ha
      have e2:argTypes= #[t,t2]:=by apply Array.toList_inj.1;simpa using ht
      rw [e1,e2]
     ·cases h8
    ·cases h5
   ·cases h5
  ·cases h
 ·cases h
end
end Go.Abs
namespace Go.Abs
section
variable {P:Program} {X:Cx} {l:Lim} {S:Nat→Prop} {st:RSt} {a:Act} {w w' :World} {G:Gh} {I:Inj} {N:Nat→Prop} {D:Nat→Bool} {ais:List AIns}
theorem room_fits {n bytes old:Nat}(h:roomFor n bytes=true)(hlt:old<n):Builtin.nextslicecap n old * bytes≤281474976710656:=by
 have h1:(2 * n+512) * bytes≤281474976710656:=by simpa [roomFor] using h
 have h2:=nextslicecap_le hlt
 exact Nat.le_trans (Nat.mul_le_mul_right _ (by omega)) h1
theorem room_63 {n bytes:Nat}(h:roomFor n bytes=true)(hb:0<bytes):((n:Nat):Int)≤9223372036854775807:=by
 have h1:(2 * n+512) * bytes≤281474976710656:=by simpa [roomFor] using h
 have h2:(2 * n+512) * 1≤(2 * n+512) * bytes:=Nat.mul_le_mul_left _ hb
 omega
theorem app_new (hwf:WF G w){e:TypeId}{c:Array Value}(hn:New w w' (.cells c e)){xs ys:List Data}{vo vn:List Value}(ho:VRs G I N w (xs.map .d) vo)(hy:VRs G I N w (ys.map .d) vn){rest:Array Value}
  (hc:c=vo.toArray++vn.toArray++rest) {sz n cap:Nat} (hl:(xs++ys).length=n * sz) (hcap:n≤cap) (hsz:cap * sz≤c.size) {pl:Place} (hp:pl≠ .none) :
  VR (upd G w.heap.size (.grow (n * sz) pl)) I N w' pl (.own sz n (xs++ys)) (.slice (some (ad w.heap.size 0)) n cap):=by
 refine own_new hwf hn (NoFr00 _) (datas_map_d (xs++ys)) (vs:=vo++vn) (by rw [List.map_append];exact VRs.append _ _ _ _ ho hy) (fun i v hi=> ?_) hl hcap hsz hp
 rw [hc]
 have hlt:=lt_of_getElem? hi
 have:(vo.toArray++vn.toArray++rest)[i]? =(vo++vn++rest.toList)[i]? :=by
  rw [← Array.getElem?_toList];simp
 rw [this,List.getElem?_append_left hlt]
 exact hi
theorem zc_size (z:Array Value)(n:Nat):(Builtin.zeroCells z n).size=n * z.size:=by simp [Builtin.zeroCells]
theorem eff_append (h:RI X l S st a w G I N)(hpv:PV X ais S st a w I)(hT:st.T.length=X.names.length)(hD:∀ j,D j=true→S j){k:Nat}(hk:¬ S k)(hkl:k<st.L.length)(entry:Nat){o:Oper}{sz bytes:Nat}{x y:Opd}
  (hc:chkAppend P (X.ck D) o (.append sz bytes false x y)=true) {E:Env} (hE:E.lim=l) {nid:Option Nat} {st' :RSt} (he:appendOwn E ais nid k sz bytes false st x (rho st.T st.L y)=some st') :
  ∃ v w' G',(execOp a.eval o).run P w= .ok (.value v) w' ∧Mid X l S entry st a w G I N st' k v w' G' I N:=by
 obtain ⟨x0,y0,t,t2,e,i,z,hop,hcx,hcy,ht2,hsz,hu,hi,hsi,hbi,hz,hzs,hbp⟩:=chkAppend_sound hc
 unfold appendOwn at he
 rw [hE] at he
 split at he
 ·rename_i m cs hcs
  simp only [Bool.false_eq_true,if_false] at he
  split at he
  ·rename_i new hnew
   split at he
   ·rename_i len cells st1 htk
    split at he
    ·rename_i hroom
     simp at he;subst he
     obtain ⟨vn,hl,hf,hvn,hcl⟩:=src_sound (P:=P) h.H (h.opds hD _ _ hcy) hsz hcs
     obtain ⟨G1,hTk⟩:=takeOwn_sound h hpv hT hD hk hcx htk
     have hdn:=datas_sound cs new vn hnew hvn
     have hvn' :VRs G I N w (new.map .d) vn:=by
      refine VRs_of_pointwise _ _ (by rw [VRs.length _ _ hvn,List.length_map,hdn.1]) fun j b v hj hv=> ?_
      simp at hj
      obtain ⟨b',hb',rfl⟩:=hj
      obtain ⟨u,g1,g2⟩:=hdn.2 j b' hb'
      rw [hv] at g1;cases g1
      simpa [VR] using g2
     have hvn1:VRs G1 I N w (new.map .d) vn:=VRs.mono hTk.ext (fun _ _=>rfl) (fun _ h=>h) _ _ hvn'
     have hnlen:new.length=m * sz:=by rw [hdn.1,hcl]
     have hvlen:vn.length=m * sz:=by rw [VRs.length _ _ hvn,hcl]
     have hexec:(execOp a.eval o).run P w=((Builtin.append_ #[t,t2] o.type #[a.eval x0,a.eval y0]).run P w).andThen fun v w' => .ok (.value v) w' :=by
      obtain ⟨dst,oop,ty,pos,after,guard⟩:=o
      simp only at hop
      subst hop
      simp [execOp,resolve,invoke,builtin]
     have hval:=hTk.val
     simp only [VR] at hval
     obtain ⟨hcells,hval⟩:=hval
     subst hsi hbi
     have out:∀ base sCap,a.eval x0= .slice base len sCap→sCap<len+m→(∃ vo:List Value,(∀ w2:World,w2.heap=w.heap→(Builtin.firstCells i.size len (.slice base len sCap)).run P w2= .ok vo.toArray w2)∧VRs G1 I N w (cells.map .d) vo) →
       ∃ v w' G',(execOp a.eval o).run P w= .ok (.value v) w' ∧Mid X l S entry st a w G I N (put st1 k (.own i.size (len+m) (cells++new))) k v w' G' I N:=by
      rintro base sCap hx hlt ⟨vo,ho1,ho2⟩
      obtain ⟨cap,hcap,hrun⟩:=run_append_out (P:=P) (w:=w) (ty:=o.type) hu hi hz ht2 (base:=base) (sLen:=len) (sCap:=sCap) hl (hf w.drew rfl) (ho1 w.drew rfl) hlt (room_63 hroom.1 hbp) (room_fits hroom.1 hlt)
      have hnb:New w (w.drew.alloc (.cells (vo.toArray++vn.toArray++Builtin.zeroCells z.cells (cap - (len+m))) e)) (.cells (vo.toArray++vn.toArray++Builtin.zeroCells z.cells (cap - (len+m))) e):=by
       have:=New.alloc w.drew (.cells (vo.toArray++vn.toArray++Builtin.zeroCells z.cells (cap - (len+m))) e)
       exact ⟨this.os,this.tape,this.output,this.size,this.old,this.new⟩
      have hvo:vo.length=len * i.size:=by rw [VRs.length _ _ ho2,List.length_map,hcells]
      refine ⟨_,_,_,?_,Mid.ofTk hTk (Mid.fresh hTk.ri hk (by rw [hTk.L];exact hkl) entry hnb (.grow ((len+m) * i.size) (.loc k)) (app_new hTk.ri.wf hnb ho2 hvn1 rfl ?_ hcap ?_ (by simp)))⟩
      ·rw [hexec,hx,hrun];rfl
      ·rw [List.length_append,hcells,hnlen,Nat.add_mul]
      ·simp only [Array.size_append,List.size_toArray,zc_size,hzs,hvo,hvlen]
       have:cap * i.size=(len+m) * i.size+(cap - (len+m)) * i.size:=by rw [← Nat.add_mul];congr 1;omega
       rw [this,Nat.add_mul];omega
     rcases hval with ⟨hnil,hlen0⟩|⟨_,b,off,cap,c,e',f,h1,h2,h3,h4,h5,h6,h7⟩
     ·subst hlen0
      have hc0:cells=[]:=by simpa using hcells
      subst hc0
      have hbase:∃ base:Option Addr,a.eval x0= .slice base 0 0∧(base=none∨∃ b o,base=some (ad b o)):=by
       rcases hnil with h|⟨b,o,h⟩
       ·exact ⟨none,h,Or.inl rfl⟩
       ·exact ⟨_,h,Or.inr ⟨b,o,rfl⟩⟩
      obtain ⟨base,hx,hbb⟩:=hbase
      by_cases hm:m=0
      ·subst hm
       have hnn:new=[]:=by simpa using hnlen
       have hvv:vn=[]:=by simpa using hvlen
       subst hnn hvv
       have hrun:=run_append_in (P:=P) (w:=w) (ty:=o.type) hu hi ht2 (base:=base) (sLen:=0) (sCap:=0) hl (hf w rfl) (Nat.le_refl _)
       refine ⟨.slice base 0 0,w,G1,?_,Mid.ofTk hTk (Mid.same hTk.ri hk (by rw [hTk.L];exact hkl) entry ?_)⟩
       ·rw [hexec,hx,hrun]
        cases base<;>simp [storeCells]
       ·simp only [VR]
        refine ⟨by simp,Or.inl ⟨?_,by simp⟩⟩
        rcases hbb with rfl|⟨b,o',rfl⟩
        ·exact Or.inl rfl
        ·exact Or.inr ⟨b,o',rfl⟩
      ·refine out base 0 hx (by omega) ⟨[],fun w2 _=> ?_,by simp [VRs]⟩
       cases base<;>simp [Builtin.firstCells,loadCells_zero]
     ·by_cases hfit:len+m≤cap
      ·have hrun:=run_append_in (P:=P) (w:=w) (ty:=o.type) hu hi ht2 (base:=some (ad b off)) (sLen:=len) (sCap:=cap) hl (hf w rfl) hfit
       have hsize:off+len * i.size+vn.length≤c.size:=by
        rw [hvlen]
        have:(len+m) * i.size≤cap * i.size:=Nat.mul_le_mul_right _ hfit
        rw [Nat.add_mul] at this
        omega
       have hone:ones vn:=by
        intro u hu'
        obtain ⟨j,hj,rfl⟩:=List.getElem_of_mem hu'
        have hj2:j<(new.map AVal.d).length:=by rw [List.length_map,hnlen,← hvlen];exact hj
        obtain ⟨u',g1,g2⟩:=VRs.get _ _ hvn1 j _ (List.getElem?_eq_getElem hj2)
        rw [List.getElem?_eq_getElem hj] at g1
        cases g1
        exact (one_sound (by simp [AVal.one]) g2).1
       have hst:=run_storeCells_at (P:=P) b (off+len * i.size) e' f vn 0 c w h3 h5 (by omega) hone
       simp only [Nat.add_zero] at hst
       have hfit' :off+len * i.size+vn.length≤c.toList.length:=by simpa using hsize
       have hcs' :(spliceV c.toList (off+len * i.size) vn).toArray.size=c.size:=by simp [spliceV_len _ _ _ hfit']
       have hkeep:∀ j,j<off+len * i.size→(spliceV c.toList (off+len * i.size) vn).toArray[j]? =c[j]? :=by
        intro j hj
        rw [show (spliceV c.toList (off+len * i.size) vn).toArray[j]? =(spliceV c.toList (off+len * i.size) vn)[j]? from by simp,spliceV_get _ _ _ hfit',if_pos hj]
        simp
       refine ⟨.slice (some (ad b off)) (len+m) cap,w.setRow b (spliceV c.toList (off+len * i.size) vn).toArray,_,?_,
        Mid.ofTk hTk (Mid.grow hTk.ri hk (by rw [hTk.L];exact hkl) entry h6 (n' :=off+(len+m) * i.size) (by rw [Nat.add_mul];omega) h3 hcs' hkeep ?_)⟩
       ·rw [hexec,h1,hrun]
        simp only [add_ad,hst,Result.andThen_ok]
       ·have hx:=grow_ext h6 (n' :=off+(len+m) * i.size) (by rw [Nat.add_mul];omega) h3 hcs' hkeep
        simp only [VR]
        refine ⟨by rw [List.length_append,hcells,hnlen,Nat.add_mul],Or.inr ⟨by simp,b,off,cap,_,e',f,rfl,hfit,setRow_heap w b c _ e' f h3,by rw [hcs'];exact h4,by rw [hcs'];exact h5,by simp,?_⟩⟩
        refine DRs_of off _ fun j d hj=> ?_
        have hjl:=lt_of_getElem? hj
        rw [List.length_append,hcells,hnlen] at hjl
        refine ⟨by simp [Imm,Nat.add_mul];omega,?_⟩
        rw [cell_of_heap (setRow_heap w b c _ e' f h3),show (spliceV c.toList (off+len * i.size) vn).toArray[off+j]? =(spliceV c.toList (off+len * i.size) vn)[off+j]? from by simp,spliceV_get _ _ _ hfit']
        by_cases hjc:j<len * i.size
        ·rw [if_pos (by omega)]
         rw [List.getElem?_append_left (by omega)] at hj
         obtain ⟨vs,q1,q2,q3⟩:=DRs.vals (I:=I) (N:=N) off cells h7
         have hjv:j<vs.length:=by omega
         have q4:=q2 j _ (List.getElem?_eq_getElem hjv)
         rw [cell_of_heap h3] at q4
         refine ⟨vs[j],by simpa using q4,?_⟩
         obtain ⟨u,r1,r2⟩:=VRs.get _ _ q3 j (.d d) (by simp [hj])
         rw [List.getElem?_eq_getElem hjv] at r1
         cases r1
         simp only [VR] at r2
         exact DR.mono hx.imm _ _ r2
        ·rw [if_neg (by omega),if_pos (by omega)]
         rw [List.getElem?_append_right (by omega),hcells] at hj
         obtain ⟨u,r1,r2⟩:=VRs.get _ _ hvn1 (j - len * i.size) (.d d) (by simp [hj])
         refine ⟨u,by rw [show off+j - (off+len * i.size)=j - len * i.size from by omega];exact r1,?_⟩
         simp only [VR] at r2
         exact DR.mono hx.imm _ _ r2
      ·refine out (some (ad b off)) cap h1 (by omega) ?_
       obtain ⟨vs,q1,q2,q3⟩:=DRs.vals (I:=I) (N:=N) off cells h7
       refine ⟨vs,fun w2 hw2=> ?_,q3⟩
       have:=run_loadCells_list (P:=P) w2 (ad b off) vs (fun j v hj=>by rw [add_ad,cell_heap hw2];exact q2 j v hj)
       rw [q1,hcells] at this
       simpa [Builtin.firstCells] using this
    ·cases he
   ·cases he
  ·cases he
 ·cases he
end
end Go.Abs

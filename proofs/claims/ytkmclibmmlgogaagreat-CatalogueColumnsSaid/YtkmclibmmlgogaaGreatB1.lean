/- Texts A8 A9 A10 A11 A12 A13 A14 A15 (made short by a program) -/
import Derived.Test.YtkmclibmmlgogaaGreatB0
set_option linter.unusedVariables false
set_option linter.unusedSimpArgs false
open Bool renaming and_eq_true → b5, false_eq_true → b7, not_eq_true' → j9
open List renaming cons_append → G4, getElem?_append_left → p4, getElem?_append_right → p9, getElem?_eq_getElem → o7, getElem?_eq_none → q6, getElem?_set_ne → q9, getElem?_set_self → C9, length_append → C1, length_cons → y8, set_cons_succ → q7, set_cons_zero → q8
open Nat renaming le_refl → l5, lt_or_ge → p7
namespace Go.u7
def kz (G:Gh)(b:Nat)(l:Kb):Gh:=fun x=>if x=b then l else G x
def xu (I:Q9)(id:Nat)(p:Nat×Nat):Q9:=fun x=>if x=id then p else I x
@[simp] theorem xw (G:Gh) (b:Nat) (l:Kb):kz G b l b=l:=by simp [kz]
theorem M6 {G:Gh}{b:Nat}{l:Kb}{x:Nat}(h:x≠b):kz G b l x=G x:=by simp [kz,h]
@[simp] theorem cA (I:Q9) (id:Nat) (p:Nat×Nat):xu I id p id=p:=by simp [xu]
theorem eg {I:Q9}{id:Nat}{p:Nat×Nat}{x:Nat}(h:x≠id):xu I id p x=I x:=by simp [xu,h]
def iN (l:F9)(G:Gh)(w:World)(G' :Gh)(w' :World):Prop :=
 ∀ id,l.may id=false->(∀ b,G b= .obj id->G' b= .obj id/\w'.heap[b]? =w.heap[b]?)/\∀ off,ay (.cell id off) G w G' w'
theorem iN.refl (l:F9)(G:Gh)(w:World):iN l G w G w:=fun _ _=>⟨fun _ h=>⟨h,rfl⟩,fun _ _ _ h=>⟨h,rfl⟩⟩
theorem iN.trans {l:F9}{G:Gh}{w:World}{G1:Gh}{w1:World}{G2:Gh}{w2:World}(h:iN l G w G1 w1)(k:iN l G1 w1 G2 w2):iN l G w G2 w2:=by
 intro id hid;obtain ⟨h1,h2⟩:=h id hid;obtain ⟨k1,k2⟩:=k id hid;refine ⟨fun b hb=> ?_,fun off b n hb=> ?_⟩
 ·obtain ⟨a1,a2⟩:=h1 b hb
  obtain ⟨b1,b2⟩:=k1 b a1;exact ⟨b1,b2.trans a2⟩
 ·obtain ⟨a1,a2⟩:=h2 off b n hb
  obtain ⟨b1,b2⟩:=k2 off b n a1;exact ⟨b1,b2.trans a2⟩
def Ka (l:F9)(H:o6):Prop :=
 ∀ id o,H[id]? =some o->(id<l.strict->o.M3<=id+1)/\(id<l.base->o.M3<=l.base)
def Cn (_P:Program)(idle:FuncId->Bool)(d:Deferred):Prop :=
 ∃ f cap,d.target= .fn (.func f) cap/\idle f=true
structure RI (X:Cx)(l:F9)(S:Nat->Prop)(st:E1)(a:Act)(w:World)(G:Gh)(I:Q9)(N:Nat->Prop):Prop where
 T:∀ (s:Nat) t,X.names[s]? =some t->VR G I N w (.slot s) (st.T.getD s .any) (a.tmps.getD t undef)
 L:∀ (j:Nat),S j->∀ d,(X.ops[j]?).bind (·.dst)=some d->X.names.contains d=false->VR G I N w (.loc j) (st.L.getD j .any) (a.tmps.getD d undef)
 H:HR G I N w st.H
 wf:WF G w
 T9:Ka l st.H
theorem Ay {G:Gh}{b n:Nat}{pl tX :Place}(h:G b= .grow n pl)(x o:Nat):iH (kz G b (.grow n tX)) x o↔iH G x o:=by
 unfold iH kz
 by_cases hx:x=b
 ·subst hx;simp [h]
 ·simp [hx]
theorem Ext.relabel {G:Gh}{w:World}{b n:Nat}{pl tX :Place}(h:G b= .grow n pl):Ext G w (kz G b (.grow n tX)) w where
 os:=rfl
 tape:=rfl
 output:=rfl
 size:=l5 _
 jz x o hi:=⟨(Ay h x o).2 hi,rfl⟩
 still x hx:=by
  have:x≠b:=by rintro rfl;rw [h] at hx;rcases hx with hx|⟨m,hx⟩<;>cases hx
  exact ⟨M6 this,rfl⟩
 shape _ c _ _ hc:=⟨c,hc,rfl⟩
theorem ay.relabel {G:Gh}{w:World}{b n:Nat}{pl tX q:Place}(h:G b= .grow n pl)(hq:q≠pl):ay q G w (kz G b (.grow n tX)) w:=by
 intro x m hx;have:x≠b:=by rintro rfl;rw [h] at hx;cases hx;exact hq rfl
 exact ⟨by rw [M6 this];exact hx,rfl⟩
structure iM (pl:Place)(G:Gh)(w:World)(G' :Gh):Prop where
 ext:Ext G w G' w
 keeps:∀ q,q≠pl->ay q G w G' w
 obj:∀ b id,G b= .obj id->G' b= .obj id
 wf:WF G w->WF G' w
theorem iM.refl (pl:Place)(G:Gh)(w:World):iM pl G w G:=⟨Ext.refl _ _,fun _ _ _ _ h=>⟨h,rfl⟩,fun _ _ h=>h,fun h=>h⟩
theorem fX {G:Gh}{I:Q9}{N:Nat->Prop}{w:World}{pl tX :Place}(hp' :tX ≠ .none){sz len:Nat}{cells:List Data}{x:Value}(h:VR G I N w pl (.own sz len cells) x) :
  ∃ G',iM pl G w G' /\VR G' I N w tX (.own sz len cells) x:=by
 have h0:=h;simp only [VR] at h;obtain ⟨hl,h⟩:=h
 rcases h with h|⟨hp,b,o,cap,c,e,f,h1,h2,h3,h4,h5,h6,h7⟩
 ·exact ⟨G,iM.refl _ _ _,by simp only [VR];exact ⟨hl,Or.inl h⟩⟩
 ·refine ⟨kz G b (.grow (o+len * sz) tX),⟨Ext.relabel h6,fun q hq=>ay.relabel h6 hq,fun x id hx=> ?_,fun hwf x hx=> ?_⟩,?_⟩
  ·have:x≠b:=by rintro rfl;rw [h6] at hx;cases hx
   rw [M6 this];exact hx
  ·have:x≠b:=by
    rintro rfl;have:=hwf x hx;rw [h6] at this;cases this
   rw [M6 this];exact hwf x hx
  ·simp only [VR]
   exact ⟨hl,Or.inr ⟨hp',b,o,cap,c,e,f,h1,h2,h3,h4,h5,xw _ _ _,dw.mono (Ext.relabel h6).jz b o cells h7⟩⟩
theorem K6 {α:Type}(l:List α)(i:Nat)(v d:α)(h:i<l.length):(l.set i v).getD i d=v:=by
 simp [List.getD,h]
theorem F3 {α:Type}(l:List α)(i j:Nat)(v d:α)(h:i≠j):(l.set i v).getD j d=l.getD j d:=by
 simp [List.getD,q9 h]
theorem n9 {α:Type}{l:List α}{i:Nat}{v:α}(h:l[i]? =some v):i<l.length:=by
 rcases p7 i l.length with h' |h'
 ·exact h'
 ·rw [q6 h'] at h;cases h
theorem W0 {α:Type}{l:List α}{i:Nat}{v d:α}(h:l[i]? =some v):l.getD i d=v:=by simp [List.getD,h]
section
variable {X:Cx} {l:F9} {S:Nat->Prop} {st:E1} {a:Act} {w:World} {G:Gh} {I:Q9} {N:Nat->Prop}
theorem HR.Dp {H:o6}{pl:Place}(hH:HR G I N w H){G' :Gh}(hm:iM pl G w G')(Gr:∀ id off,pl≠ .cell id off):HR G' I N w H:=by
 intro id o ho;exact OR.mono hm.ext (fun _ _=>rfl) (fun _ h=>h) id o (fun h=>⟨hm.obj _ _ h,rfl⟩) (fun off=>hm.keeps _ (fun e=>Gr id off e.symm)) (hH id o ho)
theorem RI.Oi (h:RI X l S st a w G I N){s:Nat}{sz len:Nat}{cells:List Data}(hs:st.T[s]? =some (.own sz len cells))(n5:List Touch)
  {G' :Gh} (hm:iM (.slot s) G w G'):RI X l S { st with T:=st.T.set s (.d (.slice len cells)),n5 } a w G' I N where
 T s' t ht:=by
  by_cases he:s' =s
  ·subst he
   have h1:=h.T s' t ht;rw [W0 hs] at h1;rw [K6 _ _ _ _ (n9 hs)];have h2:VR G I N w (.slot s') (b6.F2 (.own sz len cells)) (a.tmps.getD t undef):=h1.F2;simp only [b6.F2,VR] at h2 ⊢;exact DR.mono hm.ext.jz _ _ h2
  ·rw [F3 _ _ _ _ _ (fun e=>he e.symm)]
   exact VR.mono hm.ext (fun _ _=>rfl) (fun _ h=>h) _ _ _ (Or.inr (hm.keeps _ (fun e=>he (by cases e;rfl)))) (h.T s' t ht)
 L j hj d hd hn:=VR.mono hm.ext (fun _ _=>rfl) (fun _ h=>h) _ _ _ (Or.inr (hm.keeps _ (fun e=>by cases e))) (h.L j hj d hd hn)
 H:=h.H.Dp hm (fun _ _ e=>by cases e)
 wf:=hm.wf h.wf
 T9:=h.T9
theorem RI.IL (h:RI X l S st a w G I N){j0:Nat}{sz len:Nat}{cells:List Data}(hs:st.L[j0]? =some (.own sz len cells))
  {G' :Gh} (hm:iM (.loc j0) G w G'):RI X l S { st with L:=st.L.set j0 (.d (.slice len cells)) } a w G' I N where
 T s' t ht:=VR.mono hm.ext (fun _ _=>rfl) (fun _ h=>h) _ _ _ (Or.inr (hm.keeps _ (fun e=>by cases e))) (h.T s' t ht)
 L j hj d hd hn:=by
  by_cases he:j=j0
  ·subst he
   have h1:=h.L j hj d hd hn;rw [W0 hs] at h1;rw [K6 _ _ _ _ (n9 hs)];have h2:VR G I N w (.loc j) (b6.F2 (.own sz len cells)) (a.tmps.getD d undef):=h1.F2;simp only [b6.F2,VR] at h2 ⊢;exact DR.mono hm.ext.jz _ _ h2
  ·rw [F3 _ _ _ _ _ (fun e=>he e.symm)]
   exact VR.mono hm.ext (fun _ _=>rfl) (fun _ h=>h) _ _ _ (Or.inr (hm.keeps _ (fun e=>he (by cases e;rfl)))) (h.L j hj d hd hn)
 H:=h.H.Dp hm (fun _ _ e=>by cases e)
 wf:=hm.wf h.wf
 T9:=h.T9
theorem jC:∀ (l:List b6) (i:Nat) (x:Data),y9 (l.set i (.d x))<=y9 l
 |[],_,_=>by simp
 |v::vs,0,x=>by simp only [q8,y9,b6.M3];omega
 |v::vs,i+1,x=>by
  have:=jC vs i x;simp only [q7,y9];omega
theorem RI.Oh (h:RI X l S st a w G I N){id off:Nat}{cs:List b6}{sz len:Nat}{cells:List Data}(hid:st.H[id]? =some (.cells cs))(hs:cs[off]? =some (.own sz len cells))(n5:List Touch)
  {G' :Gh} (hm:iM (.cell id off) G w G'):RI X l S { st with H:=st.H.set id (.cells (cs.set off (.d (.slice len cells)))),n5 } a w G' I N where
 T s' t ht:=by
  exact VR.mono hm.ext (fun _ _=>rfl) (fun _ h=>h) _ _ _ (Or.inr (hm.keeps _ (fun e=>by cases e))) (h.T s' t ht)
 L j hj d hd hn:=by
  exact VR.mono hm.ext (fun _ _=>rfl) (fun _ h=>h) _ _ _ (Or.inr (hm.keeps _ (fun e=>by cases e))) (h.L j hj d hd hn)
 H:=by
  intro id' o ho
  by_cases he:id' =id
  ·subst he
   rw [C9 (n9 hid)] at ho;cases ho;have hO:=h.H id' _ hid;simp only [OR] at hO ⊢;obtain ⟨hN,c,e,f,h1,h2,h3,h4,h5⟩:=hO
   ·refine ⟨hN,c,e,f,h1,hm.obj _ _ h2,h3,by simpa using h4,fun i x hx=> ?_⟩
    by_cases hi:i=off
    ·subst hi
     rw [C9 (n9 hs)] at hx;cases hx;obtain ⟨v,g1,g2⟩:=h5 i _ hs;refine ⟨v,g1,?_⟩;have h2:VR G I N w (.cell id' i) (b6.F2 (.own sz len cells)) v:=g2.F2;simp only [b6.F2,VR] at h2 ⊢;exact DR.mono hm.ext.jz _ _ h2
    ·rw [q9 (fun e=>hi e.symm)] at hx
     obtain ⟨v,g1,g2⟩:=h5 i x hx;exact ⟨v,g1,VR.mono hm.ext (fun _ _=>rfl) (fun _ h=>h) _ _ _ (Or.inr (hm.keeps _ (fun e=>hi (by cases e;rfl)))) g2⟩
  ·rw [q9 (fun e=>he e.symm)] at ho
   exact OR.mono hm.ext (fun _ _=>rfl) (fun _ h=>h) id' o (fun h=>⟨hm.obj _ _ h,rfl⟩) (fun off' =>hm.keeps _ (fun e=>he (by cases e;rfl))) (h.H id' o ho)
 wf:=hm.wf h.wf
 T9:=by
  intro id' o ho
  by_cases he:id' =id
  ·subst he
   rw [C9 (n9 hid)] at ho;cases ho;obtain ⟨d1,d2⟩:=h.T9 id' _ hid;have hb:=jC cs off (.slice len cells);simp only [u5.M3] at d1 d2 ⊢;exact ⟨fun hx=>by have:=d1 hx;omega,fun hx=>by have:=d2 hx;omega⟩
  ·rw [q9 (fun e=>he e.symm)] at ho
   exact h.T9 id' o ho
end
structure iI (w w' :World)(o:Obj):Prop where
 os:w'.os=w.os
 tape:w'.tape=w.tape
 output:w'.output=w.output
 size:w'.heap.size=w.heap.size+1
 old:∀ b,b<w.heap.size->w'.heap[b]? =w.heap[b]?
 new:w'.heap[w.heap.size]? =some o
theorem iI.alloc (w:World)(o:Obj):iI w (w.alloc o) o :=
 ⟨rfl,rfl,rfl,by simp,fun b hb=>RowKit.Below.heap_alloc w o b hb,by show (w.heap.push o)[w.heap.size]? =_;simp⟩
theorem iI.drew {w w' :World}{o:Obj}(h:iI w w' o)(n:Nat):iI w { w' with drawn:=n } o:=⟨h.os,h.tape,h.output,h.size,h.old,h.new⟩
theorem gK {G:Gh}{w:World}(hwf:WF G w){b:Nat}(h:G b≠ .free):b<w.heap.size:=by
 rcases p7 b w.heap.size with h' |h'
 ·exact h'
 ·exact absurd (hwf b h') h
section
variable {G:Gh} {w w' :World} {ob:Obj}
theorem iI.cell (hn:iI w w' ob){b:Nat}(hb:b<w.heap.size)(o:Nat):w'.cell? (ad b o)=w.cell? (ad b o):=by
 simp [World.cell?,hn.old b hb]
theorem iI.ext (hn:iI w w' ob)(hwf:WF G w)(jb:Kb):Ext G w (kz G w.heap.size jb) w' where
 os:=hn.os
 tape:=hn.tape
 output:=hn.output
 size:=by rw [hn.size];omega
 jz b o hi:=by
  have hb:b<w.heap.size:=gK hwf (by intro e;simp [iH,e] at hi);have hne:b≠w.heap.size:=by omega
  refine ⟨?_,hn.cell hb o⟩;unfold iH at hi ⊢;rw [M6 hne];exact hi
 still b hb:=by
  have hlt:b<w.heap.size:=gK hwf (by rintro e;rw [e] at hb;rcases hb with hb|⟨n,hb⟩<;>cases hb);exact ⟨M6 (by omega),hn.old b hlt⟩
 shape b c e f hc:=by
  have hlt:b<w.heap.size:=by
   rcases p7 b w.heap.size with h|h
   ·exact h
   ·rw [Array.getElem?_eq_none h] at hc;cases hc
  exact ⟨c,by rw [hn.old b hlt];exact hc,rfl⟩
theorem iI.keeps (hn:iI w w' ob)(hwf:WF G w)(jb:Kb)(q:Place):ay q G w (kz G w.heap.size jb) w' :=by
 intro b n hb;have hlt:b<w.heap.size:=gK hwf (by rw [hb];simp);exact ⟨by rw [M6 (by omega)];exact hb,hn.old b hlt⟩
theorem iI.vP (hn:iI w w' ob)(hwf:WF G w)(jb:Kb)(id:Nat):∀ b,G b= .obj id->(kz G w.heap.size jb) b= .obj id/\w'.heap[b]? =w.heap[b]? :=by
 intro b hb;have hlt:b<w.heap.size:=gK hwf (by rw [hb];simp);exact ⟨by rw [M6 (by omega)];exact hb,hn.old b hlt⟩
theorem iI.wf (hn:iI w w' ob)(hwf:WF G w)(jb:Kb):WF (kz G w.heap.size jb) w' :=by
 intro b hb;rw [hn.size] at hb;rw [M6 (by omega)];exact hwf b (by omega)
theorem iI.dZ (hn:iI w w' ob)(hwf:WF G w)(jb:Kb)(l:F9):iN l G w (kz G w.heap.size jb) w' :=
 fun id _=>⟨hn.vP hwf jb id,fun off=>hn.keeps hwf jb (.cell id off)⟩
theorem iI.hr (hn:iI w w' ob)(hwf:WF G w)(jb:Kb){I I' :Q9}{N N' :Nat->Prop}{H:o6}(hI:∀ id,N id->I' id=I id)(hN:∀ id,N id->N' id)(h:HR G I N w H) :
  HR (kz G w.heap.size jb) I' N' w' H :=
 fun id o ho=>OR.mono (hn.ext hwf jb) hI hN id o (fun hb=>hn.vP hwf jb id _ hb) (fun _=>hn.keeps hwf jb _) (h id o ho)
theorem iI.vr (hn:iI w w' ob)(hwf:WF G w)(jb:Kb){I I' :Q9}{N N' :Nat->Prop}(hI:∀ id,N id->I' id=I id)(hN:∀ id,N id->N' id){pl:Place}{a:b6}{x:Value}(h:VR G I N w pl a x) :
  VR (kz G w.heap.size jb) I' N' w' pl a x :=
 VR.mono (hn.ext hwf jb) hI hN pl a x (Or.inr (hn.keeps hwf jb pl)) h
end
structure bX (X:Cx)(l:F9)(S:Nat->Prop)(entry:Nat)(st:E1)(a:Act)(w:World)(G:Gh)(I:Q9)(N:Nat->Prop)
  (st' :E1) (k:Nat) (x' :Value) (w' :World) (G' :Gh) (I' :Q9) (N' :Nat->Prop):Prop where
 ri:RI X l S st' a w' G' I' N'
 val:VR G' I' N' w' (.loc k) (st'.L.getD k .any) x'
 ext:Ext G w G' w'
 dZ:iN l G w G' w'
 ko:∀ id,N id->st'.n5.any (Touch.J1 id)=false->I' id=I id/\∀ b,G b= .obj id->G' b= .obj id/\w'.heap[b]? =w.heap[b]?
 inj:∀ id,id<entry->N id->I' id=I id
 mono:∀ id,N id->N' id
 len:st.H.length<=st'.H.length
 hle:∀ id o',id<l.base->st'.H[id]? =some o' ->o'.M3<=id+1\/∃ o,st.H[id]? =some o/\o'.M3<=o.M3
section
variable {P:Program} {X:Cx} {l:F9} {S:Nat->Prop} {st:E1} {a:Act} {w w' :World} {G:Gh} {I:Q9} {N:Nat->Prop} {ob:Obj}
theorem RI.new (h:RI X l S st a w G I N)(hn:iI w w' ob)(jb:Kb):RI X l S st a w' (kz G w.heap.size jb) I N where
 T s t ht:=hn.vr h.wf jb (fun _ _=>rfl) (fun _ h=>h) (h.T s t ht)
 L j hj d hd hN:=hn.vr h.wf jb (fun _ _=>rfl) (fun _ h=>h) (h.L j hj d hd hN)
 H:=hn.hr h.wf jb (fun _ _=>rfl) (fun _ h=>h) h.H
 wf:=hn.wf h.wf jb
 T9:=h.T9
theorem RI.put (h:RI X l S st a w G I N){k:Nat}(hk:¬ S k)(v:b6):RI X l S (put st k v) a w G I N where
 T:=h.T
 L j hj d hd hN:=by
  have:k≠j:=by rintro rfl;exact hk hj
  simp only [u7.put];rw [F3 _ _ _ _ _ this];exact h.L j hj d hd hN
 H:=h.H
 wf:=h.wf
 T9:=h.T9
theorem bX.same (h:RI X l S st a w G I N){k:Nat}(hk:¬ S k)(Z1:k<st.L.length)(entry:Nat){v:b6}{x:Value}(hv:VR G I N w (.loc k) v x) :
  bX X l S entry st a w G I N (put st k v) k x w G I N where
 ri:=h.put hk v
 val:=by simp only [u7.put];rw [K6 _ _ _ _ Z1];exact hv
 ext:=Ext.refl _ _
 dZ:=iN.refl _ _ _
 ko _ _ _:=⟨rfl,fun _ hb=>⟨hb,rfl⟩⟩
 inj _ _ _:=rfl
 mono _ h:=h
 len:=l5 _
 hle _ o _ ho:=Or.inr ⟨o,ho,l5 _⟩
theorem bX.fresh (h:RI X l S st a w G I N){k:Nat}(hk:¬ S k)(Z1:k<st.L.length)(entry:Nat)(hn:iI w w' ob)(jb:Kb){v:b6}{x:Value}
  (hv:VR (kz G w.heap.size jb) I N w' (.loc k) v x):bX X l S entry st a w G I N (put st k v) k x w' (kz G w.heap.size jb) I N where
 ri:=(h.new hn jb).put hk v
 val:=by simp only [u7.put];rw [K6 _ _ _ _ Z1];exact hv
 ext:=hn.ext h.wf jb
 dZ:=hn.dZ h.wf jb l
 ko id _ _:=⟨rfl,hn.vP h.wf jb id⟩
 inj _ _ _:=rfl
 mono _ h:=h
 len:=l5 _
 hle _ o _ ho:=Or.inr ⟨o,ho,l5 _⟩
end
section
variable {G:Gh} {I:Q9} {N:Nat->Prop} {w w' :World}
theorem gG:∀ (cs:List b6) (xs:List Data) (vs:List Value),L7 cs=some xs->F1 G I N w cs vs ->
  xs.length=cs.length/\∀ (i:Nat) x,xs[i]? =some x->∃ v,vs[i]? =some v/\DR G w x v
 |[],xs,vs,h,_=>by
  simp [L7] at h;subst h;exact ⟨rfl,by simp⟩
 |c::cs,xs,vs,h,hv=>by
  simp only [F1] at hv;obtain ⟨v,vs',rfl,h2,h3⟩:=hv;unfold L7 at h;split at h
  ·rename_i x hx
   split at h
   ·rename_i ys hys
    simp at h;subst h;obtain ⟨g1,g2⟩:=gG cs ys vs' hys h3;refine ⟨by simp [g1],fun i y hi=> ?_⟩;cases i with
    |zero =>
     simp at hi;subst hi;refine ⟨v,rfl,?_⟩;unfold b6.data? at hx;split at hx
     ·simp at hx;subst hx;simpa [VR] using h2
     ·rename_i sz len cells
      simp at hx;subst hx;have:=h2.F2 (tX := .none);simpa [b6.F2,VR] using this
     ·simp at hx;subst hx
      have:=h2.F2 (tX := .none);simpa [b6.F2,VR] using this
     ·cases hx
    |succ i=>simpa using g2 i y (by simpa using hi)
   ·cases h
  ·cases h
theorem uD {b:Nat}:∀ (o:Nat) (xs:List Data),(∀ (i:Nat) x,xs[i]? =some x->iH G b (o+i)/\∃ v,w.cell? (ad b (o+i))=some v/\DR G w x v)->dw G w b o xs
 |_,[],_=>by simp [dw]
 |o,x::xs,h=>by
  simp only [dw];obtain ⟨h1,h2⟩:=h 0 x rfl;refine ⟨by simpa using h1,by simpa using h2,uD (o+1) xs fun i y hi=> ?_⟩;have:=h (i+1) y (by simpa using hi);rw [show o+1+i=o+(i+1) from by omega];exact this
theorem Ip (hwf:WF G w){c:Array Value}{e:TypeId}{f:Nat×Nat}(hn:iI w w' (.cells c e f))(hf:FM f c.size){cs:List b6}{xs:List Data}{vs:List Value}
  (hd:L7 cs=some xs) (hv:F1 G I N w cs vs) (hc:∀ (i:Nat) v,vs[i]? =some v->c[i]? =some v) {sz len cap:Nat} (hl:xs.length=len * sz) (hcap:len<=cap) (hsz:cap * sz<=c.size) {pl:Place} (hp:pl≠ .none) :
  VR (kz G w.heap.size (.grow (len * sz) pl)) I N w' pl (.own sz len xs) (.slice (some (ad w.heap.size 0)) len cap):=by
 simp only [VR];refine ⟨hl,Or.inr ⟨hp,w.heap.size,0,cap,c,e,f,rfl,hcap,hn.new,by simpa using hsz,hf,by simp,?_⟩⟩;obtain ⟨g1,g2⟩:=gG cs xs vs hd hv;refine uD 0 xs fun i x hi=> ?_
 obtain ⟨v,e1,e2⟩:=g2 i x hi;have hlt:=n9 hi;refine ⟨by simp [iH];omega,v,?_,DR.mono (hn.ext hwf _).jz _ _ e2⟩;rw [R9 hn.new];simpa using hc i v e1
end
def Ca (P:Program)(e:TypeId)(n:Nat):Option (List Value) :=
 if n=0 then some [] else
 match P.info? e with
 |some i=>match i.zero with
  |some z=>some ((Array.range n).map (z.cells[· % z.cells.size]!)).toList
  |none=>none
 |none=>none
def cF (P:Program)(ck:Operand->r8->Bool)(o:Oper)(op:s9):Bool :=
 match o.op,op with
 | .alloc t,.alloc zero=>xD P t zero
 | .box _ x,.box y=>ck x y
 | .makeMap _ none,.makeMap=>true
 | .buildSlice t n parts,.y6 sz len zero ps _=>n==len&&kZ P t sz&&decide (len * sz<=16777216)&&(match P.underlying t with
  |some (.slice e)=>(match Ca P e (len * sz) with
   |some zs=>consts zs zero&&gN P ck (fun i=>some (i * sz,sz)) parts.toList ps
   |none=>false)
  |_=>false)
 | .convert s d x,.AO y=>ck x y&&(P.underlying s).isSome&&(match P.underlying d with|some (.slice e)=>(match P.underlying e with|some (.int .u8)=>true|_=>false)|_=>false)
 |_,_=>false
section
variable {P:Program} {X:Cx} {l:F9} {S:Nat->Prop} {st:E1} {a:Act} {w w' :World} {G:Gh} {I:Q9} {N:Nat->Prop} {ob:Obj}
structure Cm (l:F9)(st:E1)(N:Nat->Prop)(s5:Option Nat):Prop where
 new:¬ N (newId st s5)
 inside:∀ i,s5=some i->i<st.H.length
 base:l.base<=newId st s5
 strict:l.strict<=newId st s5
theorem Ds (st:E1)(s5:Option Nat)(o:u5):st.H.length<=(I4 st s5 o).H.length:=by
 cases s5<;>simp [I4]
theorem gM {st:E1}{s5:Option Nat}(hi:∀ i,s5=some i->i<st.H.length)(o:u5)(id:Nat)(o' :u5)(h:(I4 st s5 o).H[id]? =some o') :
  (id=newId st s5/\o' =o)\/(id≠newId st s5/\st.H[id]? =some o'):=by
 cases s5 with
 |none =>
  simp only [I4,newId,Option.getD_none] at h ⊢
  rcases Nat.lt_trichotomy id st.H.length with hlt|heq|hgt
  ·rw [p4 hlt] at h
   exact Or.inr ⟨by omega,h⟩
  ·subst heq
   simp at h;exact Or.inl ⟨rfl,h.symm⟩
  ·rw [q6 (by simp;omega)] at h;cases h
 |some i =>
  simp only [I4,newId,Option.getD_some] at h ⊢
  by_cases he:id=i
  ·subst he
   rw [C9 (hi id rfl)] at h;exact Or.inl ⟨rfl,by cases h;rfl⟩
  ·rw [q9 (fun e=>he e.symm)] at h
   exact Or.inr ⟨he,h⟩
theorem bX.newObj (h:RI X l S st a w G I N){k:Nat}(hk:¬ S k)(Z1:k<st.L.length)(entry:Nat){s5:Option Nat}(hid:Cm l st N s5)(hn:iI w w' ob)(o:u5)
  (ho:OR (kz G w.heap.size (.obj (newId st s5))) (xu I (newId st s5) (w.heap.size,0)) (fun i=>N i\/i=newId st s5) w' (newId st s5) o) {v:b6} {x:Value}
  (hv:VR (kz G w.heap.size (.obj (newId st s5))) (xu I (newId st s5) (w.heap.size,0)) (fun i=>N i\/i=newId st s5) w' (.loc k) v x) :
  bX X l S entry st a w G I N (put (I4 st s5 o) k v) k x w' (kz G w.heap.size (.obj (newId st s5))) (xu I (newId st s5) (w.heap.size,0)) (fun i=>N i\/i=newId st s5):=by
 have hI:∀ id,N id->xu I (newId st s5) (w.heap.size,0) id=I id:=fun id hN=>eg (by rintro rfl;exact hid.new hN)
 have hT:(I4 st s5 o).T=st.T:=by cases s5<;>rfl
 have hL:(I4 st s5 o).L=st.L:=by cases s5<;>rfl
 refine ⟨⟨?_,?_,?_,hn.wf h.wf _,?_⟩,?_,hn.ext h.wf _,hn.dZ h.wf _ l,?_,?_,fun _ h=>Or.inl h,Ds st s5 o,?_⟩
 ·intro s t ht
  simp only [u7.put,hT];exact hn.vr h.wf _ hI (fun _ h=>Or.inl h) (h.T s t ht)
 ·intro j hj d hd hN
  have:k≠j:=by rintro rfl;exact hk hj
  simp only [u7.put,hL];rw [F3 _ _ _ _ _ this];exact hn.vr h.wf _ hI (fun _ h=>Or.inl h) (h.L j hj d hd hN)
 ·intro id o' ho'
  simp only [u7.put] at ho'
  rcases gM hid.inside o id o' ho' with ⟨rfl,rfl⟩|⟨hne,hold⟩
  ·exact ho
  ·exact OR.mono (hn.ext h.wf _).sub hI (fun _ h=>Or.inl h) id o' (fun hb=>hn.vP h.wf _ id _ hb) (fun _=>hn.keeps h.wf _ _) (h.H id o' hold)
 ·intro id o' ho'
  simp only [u7.put] at ho'
  rcases gM hid.inside o id o' ho' with ⟨rfl,rfl⟩|⟨hne,hold⟩
  ·exact ⟨fun hx=>absurd hx (by have:=hid.strict;omega),fun hx=>absurd hx (by have:=hid.base;omega)⟩
  ·exact h.T9 id o' hold
 ·simp only [u7.put,hL]
  rw [K6 _ _ _ _ Z1];exact hv
 ·intro id hN _
  exact ⟨hI id hN,hn.vP h.wf _ id⟩
 ·intro id _ hN
  exact hI id hN
 ·intro id o' hb ho'
  simp only [u7.put] at ho'
  rcases gM hid.inside o id o' ho' with ⟨rfl,rfl⟩|⟨hne,hold⟩
  ·exact absurd hb (by have:=hid.base;omega)
  ·exact Or.inr ⟨o',hold,l5 _⟩
theorem qV (n:Nat):FM (0,0) n:=by intro o _ h;simp at h
theorem FN (hwf:WF G w){c:Array Value}{e:TypeId}(hn:iI w w' (.cells c e)){id:Nat}(hid:¬ N id){cs:List b6}(hv:F1 G I N w cs c.toList) :
  OR (kz G w.heap.size (.obj id)) (xu I id (w.heap.size,0)) (fun i=>N i\/i=id) w' id (.cells cs):=by
 simp only [OR];refine ⟨Or.inr trivial,c,e,(0,0),by simpa using hn.new,by simp,qV _,?_,fun i x hx=> ?_⟩
 ·have:=F1.length _ _ hv
  simp at this;simp [this]
 ·obtain ⟨v,g1,g2⟩:=F1.get cs _ hv i x hx
  refine ⟨v,by simpa using g1,?_⟩;exact (hn.vr hwf _ (fun j hj=>eg (by rintro rfl;exact hid hj)) (fun _ h=>Or.inl h) g2).place
variable {ck:Operand->r8->Bool}
theorem KJ (h:RI X l S st a w G I N){k:Nat}(hk:¬ S k)(Z1:k<st.L.length)(entry:Nat){s5:Option Nat}(hid:Cm l st N s5){o:Oper}{zero:List b6}
  (hc:cF P ck o (.alloc zero)=true):∃ x w' G' I' N',(execOp a.eval o).run P w= .ok (.value x) w' /\
   bX X l S entry st a w G I N (put (I4 st s5 (.cells zero)) k (.ptr (newId st s5) 0)) k x w' G' I' N' /\(∀ i,N' i↔N i\/i=newId st s5):=by
 obtain ⟨dst,bt,ty,pos,after,guard⟩:=o;cases bt<;>simp only [cF] at hc<;>try (cases hc;done)
 rename_i t;obtain ⟨it,z,e1,e2,e3⟩:=kg (G:=G) (I:=I) (N:=N) (w:=w) hc;have hz:(zeroValue t).run P w= .ok z w:=by simp [zeroValue,typeInfo,e1,e2]
 refine ⟨.pointer (some (ad w.heap.size 0)),w.alloc (.cells z.cells t),_,_,_,?_,bX.newObj h hk Z1 entry hid (iI.alloc w (.cells z.cells t)) (.cells zero) (FN h.wf (iI.alloc w _) hid.new e3) ?_,fun i=>Iff.rfl⟩
 ·simp [execOp,Instr.alloc,hz,newVar,newRow]
 ·simp only [VR];exact ⟨Or.inr trivial,by simp⟩
theorem Qx (h:RI X l S st a w G I N)(hρ:aa ck G I N w a.eval (F0 st.T st.L)){k:Nat}(hk:¬ S k)(Z1:k<st.L.length)(entry:Nat){s5:Option Nat}(hid:Cm l st N s5){o:Oper}{y:r8}
  (hc:cF P ck o (.box y)=true) {cs:List b6} (hcs:(F0 st.T st.L y).cells? =some cs):∃ x w' G' I' N',(execOp a.eval o).run P w= .ok (.value x) w' /\
   bX X l S entry st a w G I N (put (I4 st s5 (.cells cs)) k (.ptr (newId st s5) 0)) k x w' G' I' N' /\(∀ i,N' i↔N i\/i=newId st s5):=by
 obtain ⟨dst,bt,ty,pos,after,guard⟩:=o;cases bt<;>simp only [cF] at hc<;>try (cases hc;done)
 rename_i t x;obtain ⟨g1,_⟩:=sF hcs (hρ _ _ hc);refine ⟨.pointer (some (ad w.heap.size 0)),w.alloc (.cells (a.eval x).cells t),_,_,_,?_,bX.newObj h hk Z1 entry hid (iI.alloc w (.cells (a.eval x).cells t)) (.cells cs) (FN h.wf (iI.alloc w _) hid.new g1) ?_,fun i=>Iff.rfl⟩
 ·simp [execOp,Instr.box,newVar,newRow]
 ·simp only [VR];exact ⟨Or.inr trivial,by simp⟩
theorem Qy (h:RI X l S st a w G I N){k:Nat}(hk:¬ S k)(Z1:k<st.L.length)(entry:Nat){s5:Option Nat}(hid:Cm l st N s5){o:Oper}
  (hc:cF P ck o .makeMap=true):∃ x w' G' I' N',(execOp a.eval o).run P w= .ok (.value x) w' /\
   bX X l S entry st a w G I N (put (I4 st s5 (.map [])) k (.map (newId st s5))) k x w' G' I' N' /\(∀ i,N' i↔N i\/i=newId st s5):=by
 obtain ⟨dst,bt,ty,pos,after,guard⟩:=o;unfold cF at hc;split at hc<;>try (cases hc;done)
 all_goals try (rename_i V7 V3;cases V3;done)
 rename_i t V7 V3;simp only at V7;subst V7;have hn:=iI.alloc w (.map #[] 0);refine ⟨.map (some w.heap.size),w.alloc (.map #[] 0),_,_,_,?_,bX.newObj h hk Z1 entry hid hn (.map []) ?_ ?_,fun i=>Iff.rfl⟩
 ·simp [execOp,Instr.makeMap]
 ·simp only [OR]
  exact ⟨Or.inr trivial,#[],0,by simpa using hn.new,by simp,by simp [ER]⟩
 ·simp only [VR];exact ⟨Or.inr trivial,by simp⟩
theorem lP (hρ:aa ck G I N w a.eval (F0 st.T st.L)){o:Oper}{sz len:Nat}{zero:List b6}{ps:List (Nat×Nat×r8)}{b:Bool}
  (hc:cF P ck o (.y6 sz len zero ps b)=true) {cs:List b6} (hcs:bg zero (ps.map fun (o,s,x)=>(o,s,F0 st.T st.L x))=some cs) :
  ∃ (ys:Array Value) (e:TypeId),(execOp a.eval o).run P w= .ok (.value (.slice (some (ad w.heap.size 0)) len len)) (w.alloc (.cells ys e))/\F1 G I N w cs ys.toList:=by
 obtain ⟨dst,bt,ty,pos,after,guard⟩:=o;cases bt<;>simp only [cF,b5,beq_iff_eq,decide_eq_true_eq] at hc<;>try (cases hc;done)
 rename_i t n parts;obtain ⟨⟨⟨rfl,ht⟩,Pz⟩,hz⟩:=hc;obtain ⟨e,hu,HT,Kz⟩:=fU ht;have hsize:(sizeOf e).run P w= .ok sz w:=by rw [<- HT];exact run_sizeOf Kz
 simp only [hu] at hz;split at hz
 ·rename_i zs hzs
  simp only [b5] at hz;obtain ⟨hz1,hz2⟩:=hz;have VN:F1 G I N w zero zs:=cI _ _ hz1;obtain ⟨ys,f1,f2⟩:=jH (P:=P) hρ parts.toList ps zero cs zs.toArray hz2 (by simpa using VN) hcs;refine ⟨ys,e,?_,f2⟩;have hno:¬ n * sz>2 ^ 24:=by omega
  have Mv:(parts.map fun (i,x)=>(i,a.eval x)).toList=parts.toList.map fun (i,x)=>(i,a.eval x):=by simp
  by_cases h0:n * sz=0
  ·unfold Ca at hzs
   rw [if_pos h0] at hzs;simp at hzs;subst hzs;simp only [execOp,Instr.buildSlice,Sem.run_bind,run_underlying hu,Result.andThen_ok,hsize,if_neg hno,if_pos h0,Sem.run_pure,Mv];have e1:(Array.range (n * sz)).map (fun x=>((#[]:Array Value)[x % (#[]:Array Value).size]!))= #[]:=by rw [h0];simp
   rw [e1];simp only [f1];simp [newRow]
  ·unfold Ca at hzs
   rw [if_neg h0] at hzs;split at hzs
   ·rename_i it hit
    split at hzs
    ·rename_i z hzz
     simp only [Option.some.injEq] at hzs;have hzv:(zeroValue e).run P w= .ok z w:=by simp [zeroValue,typeInfo,hit,hzz]
     have e1:(Array.range (n * sz)).map (fun x=>z.cells[x % z.cells.size]!)=zs.toArray:=by rw [<- hzs]
     simp only [execOp,Instr.buildSlice,Sem.run_bind,run_underlying hu,Result.andThen_ok,hsize,if_neg hno,if_neg h0,Sem.run_pure,hzv,Mv,e1,f1];simp [newRow]
    ·cases hzs
   ·cases hzs
 ·cases hz
theorem KK (h:RI X l S st a w G I N)(hρ:aa ck G I N w a.eval (F0 st.T st.L)){k:Nat}(hk:¬ S k)(Z1:k<st.L.length)(entry:Nat){o:Oper}{sz len:Nat}{zero:List b6}{ps:List (Nat×Nat×r8)}
  (hc:cF P ck o (.y6 sz len zero ps false)=true) {v:b6} {rs:List Nat} (hp:k9 (F0 st.T st.L) st.H (.y6 sz len zero ps false)=some (v,rs)) :
  ∃ x w' G',(execOp a.eval o).run P w= .ok (.value x) w' /\bX X l S entry st a w G I N (put st k v) k x w' G' I N:=by
 simp only [k9] at hp;split at hp
 ·rename_i cs hcs
  split at hp
  ·rename_i xs hxs
   split at hp
   ·rename_i hl
    simp at hp;obtain ⟨rfl,rfl⟩:=hp;obtain ⟨ys,e,hrun,hvs⟩:=lP (P:=P) hρ hc hcs;have hn:=iI.alloc w (.cells ys e);have hlen:ys.size=len * sz:=by
     have h1:=F1.length _ _ hvs;have h2:=(gG cs xs _ hxs hvs).1;simp at h1;omega
    exact ⟨_,_,_,hrun,bX.fresh h hk Z1 entry hn _ (Ip h.wf hn (qV _) hxs hvs (fun i v hi=>by simpa using hi) hl.2 (l5 _) (by omega) (by simp))⟩
   ·cases hp
  ·cases hp
 ·cases hp
theorem Bk (h:RI X l S st a w G I N)(hρ:aa ck G I N w a.eval (F0 st.T st.L)){k:Nat}(hk:¬ S k)(Z1:k<st.L.length)(entry:Nat){s5:Option Nat}(hid:Cm l st N s5){o:Oper}{sz len:Nat}{zero:List b6}
  {ps:List (Nat×Nat×r8)} (hc:cF P ck o (.y6 sz len zero ps true)=true) {cs:List b6} (hcs:bg zero (ps.map fun (o,s,x)=>(o,s,F0 st.T st.L x))=some cs) (hl:cs.length=len * sz) :
  ∃ x w' G' I' N',(execOp a.eval o).run P w= .ok (.value x) w' /\
   bX X l S entry st a w G I N (put (I4 st s5 (.cells cs)) k (.D0 (newId st s5) sz 0 len)) k x w' G' I' N' /\(∀ i,N' i↔N i\/i=newId st s5):=by
 obtain ⟨ys,e,hrun,hvs⟩:=lP (P:=P) hρ hc hcs;have hn:=iI.alloc w (.cells ys e);have hlen:ys.size=len * sz:=by
  have h1:=F1.length _ _ hvs;simp at h1;omega
 refine ⟨_,_,_,_,_,hrun,bX.newObj h hk Z1 entry hid hn (.cells cs) (FN h.wf hn hid.new hvs) ?_,fun i=>Iff.rfl⟩;simp only [VR];exact ⟨Or.inr trivial,len,by simp,l5 _,ys,e,(0,0),by simpa using hn.new,by simp;omega⟩
end
section
variable {P:Program} {X:Cx} {l:F9} {S:Nat->Prop} {st:E1} {a:Act} {w w' :World} {G:Gh} {I:Q9} {N:Nat->Prop} {D:Nat->Bool}
theorem RI.S2 (h:RI X l S st a w G I N)(hD:∀ j,D j=true->S j):aa (X.ck D) G I N w a.eval (F0 st.T st.L):=by
 intro x y hc;unfold Cx.ck at hc;split at hc
 ·rename_i t s
  have ht:X.names[s]? =some t:=by simpa using hc
  simp only [F0,Act.eval];exact (h.T s t ht).F2
 ·rename_i t j
  simp only [b5,beq_iff_eq,j9] at hc;simp only [F0,Act.eval];exact (h.L j (hD j hc.1.1) t hc.1.2 hc.2).F2
 ·rename_i v b
  simp only [F0,Act.eval];exact (aZ v b hc).Lv
 ·rename_i f g
  have:f=g:=by simpa using hc
  subst this;simp only [F0,b6.Lv,b6.F2,Act.eval,VR];exact ⟨#[],#[],rfl,by simp [F1],by simp [F1]⟩
 ·simp [F0,b6.Lv,b6.F2,VR]
 ·cases hc
theorem xA (st:E1)(y:r8):(C6 st y).2.H=st.H:=by
 cases y<;>simp only [C6];split<;>rfl
theorem Ow (st:E1)(y:r8):(C6 st y).2.n5=st.n5:=by
 cases y<;>simp only [C6];split<;>rfl
theorem xB (st:E1)(y:r8):(C6 st y).2.L.length=st.L.length:=by
 cases y<;>simp only [C6];split<;>simp
structure Xf (X:Cx)(l:F9)(S:Nat->Prop)(st:E1)(y:r8)(a:Act)(w:World)(G:Gh)(I:Q9)(N:Nat->Prop)(pl:Place)(x:Value)(G' :Gh):Prop where
 ri:RI X l S (C6 st y).2 a w G' I N
 val:VR G' I N w pl (C6 st y).1 x
 ext:Ext G w G' w
 keeps:∀ id off,ay (.cell id off) G w G' w
 obj:∀ b id,G b= .obj id->G' b= .obj id
theorem RI.C6 (h:RI X l S st a w G I N)(hD:∀ j,D j=true->S j){x:Operand}{y:r8}(hc:X.ck D x y=true){pl:Place}(hp:pl≠ .none) :
  ∃ G',Xf X l S st y a w G I N pl (a.eval x) G' :=by
 have hρ:=h.S2 hD x y hc;have simple:(u7.C6 st y).2=st->VR G I N w .none (u7.C6 st y).1 (a.eval x)->∃ G',Xf X l S st y a w G I N pl (a.eval x) G' :=
  fun h1 h2=>⟨G,by rw [h1];exact h,h2.place,Ext.refl _ _,fun _ _ _ _ h=>⟨h,rfl⟩,fun _ _ h=>h⟩
 cases y with
 |slot s=>exact simple rfl hρ
 |const v =>
  refine simple rfl ?_;unfold Cx.ck at hc;split at hc
  ·simp_all
  ·simp_all
  ·rename_i v' b heq
   cases heq;exact aZ _ _ hc
  ·rename_i f g heq
   cases heq;simpa [F0,b6.Lv,b6.F2,u7.C6] using hρ
  ·rename_i heq
   cases heq;simp [u7.C6,VR]
  ·cases hc
 |loc j =>
  by_cases hown:∃ z len cells,st.L[j]? =some (.own z len cells)
  ·obtain ⟨z,len,cells,hj⟩:=hown
   unfold Cx.ck at hc;split at hc
   ·simp_all
   ·rename_i t j' heq
    cases heq;simp only [b5,beq_iff_eq,j9] at hc;have h1:=h.L j (hD j hc.1.1) t hc.1.2 hc.2;rw [W0 hj] at h1;obtain ⟨G',hm,hv⟩:=fX hp h1;refine ⟨G',?_,?_,hm.ext,fun id off=>hm.keeps _ (by simp),hm.obj⟩
    ·simp only [u7.C6,hj]
     exact h.IL hj hm
    ·simp only [u7.C6,hj,Act.eval]
     exact hv
   all_goals simp_all
  ·have e:u7.C6 st (.loc j)=(F0 st.T st.L (.loc j),st):=by
    simp only [u7.C6];split
    ·rename_i z len cells hj
     exact absurd ⟨z,len,cells,hj⟩ hown
    ·rfl
   exact simple (by rw [e]) (by rw [e];exact hρ)
theorem run_storeCells_at (b o:Nat)(e:TypeId)(f:Nat×Nat):∀ (vs:List Value) (i:Nat) (cur:Array Value) (w:World),w.heap[b]? =some (.cells cur e f)->FM f cur.size ->
  o+i+vs.length<=cur.size->GI vs->(storeCells (ad b o) vs i).run P w= .ok () (w.setRow b (K0 cur.toList (o+i) vs).toArray)
 |[],i,cur,w,hg,hf,hl,_=>by
  simp only [storeCells,K0,List.append_nil,List.length_nil,Nat.add_zero,List.take_append_drop];show Result.ok () w=_
  congr 1
  cases w with
  |mk heap tape drawn os output =>
   simp only [World.setRow]
   congr 1
   apply Array.ext
   ·simp
   ·intro k h1 h2
    simp only [Array.getElem_modify];split
    ·rename_i hk;subst hk
     have:heap[b]= .cells cur e f:=by
      simp only at hg;exact (Array.getElem?_eq_some_iff.1 hg).2
     rw [this]
    ·rfl
 |v::rest,i,cur,w,hg,hf,hl,h1=>by
  simp only [y8] at hl;have hi:o+i<cur.size:=by omega
  have hcell:w.cell? (ad b (o+i))=some cur[o+i]:=by rw [R9 hg];simp [hi]
  have am8:w.frozen? (ad b (o+i))=false:=by
   simp only [World.frozen?,hg];have:=hf (o+i) hi;simp only [Bool.and_eq_false_iff,decide_eq_false_iff_not];omega
  have hst:(store ((ad b o).add i) v).run P w= .ok () (w.setRow b (cur.setIfInBounds (o+i) v)):=by
   rw [Y8,run_store P w _ v _ (h1 v (by simp)),hcell];simp [am8,setCell_eq_setRow w b (o+i) cur e f v hg]
  have ih:=run_storeCells_at b o e f rest (i+1) (cur.setIfInBounds (o+i) v) (w.setRow b (cur.setIfInBounds (o+i) v)) (setRow_heap w b cur _ e f hg) (by simpa using hf) (by simp;omega) (fun x hx=>h1 x (by simp [hx]));simp only [storeCells,Sem.run_bind,hst,Result.andThen_ok,ih,setRow_setRow]
  congr 3
  have hlt:o+i<cur.toList.length:=by simpa using hi
  simp only [K0,Array.toList_setIfInBounds];rw [show o+(i+1)=o+i+1 from by omega,List.take_succ_eq_append_getElem (by simpa using hlt),List.drop_set_of_lt (by omega)];simp only [List.take_set_of_le (l5 _),List.getElem_set_self,List.append_assoc,List.singleton_append,y8];rw [show o+i+1+rest.length=o+i+(rest.length+1) from by omega]
structure nx (id b:Nat)(w w' :World)(G:Gh):Prop where
 jb:G b= .obj id
 os:w'.os=w.os
 tape:w'.tape=w.tape
 output:w'.output=w.output
 size:w'.heap.size=w.heap.size
 other:∀ b',b' ≠b->w'.heap[b']? =w.heap[b']?
 shape:∀ (c:Array Value) (e:TypeId) (f:Nat×Nat),w.heap[b]? =some (Obj.cells c e f)->∃ c' :Array Value,w'.heap[b]? =some (Obj.cells c' e f)/\c'.size=c.size
theorem nx.ext {id b:Nat}(h:nx id b w w' G):Ext G w G w' where
 os:=h.os
 tape:=h.tape
 output:=h.output
 size:=by rw [h.size];exact l5 _
 jz b' o hi:=by
  have hne:b' ≠b:=by rintro rfl;simp [iH,h.jb] at hi
  exact ⟨hi,by simp [World.cell?,h.other b' hne]⟩
 still b' hb:=by
  have hne:b' ≠b:=by rintro rfl;rw [h.jb] at hb;rcases hb with hb|⟨n,hb⟩<;>cases hb
  exact ⟨rfl,h.other b' hne⟩
 shape b' c e f hc:=by
  by_cases hne:b' =b
  ·subst hne;exact h.shape c e f hc
  ·exact ⟨c,by rw [h.other b' hne];exact hc,rfl⟩
theorem nx.keeps {id b:Nat}(h:nx id b w w' G)(q:Place):ay q G w G w' :=by
 intro b' n hb;have hne:b' ≠b:=by rintro rfl;rw [h.jb] at hb;cases hb
 exact ⟨hb,h.other b' hne⟩
theorem nx.vP {id b:Nat}(h:nx id b w w' G){id' :Nat}(hne:id' ≠id):∀ b',G b' = .obj id' ->G b' = .obj id' /\w'.heap[b']? =w.heap[b']? :=by
 intro b' hb;have:b' ≠b:=by rintro rfl;rw [h.jb] at hb;cases hb;exact hne rfl
 exact ⟨hb,h.other b' this⟩
theorem bX.write {D1:Nat->Prop}(h:RI X l S st a w G I N){k:Nat}(hk:¬ S k)(Z1:k<st.L.length)(entry:Nat){id b:Nat}(hw:nx id b w w' G){o:u5}{o0:u5}(h0:st.H[id]? =some o0)
  (ho:OR G I N w' id o) (hmay:l.may id=true) (kT:o.M3<=max o0.M3 (id+1)\/(l.base<=id/\l.strict<=id)) (hD:∀ i,D1 i↔N i) {v:b6} {x:Value} (hv:VR G I N w' (.loc k) v x) (n5:List Touch) (Bc:n5.any (Touch.J1 id)=true) :
  bX X l S entry st a w G I N (put { st with H:=st.H.set id o,n5 } k v) k x w' G I D1:=by
 have hN:∀ i,N i->D1 i:=fun i hi=>(hD i).2 hi
 refine ⟨⟨?_,?_,?_,fun b' hb' =>h.wf b' (by rw [<- hw.size];exact hb'),?_⟩,?_,hw.ext,?_,?_,fun _ _ _=>rfl,hN,by simp [u7.put],?_⟩
 ·intro s t ht
  exact VR.mono hw.ext (fun _ _=>rfl) hN _ _ _ (Or.inr (hw.keeps _)) (h.T s t ht)
 ·intro j hj d hd hn
  have:k≠j:=by rintro rfl;exact hk hj
  simp only [u7.put];rw [F3 _ _ _ _ _ this];exact VR.mono hw.ext (fun _ _=>rfl) hN _ _ _ (Or.inr (hw.keeps _)) (h.L j hj d hd hn)
 ·intro id' o' ho'
  simp only [u7.put] at ho'
  by_cases he:id' =id
  ·subst he
   rw [C9 (n9 h0)] at ho';cases ho';exact OR.mono (Ext.refl _ _).sub (fun _ _=>rfl) hN _ _ (fun h=>⟨h,rfl⟩) (fun _ _ _ h=>⟨h,rfl⟩) ho
  ·rw [q9 (fun e=>he e.symm)] at ho'
   exact OR.mono hw.ext (fun _ _=>rfl) hN id' o' (fun hb=>hw.vP he _ hb) (fun _=>hw.keeps _) (h.H id' o' ho')
 ·intro id' o' ho'
  simp only [u7.put] at ho'
  by_cases he:id' =id
  ·subst he
   rw [C9 (n9 h0)] at ho';cases ho';obtain ⟨d1,d2⟩:=h.T9 id' _ h0
   rcases kT with hb|hb
   ·exact ⟨fun hx=>by have:=d1 hx;omega,fun hx=>by have:=d2 hx;omega⟩
   ·exact ⟨fun hx=>by omega,fun hx=>by omega⟩
  ·rw [q9 (fun e=>he e.symm)] at ho'
   exact h.T9 id' o' ho'
 ·simp only [u7.put]
  rw [K6 _ _ _ _ Z1];exact VR.mono (Ext.refl _ _).sub (fun _ _=>rfl) hN _ _ _ (Or.inr (fun _ _ h=>⟨h,rfl⟩)) hv
 ·intro id' hm
  have hne:id' ≠id:=by rintro rfl;rw [hmay] at hm;cases hm
  exact ⟨hw.vP hne,fun off=>hw.keeps _⟩
 ·intro id' _ ht
  have hne:id' ≠id:=by rintro rfl;simp only [u7.put] at ht;rw [Bc] at ht;cases ht
  exact ⟨rfl,hw.vP hne⟩
 ·intro id' o' hb ho'
  simp only [u7.put] at ho'
  by_cases he:id' =id
  ·subst he
   rw [C9 (n9 h0)] at ho';cases ho'
   rcases kT with hb' |hb'
   ·by_cases hc:o.M3<=id' +1
    ·exact Or.inl hc
    ·exact Or.inr ⟨o0,h0,by omega⟩
   ·omega
  ·rw [q9 (fun e=>he e.symm)] at ho'
   exact Or.inr ⟨o',ho',l5 _⟩
end
theorem GY (l:List b6)(off:Nat)(vs:List b6)(h:off+vs.length<=l.length)(i:Nat) :
  (splice l off vs)[i]? =if i<off then l[i]? else if i<off+vs.length then vs[i - off]? else l[i]? :=by
 unfold splice;have hl:(l.take off).length=off:=by simp;omega
 by_cases h1:i<off
 ·rw [if_pos h1,List.append_assoc,p4 (by omega),List.getElem?_take_of_lt h1]
 ·rw [if_neg h1,List.append_assoc,p9 (by omega),hl]
  by_cases h2:i<off+vs.length
  ·rw [if_pos h2,p4 (by omega)]
  ·rw [if_neg h2,p9 (by omega),List.getElem?_drop]
   congr 1;omega
theorem gR (l:List Value)(off:Nat)(vs:List Value)(h:off+vs.length<=l.length)(i:Nat) :
  (K0 l off vs)[i]? =if i<off then l[i]? else if i<off+vs.length then vs[i - off]? else l[i]? :=by
 unfold K0;have hl:(l.take off).length=off:=by simp;omega
 by_cases h1:i<off
 ·rw [if_pos h1,List.append_assoc,p4 (by omega),List.getElem?_take_of_lt h1]
 ·rw [if_neg h1,List.append_assoc,p9 (by omega),hl]
  by_cases h2:i<off+vs.length
  ·rw [if_pos h2,p4 (by omega)]
  ·rw [if_neg h2,p9 (by omega),List.getElem?_drop]
   congr 1;omega
theorem lX (l:List Value)(off:Nat)(vs:List Value)(h:off+vs.length<=l.length):(K0 l off vs).length=l.length:=by
 simp [K0];omega
theorem GZ (l:List b6)(off:Nat)(vs:List b6)(h:off+vs.length<=l.length):(splice l off vs).length=l.length:=by
 simp [splice];omega
theorem bY:∀ (a b:List b6),y9 (a++b)=max (y9 a) (y9 b)
 |[],b=>by simp [y9]
 |v::vs,b=>by simp only [G4,y9,bY vs b];omega
theorem qZ:∀ (n:Nat) (a:List b6),y9 (a.take n)<=y9 a
 |0,a=>by simp [y9]
 |n+1,[]=>by simp
 |n+1,v::vs=>by have:=qZ n vs;simp only [List.take_succ_cons,y9];omega
theorem qY:∀ (n:Nat) (a:List b6),y9 (a.drop n)<=y9 a
 |0,a=>by simp
 |n+1,[]=>by simp
 |n+1,v::vs=>by have:=qY n vs;simp only [List.drop_succ_cons,y9];omega
theorem sC (l:List b6)(off:Nat)(vs:List b6):y9 (splice l off vs)<=max (y9 l) (y9 vs):=by
 unfold splice;rw [bY,bY];have:=qZ off l;have:=qY (off+vs.length) l;omega
section
variable {P:Program} {X:Cx} {l:F9} {S:Nat->Prop} {st:E1} {a:Act} {w w' :World} {G:Gh} {I:Q9} {N:Nat->Prop} {D:Nat->Bool}
theorem LR {v:b6}{cs:List b6}(hv:v.cells? =some cs){id off:Nat}{x:Value}(h:VR G I N w (.cell id off) v x) :
  x.cells.size=cs.length/\GI x.cells.toList/\∀ (i:Nat) c,cs[i]? =some c->∃ u,x.cells.toList[i]? =some u/\VR G I N w (.cell id (off+i)) c u:=by
 unfold b6.cells? at hv;split at hv
 ·rename_i l'
  split at hv
  ·rename_i hall
   simp at hv;subst hv;simp only [VR] at h;obtain ⟨xs,rfl,h2⟩:=h;refine ⟨by simpa [Value.cells] using F1.length _ _ h2,jT _ _ hall h2,fun i c hc=> ?_⟩;obtain ⟨u,g1,g2⟩:=F1.get _ _ h2 i c hc;exact ⟨u,g1,g2.place⟩
  ·cases hv
 ·split at hv
  ·rename_i hone
   simp at hv;subst hv;obtain ⟨h1,h2⟩:=jf hone h;rw [h2];refine ⟨rfl,fun u hu=> ?_,fun i c hc=> ?_⟩
   ·simp at hu;subst hu;exact h1
   ·cases i with
    |zero=>simp at hc;subst hc;exact ⟨x,rfl,h⟩
    |succ i=>simp at hc
  ·cases hv
theorem bX.pre {entry:Nat}{P3 st' :E1}{G1 G' :Gh}{I' :Q9}{N' :Nat->Prop}{k:Nat}{x:Value}(hx:Ext G w G1 w)(hk:∀ id off,ay (.cell id off) G w G1 w)(ho:∀ b id,G b= .obj id->G1 b= .obj id)
  (hH:P3.H=st.H) (h:bX X l S entry P3 a w G1 I N st' k x w' G' I' N'):bX X l S entry st a w G I N st' k x w' G' I' N' where
 ri:=h.ri
 val:=h.val
 ext:=hx.trans h.ext
 dZ:=iN.trans (fun id _=>⟨fun b hb=>⟨ho b id hb,rfl⟩,hk id⟩) h.dZ
 ko id hN ht:=by
  obtain ⟨h1,h2⟩:=h.ko id hN ht;exact ⟨h1,fun b hb=>h2 b (ho b id hb)⟩
 inj:=h.inj
 mono:=h.mono
 len:=by rw [<- hH];exact h.len
 hle id o' hb ho' :=by
  have:=h.hle id o' hb ho';rw [hH] at this;exact this
theorem zK {id b:Nat}{c:Array Value}{e:TypeId}{f:Nat×Nat}(hb:w.heap[b]? =some (.cells c e f))(hl:G b= .obj id){c' :Array Value}(hs:c'.size=c.size):nx id b w (w.setRow b c') G where
 jb:=hl
 os:=rfl
 tape:=rfl
 output:=rfl
 size:=by simp
 other b' hne:=setRow_other w b b' c' hne
 shape c0 e0 f0 h0:=by
  rw [hb] at h0;cases h0;exact ⟨c',setRow_heap w b c c' e f hb,hs⟩
theorem yB {id:Nat}{l0:List b6}{off:Nat}{cs:List b6}{c:Array Value}{e:TypeId}{f:Nat×Nat}(hN:N id)(hb:w.heap[(I id).1]? =some (.cells c e f))(Gn:G (I id).1= .obj id)(hf:FM f c.size)
  (hsz:(I id).2+l0.length<=c.size) (hold:∀ (i:Nat) x,l0[i]? =some x->∃ v,c[(I id).2+i]? =some v/\VR G I N w (.cell id i) x v)
  (hfit:off+cs.length<=l0.length) {vs:List Value} (hlen:vs.length=cs.length) (hnew:∀ (i:Nat) x,cs[i]? =some x->∃ u,vs[i]? =some u/\VR G I N w (.cell id (off+i)) x u) :
  OR G I N (w.setRow (I id).1 (K0 c.toList ((I id).2+off) vs).toArray) id (.cells (splice l0 off cs)) /\
   nx id (I id).1 w (w.setRow (I id).1 (K0 c.toList ((I id).2+off) vs).toArray) G:=by
 have pI :(I id).2+off+vs.length<=c.toList.length:=by simp;omega
 have hsize:(K0 c.toList ((I id).2+off) vs).toArray.size=c.size:=by simp [lX _ _ _ pI]
 have hw:=zK (G:=G) hb Gn hsize;refine ⟨?_,hw⟩;simp only [OR];refine ⟨hN,_,e,f,setRow_heap w _ c _ e f hb,Gn,by rw [hsize];exact hf,by rw [hsize,GZ _ _ _ hfit];exact hsz,fun i x hx=> ?_⟩;rw [GY _ _ _ hfit] at hx;have hg:(K0 c.toList ((I id).2+off) vs).toArray[(I id).2+i]? =(K0 c.toList ((I id).2+off) vs)[(I id).2+i]? :=by simp
 rw [hg,gR _ _ _ pI];have mono:∀ {pl:Place} {x:b6} {v:Value},VR G I N w pl x v->VR G I N (w.setRow (I id).1 (K0 c.toList ((I id).2+off) vs).toArray) pl x v :=
  fun h=>VR.mono hw.ext (fun _ _=>rfl) (fun _ h=>h) _ _ _ (Or.inr (hw.keeps _)) h
 by_cases h1:i<off
 ·rw [if_pos h1] at hx
  rw [if_pos (by omega)];obtain ⟨v,g1,g2⟩:=hold i x hx;exact ⟨v,by simpa using g1,mono g2⟩
 ·rw [if_neg h1] at hx
  rw [if_neg (by omega)]
  by_cases h2:i<off+cs.length
  ·rw [if_pos h2] at hx
   rw [if_pos (by omega)];obtain ⟨u,g1,g2⟩:=hnew (i - off) x hx;refine ⟨u,?_,?_⟩
   ·rw [show (I id).2+i - ((I id).2+off)=i - off from by omega];exact g1
   ·rw [show i=off+(i - off) from by omega];exact mono g2
  ·rw [if_neg h2] at hx
   rw [if_neg (by omega)];obtain ⟨v,g1,g2⟩:=hold i x hx;exact ⟨v,by simpa using g1,mono g2⟩
theorem HR.wr {H H' :o6}(hH:HR G I N w H){id off:Nat}{cs:List b6}(h:wr H id off cs=some H') :
  ∃ l0 c e f,H[id]? =some (.cells l0)/\H' =H.set id (.cells (splice l0 off cs))/\off+cs.length<=l0.length/\N id/\w.heap[(I id).1]? =some (.cells c e f)/\G (I id).1= .obj id/\FM f c.size /\
   (I id).2+l0.length<=c.size/\∀ (i:Nat) x,l0[i]? =some x->∃ v,c[(I id).2+i]? =some v/\VR G I N w (.cell id i) x v:=by
 unfold u7.wr at h;split at h
 ·rename_i l0 hl
  split at h
  ·rename_i hfit
   simp at h;subst h;have ho:=hH id _ hl;simp only [OR] at ho;obtain ⟨hN,c,e,f,h1,h2,h3,h4,h5⟩:=ho;exact ⟨l0,c,e,f,hl,rfl,hfit,hN,h1,h2,h3,h4,h5⟩
  ·cases h
 ·cases h
def uV (P:Program)(ck:Operand->r8->Bool)(o:Oper)(op:s9):Bool :=
 match o.op,op with
 | .store t x y,.store n x' y' =>ck x x' &&ck y y' &&P.cellsOf t==n&&(P.info? t).isSome&&decide (0<n)
 |_,_=>false
theorem Kn (h:RI X l S st a w G I N)(hD:∀ j,D j=true->S j){k:Nat}(hk:¬ S k)(Z1:k<st.L.length)(entry:Nat){o:Oper}{n:Nat}{x y:r8}(hc:uV P (X.ck D) o (.store n x y)=true){E:Env}(hE:E.lim=l)
  {st' :E1} (he:O8 E k n st (F0 st.T st.L x) y=some st'):∃ w' G',(execOp a.eval o).run P w= .ok .skip w' /\bX X l S entry st a w G I N st' k undef w' G' I N:=by
 obtain ⟨dst,bt,ty,pos,after,guard⟩:=o;cases bt<;>simp only [uV,b5,beq_iff_eq,decide_eq_true_eq] at hc<;>try (cases hc;done)
 rename_i t x' y';obtain ⟨⟨⟨⟨hx,hy⟩,hn⟩,hi⟩,hpos⟩:=hc;have h1:=h.S2 hD _ _ hx;unfold O8 at he;split at he
 ·rename_i id off hp
  rw [hp] at h1;simp only [VR] at h1;split at he
  ·rename_i cs hcs
   split at he
   ·rename_i ak
    split at he
    ·rename_i H' hH'
     simp at he;subst he;obtain ⟨G1,hX⟩:=h.C6 hD hy (pl:= .cell id off) (by simp);obtain ⟨c1,c2,c3⟩:=LR hcs hX.val;obtain ⟨l0,c,e,f,g1,g2,g3,g4,g5,g6,g7,g8,g9⟩:=hX.ri.H.wr hH';obtain ⟨hO,hW⟩:=yB g4 g5 g6 g7 g8 g9 g3 (vs:=(a.eval y').cells.toList) (by simpa using c1) c3;have hrun:(storeCells (ad (I id).1 ((I id).2+off)) (a.eval y').cells.toList).run P w= .ok () (w.setRow (I id).1 (K0 c.toList ((I id).2+off) (a.eval y').cells.toList).toArray):=by
      have:=run_storeCells_at (P:=P) (I id).1 ((I id).2+off) e f (a.eval y').cells.toList 0 c w g5 g7 (by simp;omega) c2;simpa using this
     have hs:(sizeOf t).run P w= .ok n w:=by rw [<- hn];exact run_sizeOf hi
     have hsz:¬ ((a.eval y').cells.size≠n):=by rw [c1];simp [ak.1]
     have kT:(u5.cells (splice l0 off cs)).M3<=max (u5.cells l0).M3 (id+1)\/(l.base<=id/\l.strict<=id):=by
      rcases ak.2.2 with hb|hb
      ·left
       have:=sC l0 off cs;simp only [u5.M3];omega
      ·right;rw [<- hE];exact hb
     have hM:=bX.write (D1:=N) hX.ri hk (by rw [xB];exact Z1) entry hW g1 hO (by rw [<- hE];exact ak.2.1) kT (fun _=>Iff.rfl) (v:= .any) (x:=undef) (by simp [VR]) (.obj id::(C6 st y).2.n5) (by simp [Touch.J1]);refine ⟨w.setRow (I id).1 (K0 c.toList ((I id).2+off) (a.eval y').cells.toList).toArray,G1,?_,?_⟩
     ·simp only [execOp,h1.2,Instr.storeAt,Instr.sureAddr,storeVar,Sem.run_bind,Sem.run_pure,Result.andThen_ok,hs,if_neg hsz,hrun]
     ·have:=bX.pre (st:=st) hX.ext hX.keeps hX.obj (xA st y) hM
      rw [g2];exact this
    ·cases he
   ·cases he
  ·cases he
 ·cases he
end
structure PV (X:Cx)(j4:List n8)(S:Nat->Prop)(st:E1)(a:Act)(w:World)(I:Q9):Prop where
 slot:∀ (j:Nat) ai s t d,S j->st.L[j]? ≠some (.tuple [])->j4[j]? =some ai->ai.op=s9.M9 (.slot s)->X.names[s]? =some t->(X.ops[j]?).bind (·.dst)=some d->X.names.contains d=false ->
  st.n5.any (Touch.Q1 s)=false->a.tmps.getD d undef=a.tmps.getD t undef
 cell:∀ (j:Nat) ai x id off d l0,S j->st.L[j]? ≠some (.tuple [])->j4[j]? =some ai->ai.op=s9.load none x->Y6 st x=some (id,off)->st.H[id]? =some (.cells l0)->off<l0.length ->
  st.n5.any (Touch.aj id off)=false->(X.ops[j]?).bind (·.dst)=some d->X.names.contains d=false->w.cell? (ad (I id).1 ((I id).2+off))=some (a.tmps.getD d undef)
structure Tk (X:Cx)(l:F9)(S:Nat->Prop)(st P3:E1)(a:Act)(w:World)(G:Gh)(I:Q9)(N:Nat->Prop)(k:Nat)(v:b6)(x:Value)(G1:Gh):Prop where
 ri:RI X l S P3 a w G1 I N
 val:VR G1 I N w (.loc k) v x
 ext:Ext G w G1 w
 dZ:iN l G w G1 w
 obj:∀ b id:Nat,G b= .obj id->G1 b= .obj id
 len:P3.H.length=st.H.length
 L:P3.L.length=st.L.length
 n5:∀ p,st.n5.any p=true->P3.n5.any p=true
 hle:∀ (id:Nat) (o' :u5),P3.H[id]? =some o' ->∃ o:u5,st.H[id]? =some o/\o'.M3<=o.M3
section
variable {P:Program} {X:Cx} {l:F9} {S:Nat->Prop} {st:E1} {a:Act} {w w' :World} {G:Gh} {I:Q9} {N:Nat->Prop} {D:Nat->Bool} {j4:List n8}
theorem yq (h:RI X l S st a w G I N)(hpv:PV X j4 S st a w I)(hT:st.T.length=X.names.length)(hD:∀ j,D j=true->S j){k:Nat}(hk:¬ S k){x:Operand}{y:r8}(hc:X.ck D x y=true){sz len:Nat}
  {cells:List Data} {P3:E1} (ht:O4 l j4 st sz y=some (len,cells,P3)):∃ G1,Tk X l S st P3 a w G I N k (.own sz len cells) (a.eval x) G1:=by
 unfold O4 at ht;split at ht
 ·rename_i z len' cells'
  split at ht
  ·rename_i hz
   subst hz;simp at ht;obtain ⟨rfl,rfl,rfl⟩:=ht;refine ⟨G,h,?_,Ext.refl _ _,iN.refl _ _ _,fun _ _ h=>h,rfl,rfl,fun _ h=>h,fun _ o h=>⟨o,h,l5 _⟩⟩;unfold Cx.ck at hc;split at hc
   ·simp_all
   ·simp_all
   ·rename_i v' b heq
    cases heq;exact (aZ _ _ hc).place
   all_goals simp_all
  ·cases ht
 ·cases ht
 ·cases ht
 ·rename_i j
  have TK:∃ t,x= .tmp t/\D j=true/\(X.ops[j]?).bind (·.dst)=some t/\X.names.contains t=false:=by
   unfold Cx.ck at hc;split at hc
   ·simp_all
   ·rename_i t j' heq
    cases heq;simp only [b5,beq_iff_eq,j9] at hc;exact ⟨t,rfl,hc.1.1,hc.1.2,hc.2⟩
   all_goals simp_all
  obtain ⟨t,rfl,hDj,rL,CX⟩:=TK;have RT:=hD j hDj;have hjk:j≠k:=by rintro rfl;exact hk RT
  split at ht
  ·rename_i z len' cells' hj
   split at ht
   ·rename_i hz
    subst hz;simp at ht;obtain ⟨rfl,rfl,rfl⟩:=ht;have h1:=h.L j RT t rL CX;rw [W0 hj] at h1;obtain ⟨G',hm,hv⟩:=fX (tX := .loc k) (by simp) h1;exact ⟨G',h.IL hj hm,hv,hm.ext,fun id _=>⟨fun b hb=>⟨hm.obj b id hb,rfl⟩,fun off=>hm.keeps _ (by simp)⟩,hm.obj,rfl,by simp,fun _ h=>h,fun _ o h=>⟨o,h,l5 _⟩⟩
   ·cases ht
  ·rename_i aV1 aj0 hj
   split at ht
   ·rename_i ai hai
    unfold U2 at ht;split at ht
    ·rename_i s hop
     split at ht
     ·cases ht
     ·rename_i hun
      split at ht
      ·rename_i z len' cells' hs
       split at ht
       ·rename_i hz
        subst hz;simp at ht;obtain ⟨rfl,rfl,rfl⟩:=ht;obtain ⟨ts,hts⟩:∃ ts,X.names[s]? =some ts:=by
         have:=n9 hs;exact ⟨_,o7 (by omega)⟩
        have h1:=h.T s ts hts;rw [W0 hs] at h1;have he:=hpv.slot j ai s ts t RT (by rw [hj];simp) hai hop hts rL CX (by simpa using hun);obtain ⟨G',hm,hv⟩:=fX (tX := .loc k) (by simp) h1;refine ⟨G',h.Oi hs _ hm,?_,hm.ext,fun id _=>⟨fun b hb=>⟨hm.obj b id hb,rfl⟩,fun off=>hm.keeps _ (by simp)⟩,hm.obj,rfl,rfl,fun p hp=>by simp only [List.any_cons,hp,Bool.or_true],fun _ o h=>⟨o,h,l5 _⟩⟩;simp only [Act.eval,he];exact hv
       ·cases ht
      ·cases ht
    ·rename_i x' hop
     split at ht
     ·rename_i id off Mw
      split at ht
      ·cases ht
      ·rename_i hun
       simp only [Bool.or_eq_true,j9,not_or,Bool.not_eq_true,Bool.not_eq_false] at hun;split at ht
       ·rename_i cs hcs
        split at ht
        ·rename_i z len' cells' Qh
         split at ht
         ·rename_i hz
          subst hz;simp at ht;obtain ⟨rfl,rfl,rfl⟩:=ht;have hO:=h.H id _ hcs;simp only [OR] at hO;obtain ⟨hN,c,e,f,g1,g2,g3,g4,g5⟩:=hO
          ·obtain ⟨v,e1,e2⟩:=g5 off _ Qh
           have he:=hpv.cell j ai x' id off t cs RT (by rw [hj];simp) hai hop Mw hcs (n9 Qh) hun.1 rL CX;rw [R9 g1,e1] at he;simp at he;obtain ⟨G',hm,hv⟩:=fX (tX := .loc k) (by simp) e2;refine ⟨G',h.Oh hcs Qh _ hm,?_,hm.ext,fun id' Xx =>⟨fun b hb=>⟨hm.obj b id' hb,rfl⟩,fun off' =>hm.keeps _ ?_⟩,hm.obj,by simp,rfl,fun p hp=>by simp only [List.any_cons,hp,Bool.or_true],fun id' o' ho' => ?_⟩
           ·have e2' :a.eval (.tmp t)=v:=by simp [Act.eval,he]
            rw [e2'];exact hv
           ·rintro heq
            cases heq;rw [hun.2] at Xx;cases Xx
           ·by_cases hee:id' =id
            ·subst hee
             simp only at ho';rw [C9 (n9 hcs)] at ho';cases ho';exact ⟨_,hcs,by simpa [u5.M3] using jC cs off _⟩
            ·simp only at ho'
             rw [q9 (fun e=>hee e.symm)] at ho';exact ⟨o',ho',l5 _⟩
         ·cases ht
        ·cases ht
       ·cases ht
     ·cases ht
    ·cases ht
   ·cases ht
  ·cases ht
def Lh (P:Program)(t:TypeId):Bool :=
 match P.underlying t with
 |some (.slice _)=>true
 |some .string=>true
 |_=>false
theorem ew {t t2 e ty:TypeId}{i:TypeInfo}(hu:P.underlying t=some (.slice e))(hi:P.info? e=some i)(ht2:Lh P t2=true)
  {base:Option Addr} {sLen sCap m:Nat} {x:Value} (hl:(Builtin.lenOf x).run P w= .ok m w) {nw:Array Value}
  (hnew:(Builtin.firstCells i.size m x).run P w= .ok nw w) (hle:sLen+m<=sCap):(Builtin.append_ #[t,t2] ty #[.slice base sLen sCap,x]).run P w =
   (match base with
    |some a=>((storeCells (a.add (sLen * i.size)) nw.toList).run P w).andThen fun _ w' => .ok (.slice base (sLen+m) sCap) w'
    |none=> .ok (.slice base (sLen+m) sCap) w):=by
 unfold Lh at ht2;split at ht2
 ·rename_i e2 h2
  cases base<;>simp [Builtin.append_,run_underlying hu,sizeOf,typeInfo,hi,run_underlying h2,hl,hnew,hle]
 ·rename_i h2
  cases base<;>simp [Builtin.append_,run_underlying hu,sizeOf,typeInfo,hi,run_underlying h2,hl,hnew,hle]
 ·cases ht2
theorem yd (need old:Nat)(e:TypeId)(t:Nat):need<=(Question.appendCap need old e).cut t:=by
 simp [Question.cut]
theorem gb {t t2 e ty:TypeId}{i:TypeInfo}{z:Value}(hu:P.underlying t=some (.slice e))(hi:P.info? e=some i)(hz:i.zero=some z)(ht2:Lh P t2=true)
  {base:Option Addr} {sLen sCap m:Nat} {x:Value} (hl:(Builtin.lenOf x).run P w= .ok m w) {nw old:Array Value}
  (hnew:(Builtin.firstCells i.size m x).run P w.drew= .ok nw w.drew) (hold:(Builtin.firstCells i.size sLen (.slice base sLen sCap)).run P w.drew= .ok old w.drew) (hgt:sCap<sLen+m)
  (h63:((sLen+m:Nat):Int)<=9223372036854775807) (hfit:Builtin.nextslicecap (sLen+m) sCap * i.bytes<=281474976710656) :
  ∃ cap,sLen+m<=cap/\(Builtin.append_ #[t,t2] ty #[.slice base sLen sCap,x]).run P w =
   .ok (.slice (some (ad w.heap.size 0)) (sLen+m) cap) (w.drew.alloc (.cells (old++nw++Builtin.zeroCells z.cells (cap - (sLen+m))) e)):=by
 refine ⟨(Question.appendCap (sLen+m) sCap e).cut (w.tape w.drawn (.appendCap (sLen+m) sCap e)),yd _ _ _ _,?_⟩;have hn:¬ (sLen+m<=sCap):=by omega
 have h63' :¬ (9223372036854775807<((sLen:Int)+(m:Int))):=by omega
 have Xd :¬ (281474976710656<Builtin.nextslicecap (sLen+m) sCap * i.bytes):=by omega
 unfold Lh at ht2;split at ht2
 ·rename_i e2 h2
  simp [Builtin.append_,run_underlying hu,sizeOf,typeInfo,hi,run_underlying h2,hl,hn,h63',Xd,Question.forced,hnew,hold,zeroValue,hz,newRow]
 ·rename_i h2
  simp [Builtin.append_,run_underlying hu,sizeOf,typeInfo,hi,run_underlying h2,hl,hn,h63',Xd,Question.forced,hnew,hold,zeroValue,hz,newRow]
 ·cases ht2
end
section
variable {P:Program} {X:Cx} {l:F9} {S:Nat->Prop} {st:E1} {a:Act} {w w' :World} {G:Gh} {I:Q9} {N:Nat->Prop} {D:Nat->Bool} {j4:List n8}
theorem fC {w w2:World}(h:w2.heap=w.heap)(x:Addr):w2.cell? x=w.cell? x:=by simp [World.cell?,h]
theorem cP (x:Addr)(w:World):(loadCells x 0).run P w= .ok #[] w:=by simp [loadCells,loadCellsFrom]
theorem sg {H:o6}(hH:HR G I N w H){y:b6}{x:Value}(hv:VR G I N w .none y x){sz m:Nat}(hsz:0<sz){cs:List b6}(h:I8 H sz y=some (m,cs)) :
  ∃ vs:List Value,(Builtin.lenOf x).run P w= .ok m w/\(∀ w2:World,w2.heap=w.heap->(Builtin.firstCells sz m x).run P w2= .ok vs.toArray w2)/\F1 G I N w cs vs/\cs.length=m * sz:=by
 unfold I8 at h;split at h
 ·rename_i len cells
  split at h
  ·rename_i hl
   simp at h;obtain ⟨rfl,rfl⟩:=h;simp only [VR,DR] at hv
   rcases hv with ⟨rfl|⟨a0,rfl⟩,rfl,rfl⟩|⟨b,o,cap,rfl,h2,h3⟩
   ·exact ⟨[],by simp [Builtin.lenOf],fun w2 _=>by simp [Builtin.firstCells],by simp [F1],by simp⟩
   ·exact ⟨[],by simp [Builtin.lenOf],fun w2 _=>by simp [Builtin.firstCells,cP],by simp [F1],by simp⟩
   ·obtain ⟨vs,g1,g2,g3⟩:=dw.vals (I:=I) (N:=N) o cells h3
    refine ⟨vs,by simp [Builtin.lenOf],fun w2 HV=> ?_,g3,by simpa using hl⟩;have:=run_loadCells_list (P:=P) w2 (ad b o) vs (fun j v hj=>by rw [Y8,fC HV];exact g2 j v hj);rw [g1,hl] at this;simpa [Builtin.firstCells] using this
  ·cases h
 ·rename_i z len cells
  split at h
  ·rename_i hz
   subst hz;simp at h;obtain ⟨rfl,rfl⟩:=h;have h0:=hv.F2 (tX := .none);simp only [VR] at hv;simp only [b6.F2,VR,DR] at h0
   rcases h0 with ⟨rfl|⟨a0,rfl⟩,rfl,rfl⟩|⟨b,o,cap,rfl,h2,h3⟩
   ·exact ⟨[],by simp [Builtin.lenOf],fun w2 _=>by simp [Builtin.firstCells],by simp [F1],by simp⟩
   ·exact ⟨[],by simp [Builtin.lenOf],fun w2 _=>by simp [Builtin.firstCells,cP],by simp [F1],by simp⟩
   ·obtain ⟨vs,g1,g2,g3⟩:=dw.vals (I:=I) (N:=N) o cells h3
    refine ⟨vs,by simp [Builtin.lenOf],fun w2 HV=> ?_,g3,by simpa using hv.1⟩;have:=run_loadCells_list (P:=P) w2 (ad b o) vs (fun j v hj=>by rw [Y8,fC HV];exact g2 j v hj);rw [g1,hv.1] at this;simpa [Builtin.firstCells] using this
  ·cases h
 ·rename_i id z lo len
  split at h
  ·rename_i hz
   subst hz;split at h
   ·rename_i us vE
    simp at h;obtain ⟨rfl,rfl⟩:=h;simp only [VR] at hv;obtain ⟨_,cap,rfl,_⟩:=hv
    by_cases h0:len * z=0
    ·have hlen:us=[]:=by
      unfold rd at vE;split at vE
      ·split at vE
       ·simp [h0] at vE;exact vE
       ·cases vE
      ·cases vE
     subst hlen;refine ⟨[],by simp [Builtin.lenOf],fun w2 _=> ?_,by simp [F1],by simp [h0]⟩;simp [Builtin.firstCells,h0,cP]
    ·obtain ⟨_,xs,g1,g2,g3,g4⟩:=hH.rd vE (by omega)
     refine ⟨xs,by simp [Builtin.lenOf],fun w2 HV=> ?_,O6 _ _ (by simp [g1,g2]) fun j b v hj hv=> ?_,by simpa using g2⟩
     ·have:=run_loadCells_list (P:=P) w2 (ad (I id).1 ((I id).2+lo)) xs (fun j v hj=>by rw [Y8,fC HV];exact g3 j v hj)
      rw [g1] at this;simpa [Builtin.firstCells] using this
     ·simp at hj
      obtain ⟨b',hb',rfl⟩:=hj;exact (g4 j b' v hb' hv).F2
   ·cases h
  ·cases h
 ·rename_i s
  split at h
  ·rename_i hz
   subst hz;simp at h;obtain ⟨rfl,rfl⟩:=h;simp only [VR,DR] at hv;subst hv;have hsize:(⟨s.toArray⟩:ByteArray).size=s.length:=by simp [ByteArray.size]
   refine ⟨s.map fun b=> .int .u8 b.toNat,by simp [Builtin.lenOf,hsize],fun w2 _=> ?_,O6 _ _ (by simp) fun j b v hj hv=> ?_,by simp⟩
   ·simp [Builtin.firstCells]
   ·simp at hj hv
    obtain ⟨c,hc,rfl⟩:=hj;obtain ⟨c',pH,rfl⟩:=hv;rw [hc] at pH;cases pH;simp [VR,DR]
  ·cases h
 ·cases h
theorem CO {b n n' :Nat}{pl:Place}(hl:G b= .grow n pl)(hn:n<=n'){c:Array Value}{e:TypeId}{f:Nat×Nat}(hb:w.heap[b]? =some (.cells c e f)){c' :Array Value}(hs:c'.size=c.size)
  (hc:∀ i,i<n->c'[i]? =c[i]?):Ext G w (kz G b (.grow n' pl)) (w.setRow b c') where
 os:=rfl
 tape:=rfl
 output:=rfl
 size:=by simp
 jz b' o hi:=by
  by_cases he:b' =b
  ·subst he
   have ho:o<n:=by simpa [iH,hl] using hi
   refine ⟨by simp [iH];omega,?_⟩;rw [R9 (setRow_heap w b' c c' e f hb),R9 hb];exact hc o ho
  ·refine ⟨by unfold iH at hi ⊢;rw [M6 he];exact hi,?_⟩
   simp [World.cell?,setRow_other w b b' c' he]
 still b' hb' :=by
  have hne:b' ≠b:=by rintro rfl;rw [hl] at hb';rcases hb' with h|⟨m,h⟩<;>cases h
  exact ⟨M6 hne,setRow_other w b b' c' hne⟩
 shape b' c0 e0 f0 h0:=by
  by_cases he:b' =b
  ·subst he
   rw [hb] at h0;cases h0;exact ⟨c',setRow_heap w b' c c' e f hb,hs⟩
  ·exact ⟨c0,by rw [setRow_other w b b' c' he];exact h0,rfl⟩
theorem jM {b n n' :Nat}{pl q:Place}(hl:G b= .grow n pl)(hq:q≠pl)(c' :Array Value):ay q G w (kz G b (.grow n' pl)) (w.setRow b c'):=by
 intro b' m hb';have hne:b' ≠b:=by rintro rfl;rw [hl] at hb';cases hb';exact hq rfl
 exact ⟨by rw [M6 hne];exact hb',setRow_other w b b' c' hne⟩
theorem rK {b n n' :Nat}{pl:Place}(hl:G b= .grow n pl)(c' :Array Value)(id:Nat):∀ b',G b' = .obj id->(kz G b (.grow n' pl)) b' = .obj id/\(w.setRow b c').heap[b']? =w.heap[b']? :=by
 intro b' hb';have hne:b' ≠b:=by rintro rfl;rw [hl] at hb';cases hb'
 exact ⟨by rw [M6 hne];exact hb',setRow_other w b b' c' hne⟩
theorem bX.grow (h:RI X l S st a w G I N){k:Nat}(hk:¬ S k)(Z1:k<st.L.length)(entry:Nat){b n n' :Nat}(hl:G b= .grow n (.loc k))(hn:n<=n'){c:Array Value}{e:TypeId}{f:Nat×Nat}
  (hb:w.heap[b]? =some (.cells c e f)) {c' :Array Value} (hs:c'.size=c.size) (hc:∀ i,i<n->c'[i]? =c[i]?) {v:b6} {x:Value} (hv:VR (kz G b (.grow n' (.loc k))) I N (w.setRow b c') (.loc k) v x) :
  bX X l S entry st a w G I N (put st k v) k x (w.setRow b c') (kz G b (.grow n' (.loc k))) I N:=by
 have hx:=CO hl hn hb hs hc;refine ⟨⟨?_,?_,?_,?_,h.T9⟩,?_,hx,fun id _=>⟨rK hl c' id,fun off=>jM hl (by simp) c'⟩,fun id _ _=>⟨rfl,rK hl c' id⟩,fun _ _ _=>rfl,fun _ h=>h,l5 _,fun _ o _ ho=>Or.inr ⟨o,ho,l5 _⟩⟩
 ·intro s t ht
  exact VR.mono hx (fun _ _=>rfl) (fun _ h=>h) _ _ _ (Or.inr (jM hl (by simp) c')) (h.T s t ht)
 ·intro j hj d hd hn
  have:k≠j:=by rintro rfl;exact hk hj
  simp only [u7.put];rw [F3 _ _ _ _ _ this];exact VR.mono hx (fun _ _=>rfl) (fun _ h=>h) _ _ _ (Or.inr (jM hl (by simpa using fun e=>this e.symm) c')) (h.L j hj d hd hn)
 ·intro id o ho
  exact OR.mono hx (fun _ _=>rfl) (fun _ h=>h) id o (fun hb=>rK hl c' id _ hb) (fun off=>jM hl (by simp) c') (h.H id o ho)
 ·intro b' hb'
  simp at hb';have hne:b' ≠b:=by rintro rfl;have:=h.wf b' hb';rw [hl] at this;cases this
  rw [M6 hne];exact h.wf b' hb'
 ·simp only [u7.put]
  rw [K6 _ _ _ _ Z1];exact hv
theorem sJ:∀ (xs:List Data),L7 (xs.map .d)=some xs
 |[]=>rfl
 |x::xs=>by simp [L7,b6.data?,sJ xs]
theorem bX.Ug {entry:Nat}{P3 st' :E1}{G1 G' :Gh}{I' :Q9}{N' :Nat->Prop}{k:Nat}{x y:Value}{v:b6}(ht:Tk X l S st P3 a w G I N k v y G1)
  (h:bX X l S entry P3 a w G1 I N st' k x w' G' I' N'):bX X l S entry st a w G I N st' k x w' G' I' N' where
 ri:=h.ri
 val:=h.val
 ext:=ht.ext.trans h.ext
 dZ:=iN.trans ht.dZ h.dZ
 ko id hN hh:=by
  obtain ⟨h1,h2⟩:=h.ko id hN hh;exact ⟨h1,fun b hb=>h2 b (ht.obj b id hb)⟩
 inj:=h.inj
 mono:=h.mono
 len:=by rw [<- ht.len];exact h.len
 hle id o' hb ho' :=by
  rcases h.hle id o' hb ho' with h1|⟨o,h1,h2⟩
  ·exact Or.inl h1
  ·obtain ⟨o2,h3,h4⟩:=ht.hle id o h1
   exact Or.inr ⟨o2,h3,Nat.le_trans h2 h4⟩
def fD (P:Program)(ck:Operand->r8->Bool)(o:Oper)(op:s9):Bool :=
 match o.op,op with
 | .call ⟨.builtin .append,args,argTypes⟩,.append sz bytes _ x' y' =>
  (match args.toList,argTypes.toList with
   |[x,y],[t,t2]=>ck x x' &&ck y y' &&Lh P t2&&decide (0<sz)&&(match P.underlying t with
    |some (.slice e)=>(match P.info? e with
     |some i=>i.size==sz&&i.bytes==bytes&&decide (0<bytes)&&(match i.zero with|some z=>z.cells.size==sz|none=>false)
     |none=>false)
    |_=>false)
   |_,_=>false)
 |_,_=>false
theorem eW {ck:Operand->r8->Bool}{o:Oper}{sz bytes:Nat}{ob:Bool}{x' y' :r8}(h:fD P ck o (.append sz bytes ob x' y')=true) :
  ∃ x y t t2 e i z,o.op= .call ⟨.builtin .append,#[x,y],#[t,t2]⟩/\ck x x' =true/\ck y y' =true/\Lh P t2=true/\0<sz/\P.underlying t=some (.slice e)/\P.info? e=some i/\i.size=sz/\i.bytes=bytes/\i.zero=some z/\z.cells.size=sz/\0<bytes:=by
 unfold fD at h;split at h
 ·rename_i args argTypes sz' bytes' ob' x1 y1 V7 V3
  cases V3;split at h
  ·rename_i x y t t2 ha ht
   simp only [b5,decide_eq_true_eq] at h;obtain ⟨⟨⟨⟨h1,h2⟩,h3⟩,h4⟩,h5⟩:=h;split at h5
   ·rename_i e he
    split at h5
    ·rename_i i hi
     simp only [b5,beq_iff_eq,decide_eq_true_eq] at h5;obtain ⟨⟨⟨h6,h7⟩,h9⟩,h8⟩:=h5;split at h8
     ·rename_i z hz
      refine ⟨x,y,t,t2,e,i,z,?_,h1,h2,h3,h4,he,hi,h6,h7,hz,by simpa using h8,h9⟩;rw [V7];have e1:args= #[x,y]:=by apply Array.toList_inj.1;simpa using ha
      have e2:argTypes= #[t,t2]:=by apply Array.toList_inj.1;simpa using ht
      rw [e1,e2]
     ·cases h8
    ·cases h5
   ·cases h5
  ·cases h
 ·cases h
end
section
variable {P:Program} {X:Cx} {l:F9} {S:Nat->Prop} {st:E1} {a:Act} {w w' :World} {G:Gh} {I:Q9} {N:Nat->Prop} {D:Nat->Bool} {j4:List n8}
theorem rR {n bytes old:Nat}(h:roomFor n bytes=true)(hlt:old<n):Builtin.nextslicecap n old * bytes<=281474976710656:=by
 have h1:(2 * n+512) * bytes<=281474976710656:=by simpa [roomFor] using h
 have h2:=nextslicecap_le hlt;exact Nat.le_trans (Nat.mul_le_mul_right _ (by omega)) h1
theorem Bw {n bytes:Nat}(h:roomFor n bytes=true)(hb:0<bytes):((n:Nat):Int)<=9223372036854775807:=by
 have h1:(2 * n+512) * bytes<=281474976710656:=by simpa [roomFor] using h
 have h2:(2 * n+512) * 1<=(2 * n+512) * bytes:=Nat.mul_le_mul_left _ hb;omega
theorem PJ (hwf:WF G w){e:TypeId}{c:Array Value}(hn:iI w w' (.cells c e)){xs ys:List Data}{vo vn:List Value}(ho:F1 G I N w (xs.map .d) vo)(hy:F1 G I N w (ys.map .d) vn){rest:Array Value}
  (hc:c=vo.toArray++vn.toArray++rest) {sz n cap:Nat} (hl:(xs++ys).length=n * sz) (hcap:n<=cap) (hsz:cap * sz<=c.size) {pl:Place} (hp:pl≠ .none) :
  VR (kz G w.heap.size (.grow (n * sz) pl)) I N w' pl (.own sz n (xs++ys)) (.slice (some (ad w.heap.size 0)) n cap):=by
 refine Ip hwf hn (qV _) (sJ (xs++ys)) (vs:=vo++vn) (by rw [List.map_append];exact F1.append _ _ _ _ ho hy) (fun i v hi=> ?_) hl hcap hsz hp;rw [hc];have hlt:=n9 hi;have:(vo.toArray++vn.toArray++rest)[i]? =(vo++vn++rest.toList)[i]? :=by
  rw [<- Array.getElem?_toList];simp
 rw [this,p4 hlt];exact hi
theorem uC (z:Array Value)(n:Nat):(Builtin.zeroCells z n).size=n * z.size:=by simp [Builtin.zeroCells]
theorem Gc (h:RI X l S st a w G I N)(hpv:PV X j4 S st a w I)(hT:st.T.length=X.names.length)(hD:∀ j,D j=true->S j){k:Nat}(hk:¬ S k)(Z1:k<st.L.length)(entry:Nat){o:Oper}{sz bytes:Nat}{x y:r8}
  (hc:fD P (X.ck D) o (.append sz bytes false x y)=true) {E:Env} (hE:E.lim=l) {s5:Option Nat} {st' :E1} (he:J5 E j4 s5 k sz bytes false st x (F0 st.T st.L y)=some st') :
  ∃ v w' G',(execOp a.eval o).run P w= .ok (.value v) w' /\bX X l S entry st a w G I N st' k v w' G' I N:=by
 obtain ⟨x0,y0,t,t2,e,i,z,hop,Xm,Xn,ht2,hsz,hu,hi,hsi,Qe,hz,hzs,Xk⟩:=eW hc;unfold J5 at he;rw [hE] at he;split at he
 ·rename_i m cs hcs
  simp only [b7,if_false] at he;split at he
  ·rename_i new hnew
   split at he
   ·rename_i len cells P3 htk
    split at he
    ·rename_i hroom
     simp at he;subst he;obtain ⟨vn,hl,hf,My,hcl⟩:=sg (P:=P) h.H (h.S2 hD _ _ Xn) hsz hcs;obtain ⟨G1,LA⟩:=yq h hpv hT hD hk Xm htk;have hdn:=gG cs new vn hnew My;have ap6 :F1 G I N w (new.map .d) vn:=by
      refine O6 _ _ (by rw [F1.length _ _ My,List.length_map,hdn.1]) fun j b v hj hv=> ?_
      simp at hj;obtain ⟨b',hb',rfl⟩:=hj;obtain ⟨u,g1,g2⟩:=hdn.2 j b' hb';rw [hv] at g1;cases g1;simpa [VR] using g2
     have TU:F1 G1 I N w (new.map .d) vn:=F1.mono LA.ext (fun _ _=>rfl) (fun _ h=>h) _ _ ap6;have CW:new.length=m * sz:=by rw [hdn.1,hcl]
     have sR:vn.length=m * sz:=by rw [F1.length _ _ My,hcl]
     have iY:(execOp a.eval o).run P w=((Builtin.append_ #[t,t2] o.type #[a.eval x0,a.eval y0]).run P w).andThen fun v w' => .ok (.value v) w' :=by
      obtain ⟨dst,bt,ty,pos,after,guard⟩:=o;simp only at hop;subst hop;simp [execOp,resolve,invoke,builtin]
     have hval:=LA.val;simp only [VR] at hval;obtain ⟨oo,hval⟩:=hval;subst hsi Qe;have out:∀ base sCap,a.eval x0= .slice base len sCap->sCap<len+m->(∃ vo:List Value,(∀ w2:World,w2.heap=w.heap->(Builtin.firstCells i.size len (.slice base len sCap)).run P w2= .ok vo.toArray w2)/\F1 G1 I N w (cells.map .d) vo) ->
       ∃ v w' G',(execOp a.eval o).run P w= .ok (.value v) w' /\bX X l S entry st a w G I N (put P3 k (.own i.size (len+m) (cells++new))) k v w' G' I N:=by
      rintro base sCap hx hlt ⟨vo,ho1,Sb⟩;obtain ⟨cap,hcap,hrun⟩:=gb (P:=P) (w:=w) (ty:=o.type) hu hi hz ht2 (base:=base) (sLen:=len) (sCap:=sCap) hl (hf w.drew rfl) (ho1 w.drew rfl) hlt (Bw hroom.1 Xk) (rR hroom.1 hlt);have hnb:iI w (w.drew.alloc (.cells (vo.toArray++vn.toArray++Builtin.zeroCells z.cells (cap - (len+m))) e)) (.cells (vo.toArray++vn.toArray++Builtin.zeroCells z.cells (cap - (len+m))) e):=by
       have:=iI.alloc w.drew (.cells (vo.toArray++vn.toArray++Builtin.zeroCells z.cells (cap - (len+m))) e);exact ⟨this.os,this.tape,this.output,this.size,this.old,this.new⟩
      have hvo:vo.length=len * i.size:=by rw [F1.length _ _ Sb,List.length_map,oo]
      refine ⟨_,_,_,?_,bX.Ug LA (bX.fresh LA.ri hk (by rw [LA.L];exact Z1) entry hnb (.grow ((len+m) * i.size) (.loc k)) (PJ LA.ri.wf hnb Sb TU rfl ?_ hcap ?_ (by simp)))⟩
      ·rw [iY,hx,hrun];rfl
      ·rw [C1,oo,CW,Nat.add_mul]
      ·simp only [Array.size_append,List.size_toArray,uC,hzs,hvo,sR]
       have:cap * i.size=(len+m) * i.size+(cap - (len+m)) * i.size:=by rw [<- Nat.add_mul];congr 1;omega
       rw [this,Nat.add_mul];omega
     rcases hval with ⟨hnil,XC⟩|⟨_,b,off,cap,c,e',f,h1,h2,h3,h4,h5,h6,h7⟩
     ·subst XC
      have hc0:cells=[]:=by simpa using oo
      subst hc0;have hbase:∃ base:Option Addr,a.eval x0= .slice base 0 0/\(base=none\/∃ b o,base=some (ad b o)):=by
       rcases hnil with h|⟨b,o,h⟩
       ·exact ⟨none,h,Or.inl rfl⟩
       ·exact ⟨_,h,Or.inr ⟨b,o,rfl⟩⟩
      obtain ⟨base,hx,ZX⟩:=hbase
      by_cases hm:m=0
      ·subst hm
       have CX:new=[]:=by simpa using CW
       have hvv:vn=[]:=by simpa using sR
       subst CX hvv;have hrun:=ew (P:=P) (w:=w) (ty:=o.type) hu hi ht2 (base:=base) (sLen:=0) (sCap:=0) hl (hf w rfl) (l5 _);refine ⟨.slice base 0 0,w,G1,?_,bX.Ug LA (bX.same LA.ri hk (by rw [LA.L];exact Z1) entry ?_)⟩
       ·rw [iY,hx,hrun]
        cases base<;>simp [storeCells]
       ·simp only [VR]
        refine ⟨by simp,Or.inl ⟨?_,by simp⟩⟩
        rcases ZX with rfl|⟨b,o',rfl⟩
        ·exact Or.inl rfl
        ·exact Or.inr ⟨b,o',rfl⟩
      ·refine out base 0 hx (by omega) ⟨[],fun w2 _=> ?_,by simp [F1]⟩
       cases base<;>simp [Builtin.firstCells,cP]
     ·by_cases hfit:len+m<=cap
      ·have hrun:=ew (P:=P) (w:=w) (ty:=o.type) hu hi ht2 (base:=some (ad b off)) (sLen:=len) (sCap:=cap) hl (hf w rfl) hfit
       have hsize:off+len * i.size+vn.length<=c.size:=by
        rw [sR];have:(len+m) * i.size<=cap * i.size:=Nat.mul_le_mul_right _ hfit;rw [Nat.add_mul] at this;omega
       have hone:GI vn:=by
        intro u hu';obtain ⟨j,hj,rfl⟩:=List.getElem_of_mem hu';have hj2:j<(new.map b6.d).length:=by rw [List.length_map,CW,<- sR];exact hj
        obtain ⟨u',g1,g2⟩:=F1.get _ _ TU j _ (o7 hj2);rw [o7 hj] at g1;cases g1;exact (jf (by simp [b6.one]) g2).1
       have hst:=run_storeCells_at (P:=P) b (off+len * i.size) e' f vn 0 c w h3 h5 (by omega) hone;simp only [Nat.add_zero] at hst;have pI :off+len * i.size+vn.length<=c.toList.length:=by simpa using hsize
       have oq :(K0 c.toList (off+len * i.size) vn).toArray.size=c.size:=by simp [lX _ _ _ pI]
       have hkeep:∀ j,j<off+len * i.size->(K0 c.toList (off+len * i.size) vn).toArray[j]? =c[j]? :=by
        intro j hj;rw [show (K0 c.toList (off+len * i.size) vn).toArray[j]? =(K0 c.toList (off+len * i.size) vn)[j]? from by simp,gR _ _ _ pI,if_pos hj];simp
       refine ⟨.slice (some (ad b off)) (len+m) cap,w.setRow b (K0 c.toList (off+len * i.size) vn).toArray,_,?_,
        bX.Ug LA (bX.grow LA.ri hk (by rw [LA.L];exact Z1) entry h6 (n' :=off+(len+m) * i.size) (by rw [Nat.add_mul];omega) h3 oq hkeep ?_)⟩
       ·rw [iY,h1,hrun]
        simp only [Y8,hst,Result.andThen_ok]
       ·have hx:=CO h6 (n' :=off+(len+m) * i.size) (by rw [Nat.add_mul];omega) h3 oq hkeep
        simp only [VR];refine ⟨by rw [C1,oo,CW,Nat.add_mul],Or.inr ⟨by simp,b,off,cap,_,e',f,rfl,hfit,setRow_heap w b c _ e' f h3,by rw [oq];exact h4,by rw [oq];exact h5,by simp,?_⟩⟩;refine uD off _ fun j d hj=> ?_
        have hjl:=n9 hj;rw [C1,oo,CW] at hjl;refine ⟨by simp [iH,Nat.add_mul];omega,?_⟩;rw [R9 (setRow_heap w b c _ e' f h3),show (K0 c.toList (off+len * i.size) vn).toArray[off+j]? =(K0 c.toList (off+len * i.size) vn)[off+j]? from by simp,gR _ _ _ pI]
        by_cases RW:j<len * i.size
        ·rw [if_pos (by omega)]
         rw [p4 (by omega)] at hj;obtain ⟨vs,q1,q2,q3⟩:=dw.vals (I:=I) (N:=N) off cells h7;have hjv:j<vs.length:=by omega
         have q4:=q2 j _ (o7 hjv);rw [R9 h3] at q4;refine ⟨vs[j],by simpa using q4,?_⟩;obtain ⟨u,r1,r2⟩:=F1.get _ _ q3 j (.d d) (by simp [hj]);rw [o7 hjv] at r1;cases r1;simp only [VR] at r2;exact DR.mono hx.jz _ _ r2
        ·rw [if_neg (by omega),if_pos (by omega)]
         rw [p9 (by omega),oo] at hj;obtain ⟨u,r1,r2⟩:=F1.get _ _ TU (j - len * i.size) (.d d) (by simp [hj]);refine ⟨u,by rw [show off+j - (off+len * i.size)=j - len * i.size from by omega];exact r1,?_⟩;simp only [VR] at r2;exact DR.mono hx.jz _ _ r2
      ·refine out (some (ad b off)) cap h1 (by omega) ?_
       obtain ⟨vs,q1,q2,q3⟩:=dw.vals (I:=I) (N:=N) off cells h7;refine ⟨vs,fun w2 HV=> ?_,q3⟩;have:=run_loadCells_list (P:=P) w2 (ad b off) vs (fun j v hj=>by rw [Y8,fC HV];exact q2 j v hj);rw [q1,oo] at this;simpa [Builtin.firstCells] using this
    ·cases he
   ·cases he
  ·cases he
 ·cases he
end
end Go.u7


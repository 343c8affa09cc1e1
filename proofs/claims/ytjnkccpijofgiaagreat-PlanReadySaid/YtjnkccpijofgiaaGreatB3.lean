/-
  An operation of a region, run: soundness of stepA; regions in the order of the text.; Operations of the abstract machine: what they look at. Operations without effect, swapped with others.; Two operations of a region that are not ordered against each other, swapped.; Any order that the edges allow leads where the order of the text leads.; Swapping two operations; moving one ahead of others.; Regions that draw their order.; Regions as a whole.; A slice of an object seen by content from here on.
  (Put together by a small program out of several texts; blanks left out to keep the folder small.)
-/
import Derived.Test.YtjnkccpijofgiaaGreatB2
import Derived.Orders
set_option linter.unusedVariables false
set_option linter.unusedSimpArgs false
namespace Go.Abs
section
variable {X:Cx} {ais:List AIns} {E:Env} {nt:Nat} {S:Nat→Prop} {st st1 st2:RSt} {a:Act} {w w' :World} {G G' :Gh} {I I' :Inj} {N N' :Nat→Prop} {D:Nat→Bool}
theorem wanted_sound (hR:Rg X ais E nt S st a w G I N)(hD:∀ j,D j=true→S j){o:Oper}{g:Option (Nat×Bool)}(hc:chkGuard X D o.guard g=true){b:Bool}(hw:wantedA st.L g=some b):Region.wanted o (yielded X.ops a.tmps)=b:=by
 unfold Region.wanted
 cases hg:o.guard with
 |none =>
  rw [hg] at hc
  cases g with
  |none=>simp [wantedA] at hw;simp [← hw]
  |some p=>simp [chkGuard] at hc
 |some p =>
  obtain ⟨g0,want⟩:=p
  rw [hg] at hc
  cases g with
  |none=>simp [chkGuard] at hc
  |some q =>
   obtain ⟨g1,want1⟩:=q
   simp only [chkGuard,Bool.and_eq_true,beq_iff_eq] at hc
   obtain ⟨⟨⟨rfl,rfl⟩,hDg⟩,hdst⟩:=hc
   cases hd:(X.ops[g0]?).bind (·.dst) with
   |none=>rw [hd] at hdst;cases hdst
   |some d =>
    rw [hd] at hdst
    simp only [Bool.not_eq_true'] at hdst
    have hv:=hR.ri.L g0 (hD g0 hDg) d hd hdst
    have hy:yielded X.ops a.tmps g0=(match a.tmps[d]? with|some (.bool b)=>some b|_=>none):=by
     unfold yielded
     rw [hd]
     rfl
    simp only [hy]
    simp only [wantedA] at hw
    split at hw
    ·rename_i c hl
     cases hw
     rw [getD_of hl] at hv
     simp only [VR,DR] at hv
     have:a.tmps[d]? =some (.bool c):=by
      cases ht:a.tmps[d]? with
      |none=>simp [ht,undef] at hv
      |some z=>simp [ht] at hv;rw [hv]
     simp only [this]
     cases c<;>cases want<;>rfl
    ·rename_i hl
     cases hw
     rw [getD_of hl] at hv
     simp only [VR] at hv
     obtain ⟨cs,h1,_⟩:=hv
     have:(match a.tmps[d]? with|some (.bool b)=>some b|_=>none)=none:=by
      cases ht:a.tmps[d]? with
      |none=>rfl
      |some z =>
       simp [ht] at h1
       rw [h1]
     rw [this]
     rfl
    ·cases hw
structure Done (X:Cx)(ais:List AIns)(E:Env)(nt:Nat)(S:Nat→Prop)(st:RSt)(w:World)(G:Gh)(I:Inj)(N:Nat→Prop)(k:Nat)(nid:Option Nat)(st2:RSt)(a' :Act)(w' :World)(G' :Gh)(I' :Inj)(N' :Nat→Prop):Prop where
 rg:Rg X ais E nt (fun j=>S j∨j=k) st2 a' w' G' I' N'
 since:Since E st.H w G I N st2.H w' G' I' N'
 len:st.H.length≤st2.H.length
 old:∀ id,id<st.H.length→N' id→N id∨nid=some id
theorem opdOK_of_ck (hD:∀ j,D j=true→S j){x:Operand}{y:Opd}(hc:X.ck D x y=true):OpdOK X S y:=by
 unfold Cx.ck at hc
 split at hc
 ·exact ⟨_,by simpa using hc⟩
 ·simp only [Bool.and_eq_true,beq_iff_eq,Bool.not_eq_true'] at hc
  exact ⟨hD _ hc.1.1,_,hc.1.2,hc.2⟩
 ·trivial
 ·trivial
 ·trivial
 ·cases hc
theorem load_opd (hD:∀ j,D j=true→S j){o:Oper}{n:Option Nat}{y:Opd}(hc:chkOne X.P (X.ck D) o (.load n y)=true):OpdOK X S y:=by
 simp only [chkOne] at hc
 obtain ⟨dst,oop,ty,pos,after,guard⟩:=o
 cases oop<;>simp [chkPure] at hc
 exact opdOK_of_ck hD hc.1
theorem Rg.after (hst:Stat X nt)(hR:Rg X ais E nt S st a w G I N)(hD:∀ j,D j=true→S j){k:Nat}(hk:¬ S k)(hkl:k<st.L.length){o:Oper}(ho:X.ops[k]? =some o){i:AIns}(hi:ais[k]? =some i)(hc:chkIns X D o i=true)
  {nid:Option Nat} (hne:∀ i,nid=some i→E.entry≤i) (htr:Tr N k st st1) (hts:toSlotX nid st1 k i.dst=some st2) {x:Value} {ds:List Deferred} (hds:ds=a.defers∨∃ d,ds=d::a.defers∧IdleD X.P E.idle d)
  (hf:st2.L[k]? =some (.tuple [])∨From X st a w I i.op x) (hS:Stp nid X E.lim S E.entry st a w G I N st1 k x w' G' I' N') :
  ∃ G'',Done X ais E nt S st w G I N k nid st2 ({ a with defers:=ds }.put o.dst x) w' G'' I' N' :=by
 simp only [chkIns,Bool.and_eq_true] at hc
 obtain ⟨⟨hc1,hc2⟩,hc3⟩:=hc
 have hm:=hS.mid
 obtain ⟨G2,e1,e2,e3,e4⟩:=RI.after (l:=E.lim) (a:={ a with defers:=ds }) hst hR.size (by rw [htr.lenT];exact hR.lenT) hk (by rw [htr.lenL];exact hkl) ho hc2 hm.ri.defers hm.val hts
 have hpv:=PV.after (w' :=w') (I' :=I') (x:=x) (ds:=ds) hst hR hk ho hi hc2 (fun y hy=>load_opd hD (by rw [hy] at hc1;exact hc1)) htr hts (fun id hN ht=>by
  obtain ⟨h1,h2⟩:=hm.ko id hN ht
  exact ⟨h1,fun b hb=>(h2 b hb).2⟩) hf
 refine ⟨G2,⟨e4,hpv,?_,?_,?_,?_,?_,?_,?_⟩,⟨?_,?_,?_,?_,?_,?_⟩,?_,hS.old⟩
 ·intro j ai y hj hai hop
  have lift:OpdOK X S y→OpdOK X (fun j=>S j∨j=k) y:=by
   intro h
   cases y with
   |loc m=>exact ⟨Or.inl h.1,h.2⟩
   |slot s=>exact h
   |const v=>trivial
  rcases hj with hj|rfl
  ·exact lift (hR.cl j ai y hj hai hop)
  ·rw [hi] at hai;cases hai
   exact lift (load_opd hD (by rw [hop] at hc1;exact hc1))
 ·rw [toSlot_lenT hts,htr.lenT];exact hR.lenT
 ·rw [toSlot_lenL hts,htr.lenL];exact hR.lenL
 ·intro id hid;rw [toSlot_H hts];exact hS.nsub id hid
 ·rw [toSlot_H hts];exact Nat.le_trans hR.ent hm.len
 ·rw [size_put];exact hR.size
 ·rw [defers_put]
  intro d hd
  rcases hds with rfl|⟨d',rfl,hid⟩
  ·exact hR.idle d hd
  ·simp only [List.mem_cons] at hd
   rcases hd with rfl|hd
   ·exact hid
   ·exact hR.idle d hd
 ·exact hm.ext.trans e1
 ·exact hm.pres.trans fun id _=>⟨fun b hb=>⟨e3 b id hb,rfl⟩,e2 id⟩
 ·intro id hid hN;exact hm.inj id hid hN
 ·intro id _ hN;exact hm.mono id hN
 ·intro id hid hN
  rcases hS.old id (Nat.lt_of_lt_of_le hid hR.ent) hN with h1|h1
  ·exact h1
  ·have:=hne id h1;omega
 ·intro id o' hb ho';rw [toSlot_H hts] at ho';exact hm.hle id o' hb ho'
 ·rw [toSlot_H hts];exact hm.len
theorem stepA_sound (hst:Stat X nt)(hcf:CallOK X.P E.cf E.prom)(hcall:∀ f args H lm r,E.cf f args H lm=some r→canCall X.P f=true)(hs:E.lim.strict≤E.lim.base)(hbe:E.lim.base≤E.entry)(hR:Rg X ais E nt S st a w G I N)
  (hD:∀ j,D j=true→S j) {k:Nat} (hk:¬ S k) {o:Oper} (ho:X.ops[k]? =some o) {i:AIns} (hi:ais[k]? =some i) (hc:chkIns X D o i=true) {nid:Option Nat} (hid:i.op.isAlloc=true→IdOK E.lim st N nid) (hne:∀ i,nid=some i→E.entry≤i∧i<st.H.length)
  {rs:List Nat} (he:stepA E ais nid k i st=some (st2,rs)) (K:Act→World→Prop) (Q:Exit→Act→World→Prop)
  (hK:∀ a' w' G' I' N',Done X ais E nt S st w G I N k nid st2 a' w' G' I' N' →K a' w'):wpOp X.P X.ops Q k K a w:=by
 have hkl:k<st.L.length:=by rw [hR.lenL];exact lt_of_getElem? hi
 have hc' :=hc
 simp only [chkIns,Bool.and_eq_true] at hc'
 obtain ⟨⟨hc1,hc2⟩,hc3⟩:=hc'
 unfold wpOp
 simp only [ho]
 unfold stepA at he
 split at he
 ·rename_i hw
  rw [if_pos (wanted_sound hR hD hc3 hw)]
  split at he
  ·rename_i st1 rs1 hW
   split at he
   ·rename_i st2' hts
    cases he
    refine Or.inl ?_
    have hrun:=stepW_sound (P:=X.P) hcf hcall rfl hR.ri hR.pv hR.lenT hR.nsub (Nat.le_trans hbe hR.ent) hs hD hk hkl hc1 (nid:=nid) hid hW
    refine hrun K Q ?_
    rintro a' w' ⟨x,ds,G',I',N',hF,rfl,hds,hS⟩
    have htr:Tr N k st st1:=Tr.stepW hR.nsub (fun i h=>(hne i h).2) (fun ha=>(hid ha).new) hW
    obtain ⟨G'',hdone⟩:=Rg.after hst hR hD hk hkl ho hi hc (fun i h=>(hne i h).1) htr hts hds (Or.inr hF) hS
    exact hK _ _ _ _ _ hdone
   ·cases he
  ·cases he
 ·rename_i hw
  rw [if_neg (by rw [wanted_sound hR hD hc3 hw];simp)]
  split at he
  ·rename_i st2' hts
   cases he
   have htr:Tr N k st (put st k (.tuple [])):=Tr.put _
   have hS:Stp nid X E.lim S E.entry st a w G I N (put st k (.tuple [])) k undef w G I N :=
    Stp.sameN hR.nsub (Mid.same hR.ri hk hkl E.entry (by simp only [VR];exact ⟨#[],rfl,by simp [VRs]⟩))
   have hL:st2.L[k]? =some (.tuple []):=by
    rcases toSlotX_cases hts with ⟨_,rfl⟩|⟨s,tch',_,_,rfl,_⟩
    ·simp [put,hkl]
    ·simp [xfer,put,hkl]
   obtain ⟨G'',hdone⟩:=Rg.after hst hR hD hk hkl ho hi hc (fun i h=>(hne i h).1) htr hts (Or.inl rfl) (Or.inl hL) hS
   exact hK _ _ _ _ _ hdone
  ·cases he
 ·cases he
def chkText (X:Cx):List AIns→Nat→Bool
 |[],k=>X.ops.size==k
 |i::is,k=>(match X.ops[k]? with
  |some o=>chkIns X (fun j=>decide (j<k)) o i
  |none=>false)&&chkText X is (k+1)
structure Fin (X:Cx)(ais:List AIns)(E:Env)(nt:Nat)(st0:RSt)(w:World)(G:Gh)(I:Inj)(N:Nat→Prop)(st2:RSt)(a' :Act)(w' :World)(G' :Gh)(I' :Inj)(N' :Nat→Prop):Prop where
 rg:Rg X ais E nt (fun j=>j<ais.length) st2 a' w' G' I' N'
 since:Since E st0.H w G I N st2.H w' G' I' N'
theorem Rg.congr {S' :Nat→Prop}(h:Rg X ais E nt S st a w G I N)(hS:∀ j,S j↔S' j):Rg X ais E nt S' st a w G I N:=by
 have:S=S' :=funext fun j=>propext (hS j)
 subst this
 exact h
theorem runOps_sound (hst:Stat X nt)(hcf:CallOK X.P E.cf E.prom)(hcall:∀ f args H lm r,E.cf f args H lm=some r→canCall X.P f=true)(hs:E.lim.strict≤E.lim.base)(hbe:E.lim.base≤E.entry)(Q:Exit→Act→World→Prop) :
  ∀ (is:List AIns) (k:Nat),ais.drop k=is→k≤ais.length→chkText X is k=true→∀ (st:RSt) (a:Act) (w:World) (G:Gh) (I:Inj) (N:Nat→Prop) (st2:RSt),Rg X ais E nt (fun j=>j<k) st a w G I N→runOps E ais is k st=some st2 →
   (∀ a' w' G' I' N',Fin X ais E nt st w G I N st2 a' w' G' I' N' →Q .normal a' w')→wpOps X.P X.ops Q (List.range' k is.length) a w:=by
 intro is
 induction is with
 |nil =>
  intro k hd hk _ st a w G I N st2 hR hrun hQ
  simp only [runOps] at hrun
  cases hrun
  have hkl:ais.length=k:=by
   have:=congrArg List.length hd
   simp at this;omega
  simp only [List.length_nil,List.range'_zero,wpOps]
  exact hQ _ _ _ _ _ ⟨by rw [hkl];exact hR,Since.refl _ _ _ _ _ _⟩
 |cons i is ih =>
  intro k hd hk hc st a w G I N st2 hR hrun hQ
  have hi:ais[k]? =some i:=by
   have:(ais.drop k)[0]? =some i:=by rw [hd];rfl
   rw [List.getElem?_drop] at this
   simpa using this
  have hd' :ais.drop (k+1)=is:=by
   have:=congrArg (List.drop 1) hd
   rw [List.drop_drop] at this
   simpa using this
  simp only [chkText,Bool.and_eq_true] at hc
  obtain ⟨hc1,hc2⟩:=hc
  simp only [runOps] at hrun
  split at hrun
  ·rename_i st1 rs hstep
   cases ho:X.ops[k]? with
   |none=>rw [ho] at hc1;cases hc1
   |some o =>
    rw [ho] at hc1
    simp only [List.length_cons,List.range'_succ]
    rw [wpOps_cons]
    refine stepA_sound hst hcf hcall hs hbe hR (D:=fun j=>decide (j<k)) (fun j hj=>by simpa using hj) (Nat.lt_irrefl k) ho hi hc1 (nid:=none) (fun _=> ?_) (fun i h=>by cases h) hstep _ _ ?_
    ·exact ⟨(fun hN=>by have:=hR.nsub _ hN;simp [newId] at this),(fun i h=>by cases h),by simp only [newId,Option.getD_none];exact Nat.le_trans hbe hR.ent,by simp only [newId,Option.getD_none];exact Nat.le_trans hs (Nat.le_trans hbe hR.ent)⟩
    ·intro a' w' G' I' N' hdone
     refine ih (k+1) hd' (lt_of_getElem? hi) hc2 st1 a' w' G' I' N' st2 (hdone.rg.congr fun j=>by omega) hrun ?_
     intro a'' w'' G'' I'' N'' hfin
     exact hQ _ _ _ _ _ ⟨hfin.rg,hdone.since.trans hfin.since⟩
  ·cases hrun
end
end Go.Abs
namespace Go.Abs
def Opd.locs:Opd→List Nat
 | .loc j=>[j]
 |_=>[]
def Opd.slots:Opd→List Nat
 | .slot s=>[s]
 |_=>[]
def AOp.opds:AOp→List Opd
 | .mov x=>[x]
 | .pick c a b=>[c,a,b]
 | .alloc _=>[]
 | .box x=>[x]
 | .build _ parts=>parts.map (·.2.2)
 | .bslice _ _ _ parts _=>parts.map (·.2.2)
 | .makeS _ _ x y=>[x,y]
 | .load _ x=>[x]
 | .store _ a x=>[a,x]
 | .nilck x=>[x]
 | .bin _ x y=>[x,y]
 | .un _ x=>[x]
 | .nilS _ x=>[x]
 | .nilI _ x=>[x]
 | .eqB _ x y=>[x,y]
 | .eqS _ _ x y=>[x,y]
 | .convI _ x=>[x]
 | .convId x=>[x]
 | .convSB x=>[x]
 | .convBS x=>[x]
 | .sliceS x lo hi=>x::(lo.toList++hi.toList)
 | .sliceV _ x lo hi=>x::(lo.toList++hi.toList)
 | .off _ x=>[x]
 | .idxA _ x i=>[x,i]
 | .idxP _ _ x i=>[x,i]
 | .idxS x i=>[x,i]
 | .extract x _=>[x]
 | .len x=>[x]
 | .lenT x=>[x]
 | .lenM x=>[x]
 | .append _ _ _ x y=>[x,y]
 | .appendN _ _ x y=>[x,y]
 | .minmax _ xs=>xs
 | .clear _ _ x=>[x]
 | .mkfunc _ first caps=>first++caps
 | .call _ xs=>xs
 | .callv x xs=>x::xs
 | .makeMap=>[]
 | .lookup _ _ _ m k=>[m,k]
 | .mapSet _ m k v=>[m,k,v]
 | .defer x=>[x]
 | .bad=>[]
def usesL (ais:List AIns)(i:AIns):List Nat :=
 (i.op.opds.flatMap Opd.locs)++(match i.guard with|some (g,_)=>[g]|none=>[]) ++
 (match i.op with
  | .append _ _ _ (.loc j) _=>(match ais[j]? with|some a=>a.op.opds.flatMap Opd.locs|none=>[])
  | .appendN _ _ (.loc j) _=>(match ais[j]? with|some a=>a.op.opds.flatMap Opd.locs|none=>[])
  |_=>[])
def usesT (i:AIns):List Nat:=i.op.opds.flatMap Opd.slots
theorem map_congr_mem {α β:Type}{f g:α→β}{l:List α}(h:∀ x,x ∈ l→f x=g x):l.map f=l.map g:=List.map_congr_left h
theorem parts_congr {ρ ρ' :Opd→AVal}{ps:List (Nat×Nat×Opd)}(h:∀ x,x ∈ ps.map (·.2.2)→ρ' x=ρ x):(ps.map fun (o,s,x)=>(o,s,ρ' x))=ps.map fun (o,s,x)=>(o,s,ρ x):=by
 refine List.map_congr_left ?_
 rintro ⟨o,s,x⟩ hm
 simp only
 rw [h x (List.mem_map.2 ⟨(o,s,x),hm,rfl⟩)]
theorem bound_congr {ρ ρ' :Opd→AVal}{d:Nat}{o:Option Opd}(h:∀ x,x ∈ o.toList→ρ' x=ρ x):bound? ρ' d o=bound? ρ d o:=by
 cases o with
 |none=>rfl
 |some x=>simp only [bound?];rw [h x (by simp)]
theorem pureOp_congr {ρ ρ' :Opd→AVal}{H:Heap}{op:AOp}(h:∀ x,x ∈ op.opds→ρ' x=ρ x):pureOp ρ' H op=pureOp ρ H op:=by
 cases op<;>simp only [AOp.opds] at h
 case build=>simp only [pureOp,parts_congr h]
 case bslice sz len zero parts ob=>cases ob<;>simp only [pureOp,parts_congr h]
 case minmax isMax xs=>simp only [pureOp,map_congr_mem h]
 case mkfunc f first caps =>
  simp only [pureOp]
  rw [map_congr_mem (l:=first) fun x hx=>h x (by simp [hx]),map_congr_mem (l:=caps) fun x hx=>h x (by simp [hx])]
 case sliceS x lo hi =>
  have h1:=h x (by simp)
  have h2:∀ d,bound? ρ' d lo=bound? ρ d lo:=fun d=>bound_congr fun y hy=>h y (by simp at hy ⊢;simp [hy])
  have h3:∀ d,bound? ρ' d hi=bound? ρ d hi:=fun d=>bound_congr fun y hy=>h y (by simp at hy ⊢;simp [hy])
  simp only [pureOp,h1,h2,h3]
 case sliceV sz x lo hi =>
  have h1:=h x (by simp)
  have h2:∀ d,bound? ρ' d lo=bound? ρ d lo:=fun d=>bound_congr fun y hy=>h y (by simp at hy ⊢;simp [hy])
  have h3:∀ d,bound? ρ' d hi=bound? ρ d hi:=fun d=>bound_congr fun y hy=>h y (by simp at hy ⊢;simp [hy])
  simp only [pureOp,h1,h2,h3]
 case load n x=>cases n<;>simp only [pureOp,h x (by simp)]
 case pick c a b=>simp only [pureOp,h c (by simp),h a (by simp),h b (by simp)]
 case bin b x y=>simp only [pureOp,h x (by simp),h y (by simp)]
 case eqB b x y=>simp only [pureOp,h x (by simp),h y (by simp)]
 case eqS b ks x y=>simp only [pureOp,h x (by simp),h y (by simp)]
 case idxA s x y=>simp only [pureOp,h x (by simp),h y (by simp)]
 case idxP n s x y=>simp only [pureOp,h x (by simp),h y (by simp)]
 case idxS x y=>simp only [pureOp,h x (by simp),h y (by simp)]
 case lookup kk z ok x y=>simp only [pureOp,h x (by simp),h y (by simp)]
 case nilck x=>simp only [pureOp,h x (by simp)]
 case un b x=>simp only [pureOp,h x (by simp)]
 case nilS b x=>simp only [pureOp,h x (by simp)]
 case nilI b x=>simp only [pureOp,h x (by simp)]
 case convI k x=>simp only [pureOp,h x (by simp)]
 case convId x=>simp only [pureOp,h x (by simp)]
 case convSB x=>simp only [pureOp,h x (by simp)]
 case convBS x=>simp only [pureOp,h x (by simp)]
 case off k x=>simp only [pureOp,h x (by simp)]
 case extract x i=>simp only [pureOp,h x (by simp)]
 case len x=>simp only [pureOp,h x (by simp)]
 case lenT x=>simp only [pureOp,h x (by simp)]
 case lenM x=>simp only [pureOp,h x (by simp)]
 all_goals rfl
def ObjEq:Option AObj→Option AObj→Prop
 |some (.cells l),some (.cells l')=>l.map AVal.asD=l'.map AVal.asD
 |a,b=>a=b
theorem ObjEq.refl (o:Option AObj):ObjEq o o:=by
 cases o with
 |none=>rfl
 |some o=>cases o<;>simp [ObjEq]
theorem ObjEq.symm {a b:Option AObj}(h:ObjEq a b):ObjEq b a:=by
 unfold ObjEq at h ⊢
 split at h
 ·exact h.symm
 ·rename_i hne
  split
  ·rename_i l l'
   exact absurd rfl (hne l' l rfl)
  ·exact h.symm
theorem ObjEq.trans {a b c:Option AObj}(h:ObjEq a b)(k:ObjEq b c):ObjEq a c:=by
 cases a with
 |none =>
  have:b=none:=by
   cases b with
   |none=>rfl
   |some o=>simp [ObjEq] at h
  subst this;exact k
 |some oa =>
  cases b with
  |none=>simp [ObjEq] at h
  |some ob =>
   cases c with
   |none=>simp [ObjEq] at k
   |some oc =>
    cases oa<;>cases ob<;>cases oc<;>simp_all [ObjEq]
theorem asD_asD (v:AVal):v.asD.asD=v.asD:=by cases v<;>rfl
theorem rd_eq {H H' :Heap}{id off n:Nat}(h:ObjEq H'[id]? H[id]?){vs:List AVal}(hr:rd H id off n=some vs):∃ vs',rd H' id off n=some vs' ∧vs'.map AVal.asD=vs.map AVal.asD:=by
 unfold rd at hr ⊢
 split at hr
 ·rename_i l hl
  split at hr
  ·rename_i hlen
   cases hr
   rw [hl] at h
   cases h' :H'[id]? with
   |none=>rw [h'] at h;simp [ObjEq] at h
   |some o =>
    rw [h'] at h
    cases o with
    |cells l' =>
     have h:l'.map AVal.asD=l.map AVal.asD:=by simpa [ObjEq] using h
     have hll:l'.length=l.length:=by simpa using congrArg List.length h
     refine ⟨(l'.drop off).take n,by simp [hll,hlen],?_⟩
     have:=congrArg (fun x=>(x.drop off).take n) h
     simpa [List.map_drop,List.map_take] using this
    |dead=>simp [ObjEq] at h
    |map es=>simp [ObjEq] at h
  ·cases hr
 ·cases hr
theorem pureOp_heap {ρ:Opd→AVal}{H H' :Heap}{op:AOp}{v:AVal}{rs:List Nat}(h:pureOp ρ H op=some (v,rs))(hr:∀ id,id ∈ rs→ObjEq H'[id]? H[id]?):pureOp ρ H' op=some (v,rs):=by
 cases op
 case load n x =>
  cases n with
  |none =>
   simp only [pureOp] at h ⊢
   split at h
   ·rename_i id off hp
    split at h
    ·rename_i u hu
     cases h
     obtain ⟨vs',h1,h2⟩:=rd_eq (hr id (by simp)) hu
     obtain ⟨u',rfl⟩:∃ u',vs' =[u']:=by
      have:=congrArg List.length h2
      simp at this
      exact List.length_eq_one_iff.1 this
     simp at h2
     simp only [h1,h2]
    ·cases h
   ·exact h
   ·cases h
  |some n =>
   simp only [pureOp] at h ⊢
   split at h
   ·rename_i id off hp
    split at h
    ·rename_i us hu
     cases h
     obtain ⟨vs',h1,h2⟩:=rd_eq (hr id (by simp)) hu
     simp only [h1,h2]
    ·cases h
   ·exact h
   ·cases h
 case lenM x =>
  simp only [pureOp] at h ⊢
  split at h
  ·exact h
  ·rename_i id hp
   split at h
   ·rename_i es hes
    cases h
    have:=hr id (by simp)
    rw [hes] at this
    have h' :H'[id]? =some (.map es):=by
     cases h' :H'[id]? with
     |none=>rw [h'] at this;simp [ObjEq] at this
     |some o=>rw [h'] at this;cases o<;>simp_all [ObjEq]
    simp only [h']
   ·cases h
  ·cases h
 case lookup kk zero ok m k =>
  simp only [pureOp] at h ⊢
  split at h
  ·rename_i id key hp hq
   split at h
   ·rename_i es hes
    split at h
    ·rename_i hf hft
     cases h
     have:=hr id (by simp)
     rw [hes] at this
     have h' :H'[id]? =some (.map es):=by
      cases h' :H'[id]? with
      |none=>rw [h'] at this;simp [ObjEq] at this
      |some o=>rw [h'] at this;cases o<;>simp_all [ObjEq]
     simp only [h',hf,hft]
    ·cases h
   ·cases h
  ·exact h
  ·cases h
 case bslice sz len zero parts ob=>cases ob<;>exact h
 all_goals exact h
structure Still (k:Nat)(dst nid:Option Nat)(d:List Touch)(st st' :RSt):Prop where
 L:∀ m,m≠k→(st'.L.getD m .any).asD=(st.L.getD m .any).asD
 Gb:∀ m,m≠k→∀ b,st'.L[m]? =some (AVal.d (.bool b))↔st.L[m]? =some (AVal.d (.bool b))
 Gt:∀ m,m≠k→(st'.L[m]? =some (AVal.tuple [])↔st.L[m]? =some (AVal.tuple []))
 T:∀ s,dst≠some s→(st'.T.getD s .any).asD=(st.T.getD s .any).asD
 tch:st'.tch=d++st.tch
 H:∀ id:Nat,d.any (Touch.objHit id)=false→nid≠some id→ObjEq st'.H[id]? st.H[id]?
 lenH:st.H.length≤st'.H.length
 lenL:st'.L.length=st.L.length
 lenT:st'.T.length=st.T.length
section
variable {k:Nat} {dst nid:Option Nat} {d d1 d2:List Touch} {st st1 st' :RSt}
theorem Still.refl (k:Nat)(dst nid:Option Nat)(st:RSt):Still k dst nid [] st st :=
 ⟨fun _ _=>rfl,fun _ _ _=>Iff.rfl,fun _ _=>Iff.rfl,fun _ _=>rfl,rfl,fun _ _ _=>ObjEq.refl _,Nat.le_refl _,rfl,rfl⟩
theorem Still.trans (h:Still k dst nid d1 st st1)(g:Still k dst nid d2 st1 st'):Still k dst nid (d2++d1) st st' where
 L m hm:=(g.L m hm).trans (h.L m hm)
 Gb m hm b:=(g.Gb m hm b).trans (h.Gb m hm b)
 Gt m hm:=(g.Gt m hm).trans (h.Gt m hm)
 T s hs:=(g.T s hs).trans (h.T s hs)
 tch:=by rw [g.tch,h.tch,List.append_assoc]
 H id hd hn:=by
  simp only [List.any_append,Bool.or_eq_false_iff] at hd
  exact (g.H id hd.1 hn).trans (h.H id hd.2 hn)
 lenH:=Nat.le_trans h.lenH g.lenH
 lenL:=g.lenL.trans h.lenL
 lenT:=g.lenT.trans h.lenT
theorem Still.put (v:AVal):Still k dst nid [] st (put st k v) where
 L m hm:=by simp only [Abs.put];rw [getD_set_other _ _ _ _ _ (fun e=>hm e.symm)]
 Gb m hm b:=by simp only [Abs.put];rw [List.getElem?_set_ne (fun e=>hm e.symm)]
 Gt m hm:=by simp only [Abs.put];rw [List.getElem?_set_ne (fun e=>hm e.symm)]
 T _ _:=rfl
 tch:=rfl
 H _ _ _:=ObjEq.refl _
 lenH:=Nat.le_refl _
 lenL:=by simp [Abs.put]
 lenT:=rfl
theorem Still.ownL {j z n:Nat}{c:List Data}(hj:st.L[j]? =some (.own z n c)):Still k dst nid [] st { st with L:=st.L.set j (.d (.slice n c)) } where
 L m _:=by
  simp only
  by_cases e:j=m
  ·subst e
   rw [getD_set_same _ _ _ _ (lt_of_getElem? hj),getD_of hj];rfl
  ·rw [getD_set_other _ _ _ _ _ e]
 Gb m _ b:=by
  simp only
  by_cases e:j=m
  ·subst e
   rw [List.getElem?_set_self (lt_of_getElem? hj),hj];simp
  ·rw [List.getElem?_set_ne e]
 Gt m _:=by
  simp only
  by_cases e:j=m
  ·subst e
   rw [List.getElem?_set_self (lt_of_getElem? hj),hj];simp
  ·rw [List.getElem?_set_ne e]
 T _ _:=rfl
 tch:=rfl
 H _ _ _:=ObjEq.refl _
 lenH:=Nat.le_refl _
 lenL:=by simp
 lenT:=rfl
theorem Still.xfer (y:Opd):Still k dst nid [] st (xfer st y).2:=by
 cases y with
 |loc j =>
  simp only [Abs.xfer]
  split
  ·rename_i hj
   exact Still.ownL hj
  ·exact Still.refl _ _ _ _
  ·exact Still.refl _ _ _ _
 |slot s=>exact Still.refl _ _ _ _
 |const v=>exact Still.refl _ _ _ _
theorem Still.heap {H' :Heap}(h2:∀ id:Nat,d.any (Touch.objHit id)=false→nid≠some id→ObjEq H'[id]? st.H[id]?)(hl:st.H.length≤H'.length):Still k dst nid d st { st with H:=H',tch:=d++st.tch } :=
 ⟨fun _ _=>rfl,fun _ _ _=>Iff.rfl,fun _ _=>Iff.rfl,fun _ _=>rfl,rfl,h2,hl,rfl,rfl⟩
theorem Still.newObj {i:Nat}(o:AObj):Still k dst (some i) [] st (newObjA st (some i) o) :=
 ⟨fun _ _=>rfl,fun _ _ _=>Iff.rfl,fun _ _=>Iff.rfl,fun _ _=>rfl,rfl,fun id _ hn=>by
  simp only [newObjA]
  rw [List.getElem?_set_ne (fun e=>hn (by rw [e]))]
  exact ObjEq.refl _,(by simp [newObjA]),rfl,rfl⟩
theorem Still.takeVia {l:Lim}{sz len:Nat}{cells:List Data}{op:AOp}(h:takeVia l st sz op=some (len,cells,st')):∃ d,Still k dst nid d st st' :=by
 unfold Abs.takeVia at h
 split at h
 ·rename_i s
  split at h
  ·cases h
  ·split at h
   ·rename_i hs
    split at h
    ·cases h
     refine ⟨[.slot s],fun _ _=>rfl,fun _ _ _=>Iff.rfl,fun _ _=>Iff.rfl,fun s' _=> ?_,rfl,fun _ _ _=>ObjEq.refl _,Nat.le_refl _,rfl,by simp⟩
     simp only
     by_cases e:s=s'
     ·subst e
      rw [getD_set_same _ _ _ _ (lt_of_getElem? hs),getD_of hs];rfl
     ·rw [getD_set_other _ _ _ _ _ e]
    ·cases h
   ·cases h
 ·split at h
  ·rename_i id off hptr
   split at h
   ·cases h
   ·split at h
    ·rename_i cs hcs
     split at h
     ·rename_i hco
      split at h
      ·cases h
       refine ⟨[.cell id off],Still.heap (fun id' _ _=> ?_) (by simp)⟩
       by_cases he:id=id'
       ·subst he
        rw [List.getElem?_set_self (lt_of_getElem? hcs),hcs]
        simp only [ObjEq]
        apply List.ext_getElem?
        intro n
        simp only [List.getElem?_map]
        by_cases e:off=n
        ·subst e
         rw [List.getElem?_set_self (lt_of_getElem? hco),hco];rfl
        ·rw [List.getElem?_set_ne e]
       ·rw [List.getElem?_set_ne he];exact ObjEq.refl _
      ·cases h
     ·cases h
    ·cases h
  ·cases h
 ·cases h
theorem Still.takeOwn {l:Lim}{ais:List AIns}{sz len:Nat}{cells:List Data}{y:Opd}(h:takeOwn l ais st sz y=some (len,cells,st')):∃ d,Still k dst nid d st st' :=by
 unfold Abs.takeOwn at h
 split at h
 ·split at h
  ·cases h;exact ⟨[],Still.refl _ _ _ _⟩
  ·cases h
 ·cases h
 ·cases h
 ·split at h
  ·rename_i hj
   split at h
   ·cases h
    exact ⟨[],Still.ownL hj⟩
   ·cases h
  ·split at h
   ·exact Still.takeVia h
   ·cases h
  ·cases h
theorem Still.callEff {E:Env}{f:FuncId}{args:List AVal}(h:callEff E k f args st=some st'):∃ d,Still k dst none d st st' :=by
 unfold Abs.callEff at h
 split at h
 ·split at h
  ·rename_i v H1 _
   split at h
   ·rename_i hlen
    cases h
    refine ⟨[]++[.below H1.length],Still.trans (Still.heap (fun id hd _=> ?_) hlen) (Still.put _)⟩
    simp [Touch.objHit] at hd
    rw [List.getElem?_eq_none (by omega),List.getElem?_eq_none (by omega)]
    exact ObjEq.refl _
   ·cases h
  ·cases h
 ·simp only at h
  generalize closeN st.H E.lim.strict 8 (bndL args)=n at h
  generalize (args.headD .any).bnd=m at h
  split at h
  ·rename_i hcond
   split at h
   ·split at h
    ·split at h
     ·rename_i hlen
      cases h
      refine ⟨[]++[.below n],Still.trans (Still.heap (fun id hd _=> ?_) (by simp;omega)) (Still.put _)⟩
      simp [Touch.objHit] at hd
      rw [List.getElem?_append_right (by omega),List.getElem?_drop,hlen,show n+(id - n)=id from by omega]
      exact ObjEq.refl _
     ·cases h
    ·cases h
   ·split at h
    ·split at h
     ·cases h
      exact ⟨_,Still.put _⟩
     ·cases h
    ·cases h
   ·split at h
    ·split at h
     ·rename_i H1 _ hlen
      cases h
      refine ⟨[]++[.below m],Still.trans (Still.heap (fun id hd _=> ?_) (by simp;omega)) (Still.put _)⟩
      simp [Touch.objHit] at hd
      rw [List.getElem?_append_right (by simp;omega),List.getElem?_drop,show m+(id - (List.take m H1).length)=id from by simp;omega]
      exact ObjEq.refl _
     ·cases h
    ·cases h
  ·cases h
theorem wr_len {H H' :Heap}{id off:Nat}{vs:List AVal}(h:wr H id off vs=some H'):H'.length=H.length:=by
 unfold wr at h
 split at h
 ·split at h
  ·cases h;simp
  ·cases h
 ·cases h
theorem Still.storeEff {E:Env}{n:Nat}{a:AVal}{x:Opd}(h:storeEff E k n st a x=some st'):∃ d,Still k dst none d st st' :=by
 unfold Abs.storeEff at h
 split at h
 ·rename_i id off
  split at h
  ·split at h
   ·split at h
    ·rename_i H' hw
     cases h
     refine ⟨[]++([.obj id]++[]),Still.trans (Still.trans (Still.xfer x) (Still.heap (fun id' hd _=> ?_) (by rw [wr_len hw];exact Nat.le_refl _))) (Still.put _)⟩
     rw [wr_other hw ?_]
     ·exact ObjEq.refl _
     ·rintro rfl
      simp [Touch.objHit] at hd
    ·cases h
   ·cases h
  ·cases h
 ·cases h
theorem Still.clearEff {E:Env}{sz:Nat}{zero:List AVal}{a:AVal}(h:clearEff E k sz zero st a=some st'):∃ d,Still k dst none d st st' :=by
 unfold Abs.clearEff at h
 split at h
 ·rename_i id z lo len
  split at h
  ·split at h
   ·rename_i H' hw
    cases h
    refine ⟨[]++[.obj id],Still.trans (Still.heap (fun id' hd _=> ?_) (by rw [wr_len hw];exact Nat.le_refl _)) (Still.put _)⟩
    rw [wr_other hw ?_]
    ·exact ObjEq.refl _
    ·rintro rfl
     simp [Touch.objHit] at hd
   ·cases h
  ·cases h
 ·cases h
  exact ⟨_,Still.put _⟩
 ·cases h
theorem Still.mapSetEff {E:Env}{kk:KK}{m key v:AVal}(h:mapSetEff E k kk st m key v=some st'):∃ d,Still k dst none d st st' :=by
 unfold Abs.mapSetEff at h
 split at h
 ·rename_i id kd _
  split at h
  ·split at h
   ·split at h
    ·split at h
     ·cases h
      refine ⟨[]++[.obj id],Still.trans (Still.heap (fun id' hd _=> ?_) (by simp)) (Still.put _)⟩
      rw [List.getElem?_set_ne]
      ·exact ObjEq.refl _
      ·rintro rfl
       simp [Touch.objHit] at hd
     ·cases h
    ·cases h
   ·cases h
  ·cases h
 ·cases h
theorem Still.effOp {E:Env}{ais:List AIns}{op:AOp}(hk:killing st op=false)(hn:nid.isSome=op.isAlloc)(h:effOp E ais nid k st op=some st'):∃ d,Still k dst nid d st st' :=by
 cases op<;>simp only [Abs.effOp] at h<;>try (cases h;done)
 all_goals (simp only [AOp.isAlloc] at hn)
 case alloc zero =>
  obtain ⟨i,rfl⟩:=Option.isSome_iff_exists.1 hn
  cases h;exact ⟨_,(Still.newObj _).trans (Still.put _)⟩
 case box x =>
  obtain ⟨i,rfl⟩:=Option.isSome_iff_exists.1 hn
  split at h
  ·cases h;exact ⟨_,(Still.newObj _).trans (Still.put _)⟩
  ·cases h
 case makeMap =>
  obtain ⟨i,rfl⟩:=Option.isSome_iff_exists.1 hn
  cases h;exact ⟨_,(Still.newObj _).trans (Still.put _)⟩
 case makeS sz zero x y =>
  obtain ⟨i,rfl⟩:=Option.isSome_iff_exists.1 hn
  split at h
  ·cases h;exact ⟨_,(Still.newObj _).trans (Still.put _)⟩
  ·cases h
 case bslice sz len zero parts ob =>
  cases ob
  ·cases h
  ·obtain ⟨i,rfl⟩:=Option.isSome_iff_exists.1 hn
   simp only at h
   split at h
   ·split at h
    ·cases h;exact ⟨_,(Still.newObj _).trans (Still.put _)⟩
    ·cases h
   ·cases h
 case store n a x =>
  have:nid=none:=by simpa using hn
  subst this;exact Still.storeEff h
 case appendN sz bytes x y =>
  split at h
  ·split at h
   ·obtain ⟨i,rfl⟩:=Option.isSome_iff_exists.1 hn
    rename_i id _ _ _ _ _
    unfold Abs.appendNew at h
    split at h
    ·split at h
     ·split at h
      ·cases h
       refine ⟨[]++([]++[.obj id]),Still.trans (Still.trans (Still.heap (fun id' hd _=> ?_) (by simp)) (Still.newObj _)) (Still.put _)⟩
       rw [List.getElem?_set_ne]
       ·exact ObjEq.refl _
       ·rintro rfl
        simp [Touch.objHit] at hd
      ·cases h
     ·cases h
    ·cases h
   ·cases h
  ·obtain ⟨i,rfl⟩:=Option.isSome_iff_exists.1 hn
   unfold Abs.appendOwn at h
   simp only [if_true] at h
   split at h
   ·split at h
    ·split at h
     ·cases h;exact ⟨_,Still.put _⟩
     ·cases h;exact ⟨_,(Still.newObj _).trans (Still.put _)⟩
    ·cases h
   ·cases h
 case append sz bytes ob x y =>
  split at h
  ·rename_i hx
   simp [killing,hx] at hk
  ·cases ob with
   |true =>
    obtain ⟨i,rfl⟩:=Option.isSome_iff_exists.1 hn
    unfold Abs.appendOwn at h
    simp only [if_true] at h
    split at h
    ·split at h
     ·split at h
      ·cases h;exact ⟨_,Still.put _⟩
      ·cases h;exact ⟨_,(Still.newObj _).trans (Still.put _)⟩
     ·cases h
    ·cases h
   |false =>
    have:nid=none:=by simpa using hn
    subst this
    unfold Abs.appendOwn at h
    simp only [Bool.false_eq_true,if_false] at h
    split at h
    ·split at h
     ·split at h
      ·rename_i ht
       split at h
       ·cases h
        obtain ⟨d,hd⟩:=Still.takeOwn (k:=k) (dst:=dst) (nid:=none) ht
        exact ⟨_,hd.trans (Still.put _)⟩
       ·cases h
      ·cases h
     ·cases h
    ·cases h
 case clear sz zero x =>
  have:nid=none:=by simpa using hn
  subst this;exact Still.clearEff h
 case call f xs =>
  have:nid=none:=by simpa using hn
  subst this;exact Still.callEff h
 case callv x xs =>
  have:nid=none:=by simpa using hn
  subst this
  split at h
  ·exact Still.callEff h
  ·cases h
 case mapSet =>
  have:nid=none:=by simpa using hn
  subst this;exact Still.mapSetEff h
 case defer x =>
  split at h
  ·split at h
   ·cases h;exact ⟨_,Still.put _⟩
   ·cases h
  ·cases h
theorem Still.toSlot {nid' :Option Nat}(h:toSlotX nid' st k dst=some st'):∃ d,Still k dst nid d st st' :=by
 rcases toSlotX_cases h with ⟨_,rfl⟩|⟨s,tch,rfl,_,rfl,htch⟩
 ·exact ⟨_,Still.refl _ _ _ _⟩
 ·have hx:=Still.xfer (k:=k) (dst:=some s) (nid:=nid) (st:=st) (.loc k)
  have key:∀ d,tch=d++st.tch→Still k (some s) nid d st { (Abs.xfer st (.loc k)).2 with T:=st.T.set s (Abs.xfer st (.loc k)).1,tch }:=by
   intro d hd
   refine ⟨hx.L,hx.Gb,hx.Gt,fun s' hs=> ?_,hd,fun id _ hn=>hx.H id rfl hn,hx.lenH,hx.lenL,by simp⟩
   simp only
   rw [getD_set_other _ _ _ _ _ (fun e=>hs (by rw [e]))]
  rcases htch with rfl|⟨rfl,_⟩
  ·exact ⟨[.slot s],key _ rfl⟩
  ·exact ⟨[],key _ rfl⟩
theorem Still.stepA {E:Env}{ais:List AIns}{i:AIns}{rs:List Nat}(hk:killing st i.op=false)(hn:nid.isSome=i.op.isAlloc)(h:stepA E ais nid k i st=some (st',rs)):∃ d,Still k i.dst nid d st st' :=by
 unfold Abs.stepA at h
 split at h
 ·split at h
  ·rename_i st1 rs1 hW
   split at h
   ·rename_i st2 hts
    cases h
    have h1:∃ d,Still k i.dst nid d st st1:=by
     unfold Abs.stepW at hW
     split at hW
     ·split at hW
      ·rename_i he
       cases hW
       exact Still.effOp hk hn he
      ·cases hW
     ·split at hW
      ·cases hW
       exact ⟨_,(Still.xfer _).trans (Still.put _)⟩
      ·split at hW
       ·cases hW
        exact ⟨_,Still.put _⟩
       ·cases hW
    obtain ⟨d1,h1⟩:=h1
    obtain ⟨d2,h2⟩:=Still.toSlot (nid:=nid) hts
    exact ⟨_,h1.trans h2⟩
   ·cases h
  ·cases h
 ·split at h
  ·rename_i hts
   cases h
   obtain ⟨d2,h2⟩:=Still.toSlot (nid:=nid) hts
   exact ⟨_,(Still.put _).trans h2⟩
  ·cases h
 ·cases h
theorem Still.rho (h:Still k dst nid d st st'){x:Opd}(hl:k ∉ x.locs)(ht:∀ s,s ∈ x.slots→dst≠some s):rho st'.T st'.L x=rho st.T st.L x:=by
 cases x with
 |loc j =>
  simp only [Abs.rho]
  exact h.L j (fun e=>hl (by simp [Opd.locs,e]))
 |slot s =>
  simp only [Abs.rho]
  exact h.T s (ht s (by simp [Opd.slots]))
 |const v=>rfl
theorem Still.wanted (h:Still k dst nid d st st'){g:Option (Nat×Bool)}(hg:∀ j b,g=some (j,b)→j≠k):wantedA st'.L g=wantedA st.L g:=by
 cases g with
 |none=>rfl
 |some p =>
  obtain ⟨j,want⟩:=p
  have hj:=hg j want rfl
  have h1:=h.Gb j hj
  have h2:=h.Gt j hj
  simp only [wantedA]
  split
  ·rename_i b hb
   rw [(h1 b).1 hb]
  ·rename_i hb
   rw [h2.1 hb]
  ·rename_i n1 n2
   split
   ·rename_i b hb
    exact absurd ((h1 b).2 hb) (n1 b)
   ·rename_i hb
    exact absurd (h2.2 hb) n2
   ·rfl
theorem Still.hits {E:Env}{i:AIns}{rs:List Nat}(h:Still k dst nid d st st'):(logOf E i nid st st' rs).hits=newHit nid++d:=by
 simp only [logOf,h.tch]
 simp
theorem Still.reads {E:Env}{i:AIns}{rs:List Nat}(h:Still k dst nid d st st'){ids:List Nat}(hh:hitsObj (logOf E i nid st st' rs).hits ids=false){id:Nat}(hid:id ∈ ids):ObjEq st'.H[id]? st.H[id]? :=by
 rw [h.hits] at hh
 unfold hitsObj at hh
 have hno:∀ t,t ∈ (newHit nid++d:List Touch)→t.objHit id=false:=by
  intro t ht
  rw [List.any_eq_false] at hh
  have h1:=hh t ht
  simp only [Bool.not_eq_true] at h1
  rw [List.any_eq_false] at h1
  simpa using h1 id hid
 refine h.H id ?_ ?_
 ·rw [List.any_eq_false]
  intro t ht
  rw [hno t (by simp [ht])];simp
 ·rintro rfl
  have:=hno (.obj id) (by simp [newHit])
  simp [Touch.objHit] at this
end
end Go.Abs
namespace Go.Abs
section
variable {E:Env} {ais:List AIns} {nid:Option Nat} {k q:Nat} {v:AVal} {st st1 st2 st' :RSt}
theorem rho_put {x:Opd}(h:q ∉ x.locs):rho (put st q v).T (put st q v).L x=rho st.T st.L x:=by
 cases x with
 |loc j =>
  simp only [rho,put]
  rw [getD_set_other _ _ _ _ _ (fun e=>h (by simp [Opd.locs,e]))]
 |slot s=>rfl
 |const c=>rfl
theorem put_comm (h:q≠k)(u:AVal):put (put st q v) k u=put (put st k u) q v:=by
 simp only [put]
 congr 1
 exact List.set_comm _ _ h
theorem set_get_ne {l:List AVal}{q j:Nat}(h:q≠j)(v:AVal):(l.set q v)[j]? =l[j]? :=List.getElem?_set_ne h
theorem xfer_put {x:Opd}(h:q ∉ x.locs):xfer (put st q v) x=((xfer st x).1,put (xfer st x).2 q v):=by
 cases x with
 |loc j =>
  have hj:q≠j:=fun e=>h (by simp [Opd.locs,e])
  simp only [xfer,put,set_get_ne hj]
  cases hl:st.L[j]? with
  |none=>simp only [rho,List.getD,set_get_ne hj]
  |some a =>
   cases a<;>simp only [rho,List.getD,set_get_ne hj]
   rw [List.set_comm _ _ hj]
 |slot s=>rfl
 |const c=>rfl
theorem newObjA_put (o:AObj):newObjA (put st q v) nid o=put (newObjA st nid o) q v:=by cases nid<;>rfl
theorem newId_put:newId (put st q v) nid=newId st nid:=rfl
theorem ptrOf_put {x:Opd}(h:q ∉ x.locs):ptrOf (put st q v) x=ptrOf st x:=by
 cases x with
 |loc j =>
  have hj:q≠j:=fun e=>h (by simp [Opd.locs,e])
  simp only [ptrOf,put,set_get_ne hj]
 |slot s=>rfl
 |const c=>rfl
theorem takeVia_put {l:Lim}{sz:Nat}{op:AOp}(h:q ∉ op.opds.flatMap Opd.locs):takeVia l (put st q v) sz op=(takeVia l st sz op).map fun p=>(p.1,p.2.1,put p.2.2 q v):=by
 unfold takeVia
 split
 ·rename_i s
  have e1:(put st q v).tch=st.tch:=rfl
  have e2:(put st q v).T=st.T:=rfl
  simp only [e1,e2]
  split
  ·rfl
  ·split
   ·split
    ·rfl
    ·rfl
   ·rfl
 ·rename_i x
  have hx:q ∉ x.locs:=fun e=>h (by simp [AOp.opds,e])
  rw [ptrOf_put hx]
  have e1:(put st q v).tch=st.tch:=rfl
  have e2:(put st q v).H=st.H:=rfl
  split
  ·simp only [e1,e2]
   split
   ·rfl
   ·split
    ·split
     ·split
      ·rfl
      ·rfl
     ·rfl
    ·rfl
  ·rfl
 ·rfl
theorem takeOwn_put {l:Lim}{sz:Nat}{x:Opd}(h:q ∉ x.locs)(h2:∀ j a,x= .loc j→ais[j]? =some a→q ∉ a.op.opds.flatMap Opd.locs) :
  takeOwn l ais (put st q v) sz x=(takeOwn l ais st sz x).map fun p=>(p.1,p.2.1,put p.2.2 q v):=by
 cases x with
 |const c =>
  unfold takeOwn
  cases c<;>first|rfl|skip
  simp only
  split<;>rfl
 |slot s=>rfl
 |loc j =>
  have hj:q≠j:=fun e=>h (by simp [Opd.locs,e])
  have e:(put st q v).L[j]? =st.L[j]? :=by simp only [put];exact set_get_ne hj v
  simp only [takeOwn]
  rw [e]
  cases hl:st.L[j]? with
  |none=>rfl
  |some b =>
   cases b with
   |own z len cells =>
    simp only
    split
    ·simp only [put,Option.map_some]
     rw [List.set_comm _ _ hj]
    ·rfl
   |d x =>
    cases x with
    |slice n c =>
     simp only
     cases ha:ais[j]? with
     |none=>rfl
     |some a=>exact takeVia_put (h2 j a rfl ha)
    |_=>rfl
   |_=>rfl
theorem callEff_put (h:q≠k){f:FuncId}{args:List AVal}:callEff E k f args (put st q v)=(callEff E k f args st).map fun s=>put s q v:=by
 have e1:(put st q v).H=st.H:=rfl
 have e2:(put st q v).tch=st.tch:=rfl
 have key:∀ (H:Heap) (t:List Touch) (u:AVal),put { put st q v with H:=H,tch:=t } k u=put (put { st with H:=H,tch:=t } k u) q v:=by
  intro H t u
  simp only [put]
  congr 1
  exact List.set_comm _ _ h
 unfold callEff
 simp only [e1,e2]
 split
 ·split
  ·split
   ·rw [key];rfl
   ·rfl
  ·rfl
 ·split
  ·split
   ·split
    ·split
     ·rw [key];rfl
     ·rfl
    ·rfl
   ·split
    ·split
     ·simp only [Option.map_some,put_comm h]
     ·rfl
    ·rfl
   ·split
    ·split
     ·rw [key];rfl
     ·rfl
    ·rfl
  ·rfl
theorem storeEff_put (h:q≠k){n:Nat}{a:AVal}{x:Opd}(hx:q ∉ x.locs):storeEff E k n (put st q v) a x=(storeEff E k n st a x).map fun s=>put s q v:=by
 unfold storeEff
 simp only [xfer_put hx]
 cases a with
 |ptr id off =>
  simp only
  split
  ·split
   ·have e:(put (xfer st x).2 q v).H=(xfer st x).2.H:=rfl
    rw [e]
    split
    ·simp only [put,Option.map_some]
     congr 2
     exact List.set_comm _ _ h
    ·rfl
   ·rfl
  ·rfl
 |_=>rfl
theorem clearEff_put (h:q≠k){sz:Nat}{zero:List AVal}{a:AVal}:clearEff E k sz zero (put st q v) a=(clearEff E k sz zero st a).map fun s=>put s q v:=by
 have e:(put st q v).H=st.H:=rfl
 unfold clearEff
 split
 ·split
  ·rw [e]
   split
   ·simp only [put,Option.map_some]
    congr 2
    exact List.set_comm _ _ h
   ·rfl
  ·rfl
 ·simp only [Option.map_some,put_comm h]
 ·rfl
theorem mapSetEff_put (h:q≠k){kk:KK}{m key x:AVal}:mapSetEff E k kk (put st q v) m key x=(mapSetEff E k kk st m key x).map fun s=>put s q v:=by
 have e:(put st q v).H=st.H:=rfl
 unfold mapSetEff
 split
 ·rw [e]
  split
  ·split
   ·split
    ·split
     ·simp only [put,Option.map_some]
      congr 2
      exact List.set_comm _ _ h
     ·rfl
    ·rfl
   ·rfl
  ·rfl
 ·rfl
theorem nilVia_put {l:Lim}{op:AOp}(h:q ∉ op.opds.flatMap Opd.locs):nilVia l (put st q v) op=nilVia l st op:=by
 unfold nilVia
 split
 ·rfl
 ·rename_i x
  have hx:q ∉ x.locs:=fun e=>h (by simp [AOp.opds,e])
  rw [ptrOf_put hx]
  rfl
 ·rfl
theorem isNil_put {l:Lim}{x:Opd}(h:q ∉ x.locs)(h2:∀ j a,x= .loc j→ais[j]? =some a→q ∉ a.op.opds.flatMap Opd.locs):isNil l ais (put st q v) x=isNil l ais st x:=by
 cases x with
 |const c=>cases c<;>rfl
 |slot s=>rfl
 |loc j =>
  have hj:q≠j:=fun e=>h (by simp [Opd.locs,e])
  have e:(put st q v).L[j]? =st.L[j]? :=by simp only [put];exact set_get_ne hj v
  simp only [isNil]
  rw [e]
  cases ha:ais[j]? with
  |none=>rfl
  |some a=>simp only [nilVia_put (h2 j a rfl ha)]
theorem appendOwn_put (h:q≠k){sz bytes:Nat}{ob:Bool}{x:Opd}{y:AVal}(hx:q ∉ x.locs)(h2:∀ j a,x= .loc j→ais[j]? =some a→q ∉ a.op.opds.flatMap Opd.locs) :
  appendOwn E ais nid k sz bytes ob (put st q v) x y=(appendOwn E ais nid k sz bytes ob st x y).map fun s=>put s q v:=by
 have e:(put st q v).H=st.H:=rfl
 unfold appendOwn
 rw [e,isNil_put hx h2,takeOwn_put hx h2]
 split
 ·split
  ·split
   ·split
    ·simp only [Option.map_some,put_comm h]
    ·simp only [newObjA_put,newId_put,Option.map_some,put_comm h]
   ·rfl
  ·split
   ·cases ht:takeOwn E.lim ais st sz x with
    |none=>rfl
    |some p =>
     obtain ⟨len,cells,s1⟩:=p
     simp only [Option.map_some]
     split
     ·simp only [Option.map_some,put_comm h]
     ·rfl
   ·rfl
 ·rfl
theorem mem_usesL_opd {i:AIns}{x:Opd}(hx:x ∈ i.op.opds)(h:q ∉ usesL ais i):q ∉ x.locs:=by
 intro hq
 apply h
 unfold usesL
 rw [List.append_assoc]
 exact List.mem_append_left _ (List.mem_flatMap.2 ⟨x,hx,hq⟩)
theorem mem_usesL_guard {i:AIns}{g:Nat}{b:Bool}(hg:i.guard=some (g,b))(h:q ∉ usesL ais i):g≠q:=by
 rintro rfl
 apply h
 unfold usesL
 rw [hg]
 simp
theorem mem_usesL_via {i:AIns}{sz bytes:Nat}{ob:Bool}{x y:Opd}(hop:i.op= .append sz bytes ob x y)(h:q ∉ usesL ais i):∀ j a,x= .loc j→ais[j]? =some a→q ∉ a.op.opds.flatMap Opd.locs:=by
 rintro j a rfl ha hq
 apply h
 unfold usesL
 rw [hop]
 simp only [ha]
 exact List.mem_append_right _ hq
theorem mem_usesL_viaN {i:AIns}{sz bytes:Nat}{x y:Opd}(hop:i.op= .appendN sz bytes x y)(h:q ∉ usesL ais i):∀ j a,x= .loc j→ais[j]? =some a→q ∉ a.op.opds.flatMap Opd.locs:=by
 rintro j a rfl ha hq
 apply h
 unfold usesL
 rw [hop]
 simp only [ha]
 exact List.mem_append_right _ hq
theorem appendNew_put (h:q≠k){sz bytes id lo len:Nat}{y:AVal}:appendNew E nid k sz bytes (put st q v) id lo len y=(appendNew E nid k sz bytes st id lo len y).map fun s=>put s q v:=by
 unfold appendNew
 split
 ·have e1:(put st q v).H=st.H:=rfl
  rw [e1]
  split
  ·split
   ·simp only [Option.map_some,Option.some.injEq]
    rw [← put_comm h]
    cases nid<;>rfl
   ·rfl
  ·rfl
 ·rfl
def CalmV (st:RSt)(op:AOp)(v:AVal):Prop:=∀ sz by' ob x y id z lo n,op= .append sz by' ob x y→rho st.T st.L x= .sref id z lo n→v.kill id=v
theorem CalmV.of {op:AOp}(h:killing st op=false):CalmV st op v:=fun _ _ _ _ _ _ _ _ _ e hx=>by subst e;simp [killing,hx] at h
theorem killL_set (id:Nat):∀ (l:List AVal) (j:Nat) (x:AVal),killL id (l.set j x)=(killL id l).set j (x.kill id)
 |[],_,_=>rfl
 |a::l,0,x=>rfl
 |a::l,j+1,x=>by simp only [List.set_cons_succ,killL,killL_set id l j x]
theorem appendObj_put (h:q≠k){sz bytes id lo len:Nat}{y:AVal}(hv:v.kill id=v):appendObj E k sz bytes (put st q v) id lo len y=(appendObj E k sz bytes st id lo len y).map fun s=>put s q v:=by
 unfold appendObj
 split
 ·have e1:(put st q v).H=st.H:=rfl
  rw [e1]
  split
  ·split
   ·simp only [Option.map_some,Option.some.injEq]
    rw [← put_comm h]
    simp only [put,killL_set,hv]
   ·rfl
  ·rfl
 ·rfl
theorem effOp_put {i:AIns}(h:q≠k)(hu:q ∉ usesL ais i)(hk:CalmV st i.op v):effOp E ais nid k (put st q v) i.op=(effOp E ais nid k st i.op).map fun s=>put s q v:=by
 have hρ:∀ x,x ∈ i.op.opds→rho (put st q v).T (put st q v).L x=rho st.T st.L x:=fun x hx=>rho_put (mem_usesL_opd hx hu)
 cases hop:i.op<;>simp only [hop,AOp.opds] at hρ<;>simp only [effOp]<;>try rfl
 case alloc zero=>simp only [newObjA_put,newId_put,put_comm h,Option.map_some]
 case box x =>
  rw [hρ x (by simp)]
  split
  ·simp only [newObjA_put,newId_put,put_comm h,Option.map_some]
  ·rfl
 case makeMap=>simp only [newObjA_put,newId_put,put_comm h,Option.map_some]
 case makeS sz zero x y =>
  rw [hρ x (by simp),hρ y (by simp)]
  split
  ·simp only [newObjA_put,newId_put,put_comm h,Option.map_some]
  ·rfl
 case bslice sz len zero parts ob =>
  cases ob
  ·rfl
  ·have e:(parts.map fun x=>(x.1,x.2.1,rho (put st q v).T (put st q v).L x.2.2))=(parts.map fun x=>(x.1,x.2.1,rho st.T st.L x.2.2)):=parts_congr hρ
   simp only [e]
   cases fillA zero (parts.map fun x=>(x.1,x.2.1,rho st.T st.L x.2.2)) with
   |none=>rfl
   |some cs =>
    simp only
    split
    ·simp only [newObjA_put,newId_put,put_comm h,Option.map_some]
    ·rfl
 case store n a x =>
  rw [hρ a (by simp)]
  exact storeEff_put h (mem_usesL_opd (by simp [hop,AOp.opds]) hu)
 case append sz bytes ob x y =>
  rw [hρ x (by simp),hρ y (by simp)]
  split
  ·rename_i hx
   split
   ·exact appendObj_put h (hk _ _ _ _ _ _ _ _ _ hop hx)
   ·rfl
  ·exact appendOwn_put h (mem_usesL_opd (by simp [hop,AOp.opds]) hu) (mem_usesL_via hop hu)
 case appendN sz bytes x y =>
  rw [hρ x (by simp),hρ y (by simp)]
  split
  ·split
   ·exact appendNew_put h
   ·rfl
  ·exact appendOwn_put h (mem_usesL_opd (by simp [hop,AOp.opds]) hu) (mem_usesL_viaN hop hu)
 case clear sz zero x =>
  rw [hρ x (by simp)]
  exact clearEff_put h
 case call f xs =>
  rw [map_congr_mem hρ]
  exact callEff_put h
 case callv x xs =>
  rw [hρ x (by simp),map_congr_mem (l:=xs) fun y hy=>hρ y (by simp [hy])]
  split
  ·exact callEff_put h
  ·rfl
 case mapSet kk m key x =>
  rw [hρ m (by simp),hρ key (by simp),hρ x (by simp)]
  exact mapSetEff_put h
 case defer x =>
  rw [hρ x (by simp)]
  split
  ·split
   ·simp only [put_comm h,Option.map_some]
   ·rfl
  ·rfl
theorem toSlot_put (h:q≠k){dst:Option Nat}:toSlotX nid (put st q v) k dst=(toSlotX nid st k dst).map fun s=>put s q v:=by
 have hx:q ∉ (Opd.loc k).locs:=by simp [Opd.locs];exact h
 have e1:(put st q v).T=st.T:=rfl
 have e2:(put st q v).tch=st.tch:=rfl
 cases nid<;>cases dst<;>simp only [toSlotX,toSlot,toSlotN,xfer_put hx,e1,e2]<;>first|rfl|(split<;>rfl)
theorem wanted_put {g:Option (Nat×Bool)}(h:∀ j b,g=some (j,b)→j≠q):wantedA (put st q v).L g=wantedA st.L g:=by
 cases g with
 |none=>rfl
 |some p =>
  obtain ⟨j,b⟩:=p
  simp only [wantedA,put]
  rw [set_get_ne (fun e=>h j b rfl e.symm)]
theorem stepA_put {i:AIns}(h:q≠k)(hu:q ∉ usesL ais i)(hk:CalmV st i.op v):stepA E ais nid k i (put st q v)=(stepA E ais nid k i st).map fun p=>(put p.1 q v,p.2):=by
 have hρ:∀ x,x ∈ i.op.opds→rho (put st q v).T (put st q v).L x=rho st.T st.L x:=fun x hx=>rho_put (mem_usesL_opd hx hu)
 have hW:stepW E ais nid k i.op (put st q v)=(stepW E ais nid k i.op st).map fun p=>(put p.1 q v,p.2):=by
  unfold stepW
  split
  ·rw [effOp_put h hu hk]
   cases effOp E ais nid k st i.op<;>rfl
  ·cases hop:i.op with
   |mov x =>
    simp only [xfer_put (mem_usesL_opd (x:=x) (by simp [hop,AOp.opds]) hu),put_comm h,Option.map_some]
   |_ =>
    simp only
    rw [← hop,pureOp_congr hρ]
    have e:(put st q v).H=st.H:=rfl
    rw [e]
    cases hp:pureOp (rho st.T st.L) st.H i.op with
    |none=>rfl
    |some p=>simp only [put_comm h,Option.map_some]
 unfold stepA
 rw [wanted_put (fun j b hg=>mem_usesL_guard hg hu),hW]
 split
 ·cases hp:stepW E ais nid k i.op st with
  |none=>rfl
  |some p =>
   obtain ⟨s1,rs⟩:=p
   simp only [Option.map_some]
   rw [toSlot_put h]
   cases toSlotX nid s1 k i.dst<;>rfl
 ·rw [put_comm h,toSlot_put h]
  cases toSlotX nid (put st k (.tuple [])) k i.dst<;>rfl
 ·rfl
def setH (st:RSt)(i:Nat)(o:AObj):RSt:={ st with H:=st.H.set i o }
theorem take_set_le {H:Heap}{n i:Nat}{o:AObj}(h:n≤i):(H.set i o).take n=H.take n:=List.take_set_of_le h
theorem le_closeN (H:Heap)(s:Nat):∀ (j m:Nat),m≤closeN H s j m
 |0,m=>by simp [closeN]
 |j+1,m=>by
  unfold closeN
  split
  ·omega
  ·simp only
   split
   ·omega
   ·exact Nat.le_trans (Nat.le_max_left _ _) (le_closeN H s j _)
theorem closeN_set (H:Heap)(s i:Nat)(o:AObj):∀ (j n:Nat),closeN H s j n≤i→closeN (H.set i o) s j n=closeN H s j n
 |0,n,_=>rfl
 |j+1,n,h=>by
  have hn:n≤i:=Nat.le_trans (le_closeN H s (j+1) n) h
  unfold closeN at h ⊢
  split
  ·rfl
  ·rename_i hns
   rw [if_neg hns] at h
   simp only [take_set_le hn] at h ⊢
   split
   ·rfl
   ·rename_i hm
    rw [if_neg hm] at h
    exact closeN_set H s i o j _ h
theorem closeN_set' (H:Heap)(s i:Nat)(o:AObj)(j n:Nat)(h:closeN (H.set i o) s j n≤i):closeN H s j n=closeN (H.set i o) s j n:=by
 rcases Nat.lt_or_ge i H.length with hi|hi
 ·have:=closeN_set (H.set i o) s i H[i] j n h
  rw [List.set_set,List.set_getElem_self] at this
  exact this
 ·rw [List.set_eq_of_length_le hi]
theorem strictOf_set {H:Heap}{s n i:Nat}{o:AObj}(h:n≤i):strictOf (H.set i o) s n=strictOf H s n:=by
 unfold strictOf
 rw [take_set_le h]
theorem drop_set_ge {H:Heap}{n i:Nat}{o:AObj}(h:n≤i):(H.set i o).drop n=(H.drop n).set (i - n) o:=by
 apply List.ext_getElem?
 intro j
 rw [List.getElem?_drop,List.getElem?_set,List.getElem?_set,List.getElem?_drop]
 by_cases e:i=n+j
 ·subst e
  simp
  by_cases hl:n+j<H.length
  ·simp [hl,show j<H.length - n from by omega]
  ·simp [hl,show ¬ j<H.length - n from by omega]
 ·rw [if_neg e,if_neg (by omega)]
theorem append_set {A H:Heap}{n i:Nat}{o:AObj}(ha:A.length=n)(h:n≤i):A++(H.set i o).drop n=(A++H.drop n).set i o:=by
 rw [drop_set_ge h,List.set_append,if_neg (by omega),ha]
theorem callEff_setH {f:FuncId}{args:List AVal}{i:Nat}{o:AObj}(hi:i<st.H.length)(hs:(if E.prom f then st.H.length else closeN st.H E.lim.strict 8 (bndL args))≤i) :
  callEff E k f args (setH st i o)=(callEff E k f args st).map fun s=>setH s i o:=by
 have e1:(setH st i o).H=st.H.set i o:=rfl
 have e2:(setH st i o).tch=st.tch:=rfl
 unfold callEff
 simp only [e1,e2]
 by_cases hp:E.prom f=true
 ·rw [if_pos hp] at hs;omega
 ·rw [if_neg hp] at hs
  rw [if_neg hp,if_neg hp,closeN_set _ _ _ _ _ _ hs]
  generalize closeN st.H E.lim.strict 8 (bndL args)=n at hs
  generalize (args.headD .any).bnd=mm
  simp only [take_set_le hs,strictOf_set hs,List.length_set]
  split
  ·rename_i hcond
   split
   ·split
    ·split
     ·rename_i hl
      simp only [Option.map_some,put,setH]
      rw [append_set hl hs]
     ·rfl
    ·rfl
   ·split
    ·split
     ·rfl
     ·rfl
    ·rfl
   ·split
    ·rename_i v H1 _
     split
     ·rename_i hl
      simp only [Option.map_some,put,setH]
      rw [append_set (by simp;omega) (Nat.le_trans hl.2 hs)]
     ·rfl
    ·rfl
  ·rfl
theorem toSlot_setH {dst:Option Nat}{i:Nat}{o:AObj}:toSlotX nid (setH st i o) k dst=(toSlotX nid st k dst).map fun s=>setH s i o:=by
 have hx:xfer (setH st i o) (.loc k)=((xfer st (.loc k)).1,setH (xfer st (.loc k)).2 i o):=by
  simp only [xfer,setH]
  cases st.L[k]? with
  |none=>rfl
  |some a=>cases a<;>rfl
 have e1:(setH st i o).T=st.T:=rfl
 have e2:(setH st i o).tch=st.tch:=rfl
 cases nid<;>cases dst<;>simp only [toSlotX,toSlot,toSlotN,hx,e1,e2]<;>first|rfl|(split<;>rfl)
def clsC (i:AIns):Bool:=match i.op with
 | .call .. =>true
 | .callv .. =>true
 |_=>false
theorem stepA_setH {i:AIns}{m:Nat}{o:AObj}(hc:clsC i=true)(hi:m<st.H.length)(hs:seesOf E st i.op≤m):stepA E ais nid k i (setH st m o)=(stepA E ais nid k i st).map fun p=>(setH p.1 m o,p.2):=by
 have hW:stepW E ais nid k i.op (setH st m o)=(stepW E ais nid k i.op st).map fun p=>(setH p.1 m o,p.2):=by
  unfold clsC at hc
  unfold stepW
  have e:∀ x,rho (setH st m o).T (setH st m o).L x=rho st.T st.L x:=fun _=>rfl
  split at hc
  ·rename_i f xs hop
   rw [hop] at hs ⊢
   simp only [AOp.isEff,if_true,effOp]
   have:callEff E k f (xs.map (rho (setH st m o).T (setH st m o).L)) (setH st m o)=(callEff E k f (xs.map (rho st.T st.L)) st).map fun s=>setH s m o:=callEff_setH hi hs
   rw [this]
   cases callEff E k f (xs.map (rho st.T st.L)) st<;>rfl
  ·rename_i x xs hop
   rw [hop] at hs ⊢
   simp only [AOp.isEff,if_true,effOp]
   rw [e x]
   simp only [seesOf] at hs
   cases hx:rho st.T st.L x with
   |func f first caps =>
    rw [hx] at hs
    simp only at hs ⊢
    have:callEff E k f (first++xs.map (rho (setH st m o).T (setH st m o).L)++caps) (setH st m o)=(callEff E k f (first++xs.map (rho st.T st.L)++caps) st).map fun s=>setH s m o:=callEff_setH hi hs
    rw [this]
    cases callEff E k f (first++xs.map (rho st.T st.L)++caps) st<;>rfl
   |_=>rfl
  ·cases hc
 unfold stepA
 have e3:wantedA (setH st m o).L i.guard=wantedA st.L i.guard:=rfl
 rw [e3,hW]
 split
 ·cases hp:stepW E ais nid k i.op st with
  |none=>rfl
  |some p =>
   obtain ⟨s1,rs⟩:=p
   simp only [Option.map_some]
   rw [toSlot_setH]
   cases toSlotX nid s1 k i.dst<;>rfl
 ·have e4:put (setH st m o) k (.tuple [])=setH (put st k (.tuple [])) m o:=rfl
  rw [e4,toSlot_setH]
  cases toSlotX nid (put st k (.tuple [])) k i.dst<;>rfl
 ·rfl
theorem sees_setH {i:AIns}{m:Nat}{o:AObj}(hs:seesOf E (setH st m o) i.op≤m):seesOf E st i.op=seesOf E (setH st m o) i.op:=by
 have e:∀ x,rho (setH st m o).T (setH st m o).L x=rho st.T st.L x:=fun _=>rfl
 have e1:(setH st m o).H=st.H.set m o:=rfl
 cases hop:i.op<;>rw [hop] at hs<;>simp only [seesOf] at hs ⊢
 case call f xs =>
  simp only [e1,List.length_set] at hs ⊢
  by_cases hp:E.prom f=true
  ·rw [if_pos hp,if_pos hp]
  ·rw [if_neg hp] at hs ⊢
   rw [if_neg hp]
   exact closeN_set' _ _ _ _ _ _ hs
 case callv x xs =>
  simp only [e x,e1,List.length_set] at hs ⊢
  split at hs
  ·rename_i f first caps hx
   by_cases hp:E.prom f=true
   ·simp only [hp,if_true]
   ·rw [if_neg hp] at hs ⊢
    rw [if_neg hp]
    exact closeN_set' _ _ _ _ _ _ hs
  ·rfl
def setT (s:RSt)(dst:Option Nat)(u:AVal):RSt:=match dst with
 |none=>s
 |some t=>{ s with T:=s.T.set t u }
theorem setT_L (s:RSt)(dst:Option Nat)(u:AVal):(setT s dst u).L=s.L:=by cases dst<;>rfl
theorem setT_H (s:RSt)(dst:Option Nat)(u:AVal):(setT s dst u).H=s.H:=by cases dst<;>rfl
theorem setT_tch (s:RSt)(dst:Option Nat)(u:AVal):(setT s dst u).tch=s.tch:=by cases dst<;>rfl
theorem setT_lenT (s:RSt)(dst:Option Nat)(u:AVal):(setT s dst u).T.length=s.T.length:=by cases dst<;>simp [setT]
theorem rho_setT {s:RSt}{dst:Option Nat}{u:AVal}{x:Opd}(h:∀ t,dst=some t→t ∉ x.slots):rho (setT s dst u).T (setT s dst u).L x=rho s.T s.L x:=by
 cases dst with
 |none=>rfl
 |some t =>
  cases x with
  |loc j=>rfl
  |const c=>rfl
  |slot s' =>
   simp only [rho,setT]
   rw [getD_set_other _ _ _ _ _ (fun e=>h t rfl (by simp [Opd.slots,e]))]
theorem callEff_setT {f:FuncId}{args:List AVal}{dst:Option Nat}{u:AVal}:callEff E k f args (setT st dst u)=(callEff E k f args st).map fun s=>setT s dst u:=by
 cases dst with
 |none=>simp only [setT];cases callEff E k f args st<;>rfl
 |some t =>
  unfold callEff
  have e1:(setT st (some t) u).H=st.H:=rfl
  have e2:(setT st (some t) u).tch=st.tch:=rfl
  simp only [e1,e2]
  split
  ·split
   ·split<;>rfl
   ·rfl
  ·split
   ·split
    ·split
     ·split<;>rfl
     ·rfl
    ·split
     ·split<;>rfl
     ·rfl
    ·split
     ·split<;>rfl
     ·rfl
   ·rfl
theorem toSlot_setT {dst dst' :Option Nat}{u:AVal}(h:∀ s,dst=some s→dst' ≠some s):toSlotX nid (setT st dst' u) k dst=(toSlotX nid st k dst).map fun s=>setT s dst' u:=by
 cases dst' with
 |none=>simp only [setT];cases toSlotX nid st k dst<;>rfl
 |some t =>
  have hx:xfer (setT st (some t) u) (.loc k)=((xfer st (.loc k)).1,setT (xfer st (.loc k)).2 (some t) u):=by
   simp only [xfer,setT]
   cases st.L[k]? with
   |none=>rfl
   |some a=>cases a<;>rfl
  have e2:(setT st (some t) u).tch=st.tch:=rfl
  have e3:(setT st (some t) u).T.length=st.T.length:=setT_lenT _ _ _
  cases dst with
  |none=>cases nid<;>rfl
  |some s =>
   have hne:t≠s:=fun e=>h s rfl (by rw [e])
   have e4:∀ x,(setT st (some t) u).T.set s x=(st.T.set s x).set t u:=fun x=>List.set_comm _ _ hne
   cases nid<;>simp only [toSlotX,toSlot,toSlotN,hx,e2,e3,e4]<;>split<;>rfl
theorem stepA_setT {i:AIns}{dst:Option Nat}{u:AVal}(hc:clsC i=true)(hu:∀ t,dst=some t→t ∉ usesT i)(hd:∀ s,i.dst=some s→dst≠some s) :
  stepA E ais nid k i (setT st dst u)=(stepA E ais nid k i st).map fun p=>(setT p.1 dst u,p.2):=by
 have hρ:∀ x,x ∈ i.op.opds→rho (setT st dst u).T (setT st dst u).L x=rho st.T st.L x:=by
  intro x hx
  refine rho_setT fun t ht hs=>hu t ht ?_
  unfold usesT
  exact List.mem_flatMap.2 ⟨x,hx,hs⟩
 have hW:stepW E ais nid k i.op (setT st dst u)=(stepW E ais nid k i.op st).map fun p=>(setT p.1 dst u,p.2):=by
  unfold clsC at hc
  unfold stepW
  split at hc
  ·rename_i f xs hop
   rw [hop] at hρ ⊢
   simp only [AOp.isEff,if_true,effOp]
   rw [map_congr_mem (l:=xs) fun y hy=>hρ y (by simp [AOp.opds,hy]),callEff_setT]
   cases callEff E k f (xs.map (rho st.T st.L)) st<;>rfl
  ·rename_i x xs hop
   rw [hop] at hρ ⊢
   simp only [AOp.isEff,if_true,effOp]
   rw [hρ x (by simp [AOp.opds]),map_congr_mem (l:=xs) fun y hy=>hρ y (by simp [AOp.opds,hy])]
   cases hx:rho st.T st.L x with
   |func f first caps =>
    simp only
    rw [callEff_setT]
    cases callEff E k f (first++xs.map (rho st.T st.L)++caps) st<;>rfl
   |_=>rfl
  ·cases hc
 unfold stepA
 rw [setT_L,hW]
 split
 ·cases hp:stepW E ais nid k i.op st with
  |none=>rfl
  |some p =>
   obtain ⟨s1,rs⟩:=p
   simp only [Option.map_some]
   rw [toSlot_setT hd]
   cases toSlotX nid s1 k i.dst<;>rfl
 ·have e4:put (setT st dst u) k (.tuple [])=setT (put st k (.tuple [])) dst u:=by cases dst<;>rfl
  rw [e4,toSlot_setT hd]
  cases toSlotX nid (put st k (.tuple [])) k i.dst<;>rfl
 ·rfl
end
end Go.Abs
namespace Go.Abs
def clsP (i:AIns):Bool:= !i.op.isEff&&i.dst.isNone&&(match i.op with
 | .mov (.loc _)=>false
 |_=>true)
def clsN (i:AIns):Bool:=match i.op with
 | .alloc _=>true
 | .box _=>true
 | .makeMap=>true
 | .makeS .. =>true
 | .bslice _ _ _ _ b=>b
 |_=>false
section
variable {E:Env} {ais:List AIns} {nid:Option Nat} {k q:Nat} {st st1 st2 st' :RSt}
theorem clsP_alloc {i:AIns}(h:clsP i=true):i.op.isAlloc=false:=by
 simp only [clsP,Bool.and_eq_true,Bool.not_eq_true'] at h
 cases hop:i.op<;>rw [hop] at h<;>simp_all [AOp.isEff,AOp.isAlloc]
theorem clsP_kill {i:AIns}(h:clsP i=true)(st:RSt):killing st i.op=false:=by
 simp only [clsP,Bool.and_eq_true,Bool.not_eq_true'] at h
 cases hop:i.op<;>rw [hop] at h<;>simp_all [AOp.isEff,killing]
theorem clsP_sees {i:AIns}(h:clsP i=true)(st:RSt):seesOf E st i.op=0:=by
 simp only [clsP,Bool.and_eq_true,Bool.not_eq_true'] at h
 cases hop:i.op<;>rw [hop] at h<;>simp_all [AOp.isEff,seesOf]
theorem clsN_kill {i:AIns}(h:clsN i=true)(st:RSt):killing st i.op=false:=by
 unfold clsN at h
 cases hop:i.op<;>rw [hop] at h<;>simp_all [killing]
theorem clsN_sees {i:AIns}(h:clsN i=true)(st:RSt):seesOf E st i.op=0:=by
 unfold clsN at h
 cases hop:i.op<;>rw [hop] at h<;>simp_all [seesOf]
theorem clsN_alloc {i:AIns}(h:clsN i=true):i.op.isAlloc=true:=by
 unfold clsN at h
 cases hop:i.op<;>rw [hop] at h<;>simp_all [AOp.isAlloc]
theorem clsC_alloc {i:AIns}(h:clsC i=true):i.op.isAlloc=false:=by
 unfold clsC at h
 cases hop:i.op<;>rw [hop] at h<;>simp_all [AOp.isAlloc]
theorem clsC_kill {i:AIns}(h:clsC i=true)(st:RSt):killing st i.op=false:=by
 unfold clsC at h
 cases hop:i.op<;>rw [hop] at h<;>simp_all [killing]
theorem toSlot_none {s:RSt}{dst:Option Nat}(h:dst.isNone=true):toSlotX nid s k dst=some s:=by
 cases dst with
 |none=>cases nid<;>rfl
 |some _=>simp at h
theorem P_step {i:AIns}(hP:clsP i=true){rs:List Nat}(h:stepA E ais nid k i st=some (st',rs)) :
  ∃ v,st' =put st k v∧∀ s2:RSt,(∀ x,x ∈ i.op.opds→rho s2.T s2.L x=rho st.T st.L x)→wantedA s2.L i.guard=wantedA st.L i.guard→(∀ id,id ∈ rs→ObjEq s2.H[id]? st.H[id]?) →
   stepA E ais nid k i s2=some (put s2 k v,rs):=by
 simp only [clsP,Bool.and_eq_true,Bool.not_eq_true'] at hP
 obtain ⟨⟨h1,h2⟩,h3⟩:=hP
 unfold stepA at h
 split at h
 ·rename_i hw
  split at h
  ·rename_i s1 rs1 hW
   rw [toSlot_none h2] at h
   cases h
   unfold stepW at hW
   rw [h1] at hW
   simp only [Bool.false_eq_true,if_false] at hW
   have other:∀ {v:AVal},(∀ x,i.op≠ .mov x)→pureOp (rho st.T st.L) st.H i.op=some (v,rs)→st' =put st k v→∃ v,st' =put st k v∧∀ s2:RSt,(∀ x,x ∈ i.op.opds→rho s2.T s2.L x=rho st.T st.L x)→wantedA s2.L i.guard=wantedA st.L i.guard→(∀ id,id ∈ rs→ObjEq s2.H[id]? st.H[id]?) →
     stepA E ais nid k i s2=some (put s2 k v,rs):=by
    intro v hm hp e
    refine ⟨v,e,fun s2 hρ hwd hr=> ?_⟩
    unfold stepA
    rw [hwd,hw]
    simp only
    have:stepW E ais nid k i.op s2=some (put s2 k v,rs):=by
     unfold stepW
     rw [h1]
     simp only [Bool.false_eq_true,if_false]
     have hp2:pureOp (rho s2.T s2.L) s2.H i.op=some (v,rs):=pureOp_heap (by rw [pureOp_congr hρ];exact hp) hr
     obtain ⟨op,hop⟩:∃ op,i.op=op:=⟨_,rfl⟩
     rw [hop] at hp2 ⊢
     cases op with
     |mov x=>exact absurd hop (hm x)
     |_=>simp only [hp2]
    rw [this]
    simp only [toSlot_none h2]
   split at hW
   ·rename_i x hop
    cases hW
    refine ⟨(xfer st x).1,?_,fun s2 hρ hwd hr=> ?_⟩
    ·cases x with
     |loc j=>rw [hop] at h3;simp at h3
     |slot s=>rfl
     |const c=>rfl
    ·unfold stepA
     rw [hwd,hw]
     simp only [hop]
     have e1:xfer s2 x=((xfer st x).1,s2):=by
      cases x with
      |loc j=>rw [hop] at h3;simp at h3
      |slot s =>
       have:=hρ (.slot s) (by simp [hop,AOp.opds])
       simp only [xfer,this]
      |const c=>rfl
     simp only [stepW,AOp.isEff,Bool.false_eq_true,if_false,e1,toSlot_none h2]
   ·rename_i hne
    split at hW
    ·rename_i v rs2 hp
     cases hW
     exact other hne hp rfl
    ·cases hW
  ·cases h
 ·rename_i hw
  rw [toSlot_none h2] at h
  cases h
  refine ⟨.tuple [],rfl,fun s2 hρ hwd hr=> ?_⟩
  unfold stepA
  rw [hwd,hw]
  simp only [toSlot_none h2]
 ·cases h
def setO (s:RSt)(n:Nat):Option AObj→RSt
 |some o=>setH s n o
 |none=>s
inductive NF (k n:Nat) (dst:Option Nat):(RSt→RSt)→Prop where
 |mk (o:Option AObj) (v u:AVal):NF k n dst (fun s=>setT (put (setO s n o) k v) dst u)
structure Alike (i:AIns)(st s2:RSt):Prop where
 T:s2.T.length=st.T.length
 L:s2.L.length=st.L.length
 tch:∀ s,i.dst=some s→s2.tch.any (Touch.slotHit s)=true
theorem toSlotN_put {s:RSt}{v:AVal}{dst:Option Nat}(hv:∀ z n c,v≠ .own z n c){s' :RSt}(h:toSlotN (put s k v) k dst=some s') :
  ∃ u,s' =setT (put s k v) dst u∧∀ s2:RSt,s2.T.length=s.T.length→s2.L.length=s.L.length→(∀ t,dst=some t→s2.tch.any (Touch.slotHit t)=true)→toSlotN (put s2 k v) k dst=some (setT (put s2 k v) dst u):=by
 cases dst with
 |none=>cases h;exact ⟨.any,rfl,fun s2 _ _ _=>rfl⟩
 |some t =>
  have hx:∀ s:RSt,xfer (put s k v) (.loc k)=((if k<s.L.length then v.cst else .any),put s k v):=by
   intro s
   simp only [xfer,put]
   by_cases hk:k<s.L.length
   ·rw [List.getElem?_set_self hk]
    cases v<;>simp [rho,List.getD,hk,AVal.asD,AVal.cst]<;>first|rfl|exact absurd rfl (hv _ _ _)
   ·rw [List.getElem?_eq_none (by simpa using hk)]
    simp [rho,List.getD,hk,AVal.asD,AVal.cst]
  simp only [toSlotN,hx] at h
  split at h
  ·rename_i hc
   simp only [Bool.and_eq_true,decide_eq_true_eq] at hc
   cases h
   refine ⟨_,rfl,fun s2 h1 h2 h3=> ?_⟩
   simp only [toSlotN,hx]
   have:(decide (t<(put s2 k v).T.length)&&(put s2 k v).tch.any (Touch.slotHit t))=true:=by
    simp only [Bool.and_eq_true,decide_eq_true_eq]
    refine ⟨?_,h3 t rfl⟩
    have:=hc.1
    simp only [put] at this ⊢
    omega
   rw [if_pos this,h2]
   rfl
  ·cases h
theorem setO_T (s:RSt)(n:Nat)(o:Option AObj):(setO s n o).T=s.T:=by cases o<;>rfl
theorem setO_L (s:RSt)(n:Nat)(o:Option AObj):(setO s n o).L=s.L:=by cases o<;>rfl
theorem setO_tch (s:RSt)(n:Nat)(o:Option AObj):(setO s n o).tch=s.tch:=by cases o<;>rfl
theorem N_step {i:AIns}{n:Nat}(hN:clsN i=true){rs:List Nat}(h:stepA E ais (some n) k i st=some (st',rs)) :
  rs=[]∧∃ f,NF k n i.dst f∧st' =f st∧∀ s2:RSt,(∀ x,x ∈ i.op.opds→rho s2.T s2.L x=rho st.T st.L x)→wantedA s2.L i.guard=wantedA st.L i.guard→Alike i st s2→stepA E ais (some n) k i s2=some (f s2,[]):=by
 unfold clsN at hN
 have h3:=hN
 have heff:i.op.isEff=true:=by
  cases hop:i.op<;>rw [hop] at h3<;>simp_all [AOp.isEff]
 have slot:∀ (o:Option AObj) (v:AVal),(∀ z n c,v≠ .own z n c)→(∀ s2:RSt,(∀ x,x ∈ i.op.opds→rho s2.T s2.L x=rho st.T st.L x)→wantedA s2.L i.guard=wantedA st.L i.guard→stepA E ais (some n) k i s2=(toSlotN (put (setO s2 n o) k v) k i.dst).map fun s=>(s,[])) →
   rs=[]∧∃ f,NF k n i.dst f∧st' =f st∧∀ s2:RSt,(∀ x,x ∈ i.op.opds→rho s2.T s2.L x=rho st.T st.L x)→wantedA s2.L i.guard=wantedA st.L i.guard→Alike i st s2→stepA E ais (some n) k i s2=some (f s2,[]):=by
  intro o v hv hs
  rw [hs st (fun _ _=>rfl) rfl] at h
  cases ht:toSlotN (put (setO st n o) k v) k i.dst with
  |none=>rw [ht] at h;cases h
  |some s' =>
   rw [ht] at h
   simp only [Option.map_some,Option.some.injEq,Prod.mk.injEq] at h
   obtain ⟨rfl,rfl⟩:=h
   obtain ⟨u,h4,h5⟩:=toSlotN_put hv ht
   refine ⟨rfl,_,NF.mk o v u,h4,fun s2 hρ hw ha=> ?_⟩
   rw [hs s2 hρ hw,h5 (setO s2 n o) (by rw [setO_T,setO_T];exact ha.T) (by rw [setO_L,setO_L];exact ha.L) (fun t ht=>by rw [setO_tch];exact ha.tch t ht)]
   rfl
 obtain ⟨wd,hw⟩:∃ wd,wantedA st.L i.guard=wd:=⟨_,rfl⟩
 cases wd with
 |none=>unfold stepA at h;rw [hw] at h;cases h
 |some b =>
  cases b with
  |false =>
   refine slot none (.tuple []) (by simp) fun s2 hρ hwd=> ?_
   unfold stepA
   rw [hwd,hw]
   simp only [toSlotX,setO]
   cases toSlotN (put s2 k (.tuple [])) k i.dst<;>rfl
  |true =>
   have key:∀ (o:AObj) (v:AVal),(∀ z n c,v≠ .own z n c)→(∀ s2:RSt,(∀ x,x ∈ i.op.opds→rho s2.T s2.L x=rho st.T st.L x)→effOp E ais (some n) k s2 i.op=some (put (setH s2 n o) k v)) →
     rs=[]∧∃ f,NF k n i.dst f∧st' =f st∧∀ s2:RSt,(∀ x,x ∈ i.op.opds→rho s2.T s2.L x=rho st.T st.L x)→wantedA s2.L i.guard=wantedA st.L i.guard→Alike i st s2→stepA E ais (some n) k i s2=some (f s2,[]):=by
    intro o v hv h5
    refine slot (some o) v hv fun s2 hρ hwd=> ?_
    unfold stepA
    rw [hwd,hw]
    simp only
    have:stepW E ais (some n) k i.op s2=some (put (setH s2 n o) k v,[]):=by
     unfold stepW
     rw [heff]
     simp only [if_true,h5 s2 hρ]
    rw [this]
    simp only [toSlotX,setO]
    cases toSlotN (put (setH s2 n o) k v) k i.dst<;>rfl
   obtain ⟨op,hop⟩:∃ op,i.op=op:=⟨_,rfl⟩
   have he:∃ s1,effOp E ais (some n) k st i.op=some s1:=by
    unfold stepA at h
    rw [hw] at h
    simp only at h
    split at h
    ·rename_i s1 rs1 hW
     unfold stepW at hW
     rw [heff] at hW
     simp only [if_true] at hW
     split at hW
     ·rename_i s3 he;exact ⟨s3,he⟩
     ·cases hW
    ·cases h
   obtain ⟨s1,he⟩:=he
   cases op<;>rw [hop] at h3<;>simp at h3<;>(try (cases h3;done))<;>rw [hop] at he<;>simp only [effOp] at he
   ·rename_i zero
    refine key (.cells zero) (.ptr n 0) (by simp) (fun s2 _=> ?_)
    rw [hop];rfl
   ·rename_i x
    split at he
    ·rename_i l hl
     refine key (.cells l) (.ptr n 0) (by simp) (fun s2 hρ=> ?_)
     rw [hop]
     simp only [effOp]
     rw [hρ x (by simp [hop,AOp.opds]),hl]
     rfl
    ·cases he
   ·rename_i sz len zero parts ob
    subst h3
    simp only at he
    split at he
    ·rename_i cs hcs
     split at he
     ·rename_i hl
      refine key (.cells cs) (.sref n sz 0 len) (by simp) (fun s2 hρ=> ?_)
      rw [hop]
      simp only [effOp]
      have e:(parts.map fun x=>(x.1,x.2.1,rho s2.T s2.L x.2.2))=(parts.map fun x=>(x.1,x.2.1,rho st.T st.L x.2.2)):=parts_congr (fun x hx=>hρ x (by simp only [hop,AOp.opds];exact hx))
      have hcs' :fillA zero (parts.map fun x=>(x.1,x.2.1,rho st.T st.L x.2.2))=some cs:=hcs
      simp only [e,hcs',if_pos hl]
      rfl
     ·cases he
    ·cases he
   ·refine key (.map []) (.map n) (by simp) (fun s2 _=> ?_)
    rw [hop];rfl
   ·rename_i sz zero x y
    split at he
    ·rename_i m hm
     refine key (.cells (List.replicate m zero).flatten) (.sref n sz 0 m) (by simp) (fun s2 hρ=> ?_)
     rw [hop]
     simp only [effOp]
     rw [hρ x (by simp [hop,AOp.opds]),hρ y (by simp [hop,AOp.opds]),hm]
     rfl
    ·cases he
end
end Go.Abs
namespace Go.Abs
def pairOK (ais:List AIns)(j:Nat)(a:AIns)(i:Nat)(b:AIns):Bool :=
 !(usesL ais b).contains j&& !(usesL ais a).contains i &&
 (match b.dst with|some s=> !(usesT a).contains s&&a.dst != some s|none=>true)&&(match a.dst with|some s=> !(usesT b).contains s|none=>true) &&
 ((clsP a&&(clsP b||a.unord.contains i))||(clsP b&&b.unord.contains j)||(clsN a&&clsN b)||(clsN a&&clsC b&&a.unord.contains i)||(clsC a&&clsN b&&b.unord.contains j))
def SOK (E:Env)(ais:List AIns)(nidf:Nat→Option Nat)(lg:Nat→LogE)(k:Nat)(st st' :RSt):Prop :=
 ∃ i,ais[k]? =some i∧stepD E ais (nidf k) k i st=some (st',lg k)
structure Nids (ais:List AIns)(nidf:Nat→Option Nat):Prop where
 alloc:∀ (k:Nat) i,ais[k]? =some i→(nidf k).isSome=i.op.isAlloc
 inj:∀ j k n,nidf j=some n→nidf k=some n→j=k
def LogOK (ais:List AIns)(lg:Nat→LogE):Prop :=
 ∀ (k:Nat) i e,ais[k]? =some i→e ∈ i.unord→hitsObj (lg e).hits (lg k).reads=false∧(i.op.isAlloc=true→(lg e).sees≤(lg k).id)
section
variable {E:Env} {ais:List AIns} {nid:Option Nat} {k q:Nat} {v:AVal} {st st1 st2 st' :RSt}
theorem stepD_iff {i:AIns}{l:LogE}:stepD E ais nid k i st=some (st',l)↔(killing st i.op&&ais.any fun a=>a.unord.contains k&& !calm st i.op a)=false∧∃ rs,stepA E ais nid k i st=some (st',rs)∧l=logOf E i nid st st' rs:=by
 unfold stepD
 constructor
 ·intro h
  split at h
  ·cases h
  ·rename_i hk
   refine ⟨by simpa using hk,?_⟩
   split at h
   ·rename_i s rs hs
    cases h
    exact ⟨rs,hs,rfl⟩
   ·cases h
 ·rintro ⟨hk,rs,hs,rfl⟩
  rw [if_neg (by rw [hk];simp),hs]
theorem stepD_of {i:AIns}{l:LogE}(h:killing st i.op=false∧∃ rs,stepA E ais nid k i st=some (st',rs)∧l=logOf E i nid st st' rs):stepD E ais nid k i st=some (st',l) :=
 stepD_iff.2 ⟨by rw [h.1];rfl,h.2⟩
theorem kill_un {j:Nat}{i b:AIns}{q:Nat}(h:(killing st i.op&&ais.any fun a=>a.unord.contains j&& !calm st i.op a)=false)(hk:killing st i.op=true)(hb:ais[q]? =some b)(hu:j ∈ b.unord):calm st i.op b=true:=by
 rw [hk,Bool.true_and] at h
 have:=List.any_eq_false.1 h b (List.mem_of_getElem? hb)
 simpa [hu] using this
theorem calm_iff {op:AOp}{a:AIns}(h:calm st op a=true):∃ sz by' ob x y s id z lo n j o,op= .append sz by' ob x y∧a.op= .mov (.slot s)∧a.dst=none∧a.guard=none∧rho st.T st.L x= .sref id z lo n∧st.T[s]? =some (.ptr j o)∧j≠id:=by
 unfold calm at h
 split at h
 ·rename_i sz by' ob x y s ho
  simp only [Bool.and_eq_true,Option.isNone_iff_eq_none] at h
  obtain ⟨⟨h1,h2⟩,h3⟩:=h
  split at h3
  ·rename_i id z lo n j o h4 h5
   exact ⟨_,_,_,_,_,_,_,_,_,_,_,_,rfl,ho,h1,h2,h4,h5,fun e=>by subst e;simp at h3⟩
  ·cases h3
 ·cases h
theorem calm_congr {s2:RSt}{op:AOp}{a:AIns}(h:∀ x,x ∈ op.opds→rho s2.T s2.L x=rho st.T st.L x)(hT:s2.T=st.T):calm s2 op a=calm st op a:=by
 unfold calm
 split
 ·rw [h _ (by simp [AOp.opds]),hT]
 ·rfl
theorem calm_val {sz by' :Nat}{ob:Bool}{x y:Opd}{id z lo n j o:Nat}(h:rho st.T st.L x= .sref id z lo n)(hj:j≠id):CalmV st (.append sz by' ob x y) (.ptr j o):=fun _ _ _ x' _ id' _ _ _ e hx=>by
 cases e
 rw [h] at hx
 cases hx
 simp [AVal.kill,hj]
theorem mov_step {a:AIns}{s j o:Nat}(h1:a.op= .mov (.slot s))(h2:a.dst=none)(h3:a.guard=none)(h:st.T[s]? =some (.ptr j o)):stepA E ais nid k a st=some (put st k (.ptr j o),[]):=by
 have e:(xfer st (.slot s))=(.ptr j o,st):=by simp [xfer,rho,List.getD,h,AVal.asD]
 simp only [stepA,wantedA,h3,stepW,h1,AOp.isEff,Bool.false_eq_true,if_false,e,h2]
 cases nid<;>rfl
theorem app_slot {i:AIns}{sz by' :Nat}{ob:Bool}{x y:Opd}{id z lo n s j o:Nat}{rs:List Nat}(hop:i.op= .append sz by' ob x y)(hx:rho st.T st.L x= .sref id z lo n)(h:stepA E ais nid k i st=some (st',rs))(hs:i.dst≠some s)(hT:st.T[s]? =some (.ptr j o))(hj:j≠id):st'.T[s]? =some (.ptr j o):=by
 have slot:∀ s1 s2:RSt,toSlotX nid s1 k i.dst=some s2→s1.T[s]? =some (.ptr j o)→s2.T[s]? =some (.ptr j o):=by
  intro s1 s2 h h1
  cases hd:i.dst with
  |none=>rw [hd] at h;cases nid<;>cases h<;>exact h1
  |some t =>
   have hne:t≠s:=fun e=>hs (by rw [hd,e])
   rw [hd] at h
   cases nid<;>simp only [toSlotX,toSlot,toSlotN] at h<;>split at h<;>first|(cases h;done)|(cases h;simp only [List.getElem?_set_ne hne];exact h1)
 unfold stepA at h
 split at h
 ·split at h
  ·rename_i s1 rs1 h1
   split at h
   ·rename_i s2 h2
    cases h
    refine slot _ _ h2 ?_
    simp only [stepW,hop,AOp.isEff,if_true,effOp,hx] at h1
    split at h1
    ·rename_i s3 h3
     cases h1
     split at h3
     ·unfold appendObj at h3
      split at h3
      ·split at h3
       ·split at h3
        ·cases h3
         have e:∀ (l:List AVal) (s:Nat),l[s]? =some (.ptr j o)→(killL id l)[s]? =some (.ptr j o):=by
          intro l
          induction l with
          |nil=>intro s h;simp at h
          |cons a l ih =>
           intro s h
           cases s with
           |zero=>simp at h;subst h;simp [killL,AVal.kill,hj]
           |succ s=>simpa [killL] using ih s (by simpa using h)
         exact e _ _ hT
        ·cases h3
       ·cases h3
      ·cases h3
     ·cases h3
    ·cases h1
   ·cases h
  ·cases h
 ·split at h
  ·rename_i s2 h2
   cases h
   exact slot _ _ h2 hT
  ·cases h
 ·cases h
theorem newObjA_tch (st:RSt)(nid:Option Nat)(o:AObj):(newObjA st nid o).tch=st.tch:=by cases nid<;>rfl
theorem killing_congr {s2:RSt}{op:AOp}(h:∀ x,x ∈ op.opds→rho s2.T s2.L x=rho st.T st.L x):killing s2 op=killing st op:=by
 cases op<;>simp only [killing]
 rename_i x y
 rw [h x (by simp [AOp.opds])]
theorem sees_congr {s2:RSt}{op:AOp}(h:∀ x,x ∈ op.opds→rho s2.T s2.L x=rho st.T st.L x)(hH:s2.H=st.H):seesOf E s2 op=seesOf E st op:=by
 cases op<;>simp only [seesOf,AOp.opds] at h ⊢
 case call f xs=>rw [hH,map_congr_mem h]
 case callv x xs=>rw [hH,h x (by simp),map_congr_mem (l:=xs) fun y hy=>h y (by simp [hy])]
theorem rho_put_all {i:AIns}(hu:q ∉ usesL ais i):∀ x,x ∈ i.op.opds→rho (put st q v).T (put st q v).L x=rho st.T st.L x :=
 fun _ hx=>rho_put (mem_usesL_opd hx hu)
theorem NF.rho {n:Nat}{dst:Option Nat}{f:RSt→RSt}(hf:NF k n dst f){x:Opd}(h:k ∉ x.locs)(ht:∀ t,dst=some t→t ∉ x.slots)(s:RSt):rho (f s).T (f s).L x=rho s.T s.L x:=by
 cases hf with
 |mk o v u =>
  simp only
  rw [rho_setT ht,rho_put h,setO_T,setO_L]
theorem NF.wanted {n:Nat}{dst:Option Nat}{f:RSt→RSt}(hf:NF k n dst f){g:Option (Nat×Bool)}(h:∀ j b,g=some (j,b)→j≠k)(s:RSt):wantedA (f s).L g=wantedA s.L g:=by
 cases hf with
 |mk o v u =>
  simp only
  rw [setT_L,wanted_put h,setO_L]
theorem NF.tch {n:Nat}{dst:Option Nat}{f:RSt→RSt}(hf:NF k n dst f)(s:RSt):(f s).tch=s.tch:=by
 cases hf with
 |mk o v u =>
  simp only
  rw [setT_tch]
  exact setO_tch _ _ _
theorem NF.lenT {n:Nat}{dst:Option Nat}{f:RSt→RSt}(hf:NF k n dst f)(s:RSt):(f s).T.length=s.T.length:=by
 cases hf with
 |mk o v u =>
  simp only
  rw [setT_lenT]
  show (setO s n o).T.length=_
  rw [setO_T]
theorem NF.lenL {n:Nat}{dst:Option Nat}{f:RSt→RSt}(hf:NF k n dst f)(s:RSt):(f s).L.length=s.L.length:=by
 cases hf with
 |mk o v u =>
  simp only
  rw [setT_L]
  simp [put,setO_L]
theorem NF.comm {n m j i:Nat}{d e:Option Nat}{f g:RSt→RSt}(hf:NF j n d f)(hg:NF i m e g)(hji:j≠i)(hnm:n≠m)(hde:∀ s,e=some s→d≠some s)(s:RSt):f (g s)=g (f s):=by
 cases hf with
 |mk o v u =>
  cases hg with
  |mk o' v' u' =>
   have hset:∀ (l:List AObj) (a b:AObj),(l.set m b).set n a=(l.set n a).set m b:=fun l a b=>List.set_comm _ _ (fun e=>hnm e.symm)
   have hL:∀ (l:List AVal) (a b:AVal),(l.set i b).set j a=(l.set j a).set i b:=fun l a b=>List.set_comm _ _ (fun e=>hji e.symm)
   cases o<;>cases o' <;>cases d<;>cases e<;>simp only [setT,setO,setH,put,hL,hset]
   all_goals (
    rename_i t1 t2
    have hT:∀ (l:List AVal) (a b:AVal),(l.set t2 b).set t1 a=(l.set t1 a).set t2 b:=fun l a b=>List.set_comm _ _ (fun e=>hde t2 rfl (by rw [e]))
    rw [hT])
theorem sees_setH2 {i:AIns}{m:Nat}{o:AObj}(hs:seesOf E st i.op≤m):seesOf E (setH st m o) i.op=seesOf E st i.op:=by
 have e:∀ x,rho (setH st m o).T (setH st m o).L x=rho st.T st.L x:=fun _=>rfl
 have e1:(setH st m o).H=st.H.set m o:=rfl
 have e2:∀ xs,List.map (rho (setH st m o).T (setH st m o).L) xs=List.map (rho st.T st.L) xs:=fun _=>rfl
 cases hop:i.op<;>rw [hop] at hs<;>simp only [seesOf] at hs ⊢
 case call f xs =>
  simp only [e1,e2,List.length_set]
  by_cases hp:E.prom f=true
  ·rw [if_pos hp,if_pos hp]
  ·rw [if_neg hp] at hs ⊢
   rw [if_neg hp]
   exact closeN_set _ _ _ _ _ _ hs
 case callv x xs =>
  simp only [e x,e1,e2,List.length_set]
  split at hs
  ·rename_i f first caps hx
   by_cases hp:E.prom f=true
   ·simp only [hp,if_true]
   ·rw [if_neg hp] at hs ⊢
    rw [if_neg hp]
    exact closeN_set _ _ _ _ _ _ hs
  ·rfl
theorem NF.sees {n j:Nat}{dst:Option Nat}{f:RSt→RSt}(hf:NF j n dst f){i:AIns}(hu:j ∉ usesL ais i)(ht:∀ t,dst=some t→t ∉ usesT i) :
  ∃ o:Option AObj,seesOf E (f st) i.op=seesOf E (setO st n o) i.op:=by
 cases hf with
 |mk o v u =>
  refine ⟨o,?_⟩
  refine sees_congr (fun x hx=> ?_) ?_
  ·simp only
   rw [rho_setT (fun t h1 h2=>ht t h1 ?_),rho_put (mem_usesL_opd hx hu)]
   unfold usesT
   exact List.mem_flatMap.2 ⟨x,hx,h2⟩
  ·simp only [setT_H]
   rfl
theorem C_NF {i:AIns}{n j:Nat}{dst:Option Nat}{f:RSt→RSt}(hf:NF j n dst f)(hC:clsC i=true)(hjk:j≠k)(hu:j ∉ usesL ais i)(ht:∀ t,dst=some t→t ∉ usesT i)(hd:∀ s,i.dst=some s→dst≠some s)(hn:n<st.H.length)(hs:seesOf E st i.op≤n) :
  stepA E ais nid k i (f st)=(stepA E ais nid k i st).map (fun p=>(f p.1,p.2))∧seesOf E (f st) i.op=seesOf E st i.op:=by
 refine ⟨?_,?_⟩
 ·cases hf with
  |mk o v u =>
   have h1:=stepA_setT (E:=E) (ais:=ais) (nid:=nid) (k:=k) (st:=put (setO st n o) j v) (u:=u) hC ht hd
   have h2:=stepA_put (E:=E) (nid:=nid) (v:=v) (st:=setO st n o) hjk hu (.of (clsC_kill hC _))
   have h3:stepA E ais nid k i (setO st n o)=(stepA E ais nid k i st).map (fun p=>(setO p.1 n o,p.2)):=by
    cases o with
    |none=>simp only [setO];cases stepA E ais nid k i st<;>rfl
    |some o=>exact stepA_setH hC hn hs
   simp only
   rw [h1,h2,h3]
   cases stepA E ais nid k i st<;>rfl
 ·obtain ⟨o,ho⟩:=hf.sees (E:=E) (st:=st) hu ht
  rw [ho]
  cases o with
  |none=>rfl
  |some o=>exact sees_setH2 hs
theorem C_NF_back {i:AIns}{n j:Nat}{dst:Option Nat}{f:RSt→RSt}(hf:NF j n dst f)(hu:j ∉ usesL ais i)(ht:∀ t,dst=some t→t ∉ usesT i)(hs:seesOf E (f st) i.op≤n):seesOf E st i.op=seesOf E (f st) i.op:=by
 obtain ⟨o,ho⟩:=hf.sees (E:=E) (st:=st) hu ht
 rw [ho] at hs ⊢
 cases o with
 |none=>rfl
 |some o=>exact sees_setH hs
theorem logOf_eq {i:AIns}{s s2 s' s2' :RSt}{rs:List Nat}(h1:s2.tch=s.tch)(h2:s2'.tch=s'.tch)(h3:seesOf E s2 i.op=seesOf E s i.op):logOf E i nid s2 s2' rs=logOf E i nid s s' rs:=by
 simp only [logOf,h1,h2,h3]
theorem logOf_eq' {i:AIns}{s s2 s' s2' :RSt}{rs:List Nat}(h1:s2'.tch.take (s2'.tch.length - s2.tch.length)=s'.tch.take (s'.tch.length - s.tch.length))(h3:seesOf E s2 i.op=seesOf E s i.op):logOf E i nid s2 s2' rs=logOf E i nid s s' rs:=by
 simp only [logOf,h1,h3]
theorem Still.rhoAll {i b:AIns}{d:List Touch}{nidb:Option Nat}{kb:Nat}(h:Still kb b.dst nidb d st st')(hl:kb ∉ usesL ais i)(ht:∀ s,b.dst=some s→s ∉ usesT i):∀ x,x ∈ i.op.opds→Abs.rho st'.T st'.L x=Abs.rho st.T st.L x:=by
 intro x hx
 refine h.rho (mem_usesL_opd hx hl) fun s hs e=>ht s e ?_
 unfold usesT
 exact List.mem_flatMap.2 ⟨x,hx,hs⟩
theorem Still.wantedAll {i b:AIns}{d:List Touch}{nidb:Option Nat}{kb:Nat}(h:Still kb b.dst nidb d st st')(hl:kb ∉ usesL ais i):wantedA st'.L i.guard=wantedA st.L i.guard :=
 h.wanted fun _ _ hg=>mem_usesL_guard hg hl
def Marked (ais:List AIns)(st:RSt):Prop:=∀ (k:Nat) i s,ais[k]? =some i→i.op.isAlloc=true→i.dst=some s→st.tch.any (Touch.slotHit s)=true
theorem Still.marked {kb:Nat}{dst nidb:Option Nat}{d:List Touch}(h:Still kb dst nidb d st st')(hm:Marked ais st):Marked ais st' :=by
 intro k i s hi ha hd
 rw [h.tch,List.any_append,hm k i s hi ha hd]
 simp
theorem stepA_ext {i:AIns}{rs:List Nat}(hn:nid.isSome=i.op.isAlloc)(h:stepA E ais nid k i st=some (st',rs)):st.H.length≤st'.H.length∧∃ d,st'.tch=d++st.tch:=by
 cases hk:killing st i.op with
 |false =>
  obtain ⟨d,hd⟩:=Still.stepA hk hn h
  exact ⟨hd.lenH,d,hd.tch⟩
 |true =>
  have slot:∀ {s s2:RSt} {dst:Option Nat},toSlotX nid s k dst=some s2→s.H.length=s2.H.length∧∃ d,s2.tch=d++s.tch:=by
   intro s s2 dst h
   have hx:(xfer s (.loc k)).2.H=s.H∧(xfer s (.loc k)).2.tch=s.tch:=by
    simp only [xfer]
    split<;>exact ⟨rfl,rfl⟩
   cases dst with
   |none=>cases nid<;>simp only [toSlotX,toSlot,toSlotN,Option.some.injEq] at h<;>subst h<;>exact ⟨rfl,[],rfl⟩
   |some t =>
    cases nid<;>simp only [toSlotX,toSlot,toSlotN] at h
    ·split at h
     ·cases h;exact ⟨by simp only [hx.1],[_],rfl⟩
     ·cases h
    ·split at h
     ·cases h;exact ⟨by simp only [hx.1],[],by simp only [hx.2];rfl⟩
     ·cases h
  have put0:∀ {v:AVal} {s2:RSt},toSlotX nid (put st k v) k i.dst=some s2→st.H.length≤s2.H.length∧∃ d,s2.tch=d++st.tch:=by
   intro v s2 h
   obtain ⟨h1,d,h2⟩:=slot h
   exact ⟨Nat.le_of_eq h1,d,h2⟩
  simp only [stepA] at h
  split at h
  ·split at h
   ·rename_i s1 rs1 h1
    split at h
    ·rename_i s2 h2
     cases h
     obtain ⟨e1,d,e2⟩:=slot h2
     have hw:st.H.length≤s1.H.length∧∃ d,s1.tch=d++st.tch:=by
      cases hop:i.op<;>rw [hop] at hk h1<;>simp only [killing,Bool.false_eq_true] at hk
      ·rename_i sz bytes ob x y
       simp only [stepW,AOp.isEff,if_true] at h1
       split at h1
       ·rename_i s3 h3
        cases h1
        simp only [effOp] at h3
        split at hk
        ·rename_i id z lo len hr
         rw [hr] at h3
         simp only at h3
         split at h3
         ·simp only [appendObj] at h3
          split at h3
          ·split at h3
           ·split at h3
            ·cases h3
             refine ⟨by simp [put];omega,[_],rfl⟩
            ·cases h3
           ·cases h3
          ·cases h3
         ·cases h3
        ·cases hk
       ·cases h1
     obtain ⟨e3,d2,e4⟩:=hw
     exact ⟨by omega,d++d2,by rw [e2,e4,List.append_assoc]⟩
    ·cases h
   ·cases h
  ·split at h
   ·rename_i s2 h2
    cases h
    exact put0 h2
   ·cases h
  ·cases h
theorem Marked.ext (hm:Marked ais st)(h:∃ d,st'.tch=d++st.tch):Marked ais st' :=by
 obtain ⟨d,h⟩:=h
 intro k i s hi ha hd
 rw [h,List.any_append,hm k i s hi ha hd]
 simp
theorem swap {nidf:Nat→Option Nat}{lg:Nat→LogE}(hn:Nids ais nidf)(hlg:LogOK ais lg){j i:Nat}{a b:AIns}(hp:pairOK ais j a i b=true)(ha:ais[j]? =some a)(hb:ais[i]? =some b)(hji:j≠i)
  (hin:∀ k n,nidf k=some n→n<st.H.length) (hsl:Marked ais st) (h1:SOK E ais nidf lg j st st1) (h2:SOK E ais nidf lg i st1 st2):∃ st1',SOK E ais nidf lg i st st1' ∧SOK E ais nidf lg j st1' st2:=by
 obtain ⟨a',ha',h1⟩:=h1
 rw [ha] at ha';cases ha'
 obtain ⟨b',hb',h2⟩:=h2
 rw [hb] at hb';cases hb'
 obtain ⟨ka0,rsa,sa,la⟩:=stepD_iff.1 h1
 obtain ⟨kb0,rsb,sb,lb⟩:=stepD_iff.1 h2
 simp only [pairOK,Bool.and_eq_true,Bool.not_eq_true',List.contains_eq_mem,decide_eq_false_iff_not] at hp
 obtain ⟨⟨⟨⟨u1,u2⟩,t1⟩,t2⟩,hcls⟩:=hp
 have t1' :∀ s,b.dst=some s→s ∉ usesT a:=by
  intro s hs
  rw [hs] at t1
  simp at t1
  exact t1.1
 have t3:∀ s,b.dst=some s→a.dst≠some s:=by
  intro s hs
  rw [hs] at t1
  simp at t1
  exact t1.2
 have t4:∀ s,a.dst=some s→b.dst≠some s:=fun s hs h=>t3 s h hs
 have t2' :∀ s,a.dst=some s→s ∉ usesT b:=by
  intro s hs
  rw [hs] at t2
  simpa using t2
 have nida:=hn.alloc j a ha
 have nidb:=hn.alloc i b hb
 simp only [Bool.or_eq_true,Bool.and_eq_true,decide_eq_true_eq] at hcls
 cases kb:killing st1 b.op with
 |true =>
  have hu:clsP a=true∧i ∈ a.unord:=by
   rcases hcls with (((h|h)|h)|h)|h
   ·rcases h.2 with h2|h2
    ·rw [clsP_kill h2] at kb;cases kb
    ·exact ⟨h.1,h2⟩
   ·rw [clsP_kill h.1] at kb;cases kb
   ·rw [clsN_kill h.2] at kb;cases kb
   ·rw [clsC_kill h.1.2] at kb;cases kb
   ·rw [clsN_kill h.1.2] at kb;cases kb
  obtain ⟨sz,by',ob,x,y,s,id,z,lo,n,jd,o,hop,hmv,hd,hg,hx,hT,hne⟩:=calm_iff (kill_un kb0 kb ha hu.2)
  obtain ⟨v,e0,_⟩:=P_step hu.1 sa
  have hT0:st.T[s]? =some (.ptr jd o):=by rw [e0] at hT;exact hT
  rw [mov_step hmv hd hg hT0] at sa
  obtain ⟨rfl,rfl⟩:put st j (.ptr jd o)=st1∧[]=rsa:=by simpa using sa
  have hx0:rho st.T st.L x= .sref id z lo n:=by rw [← rho_put_all u1 x (by simp [hop,AOp.opds])];exact hx
  rw [stepA_put hji u1 (by rw [hop];exact calm_val hx0 hne)] at sb
  cases hsb:stepA E ais (nidf i) i b st with
  |none=>rw [hsb] at sb;cases sb
  |some p =>
   obtain ⟨s',rs'⟩:=p
   rw [hsb] at sb
   simp only [Option.map_some,Option.some.injEq,Prod.mk.injEq] at sb
   obtain ⟨rfl,rfl⟩:=sb
   have hTs:=app_slot hop hx0 hsb (fun e=>t1' s e (by simp [usesT,hmv,AOp.opds,Opd.slots])) hT0 hne
   refine ⟨s',⟨b,hb,stepD_iff.2 ⟨?_,rs',hsb,?_⟩⟩,a,ha,stepD_iff.2 ⟨by rw [clsP_kill hu.1];rfl,[],mov_step hmv hd hg hTs,?_⟩⟩
   ·rw [← kb0,killing_congr (rho_put_all u1)]
    simp only [calm_congr (rho_put_all u1) (show (put st j (.ptr jd o)).T=st.T from rfl)]
   ·rw [lb];exact logOf_eq rfl rfl (sees_congr (rho_put_all u1) rfl)
   ·rw [la];exact (logOf_eq' (by simp [put]) (by rw [clsP_sees hu.1,clsP_sees hu.1])).symm
 |false =>
 cases ka:killing st a.op with
 |true =>
  have hu:clsP b=true∧j ∈ b.unord:=by
   rcases hcls with (((h|h)|h)|h)|h
   ·rw [clsP_kill h.1] at ka;cases ka
   ·exact ⟨h.1,h.2⟩
   ·rw [clsN_kill h.1] at ka;cases ka
   ·rw [clsN_kill h.1.1] at ka;cases ka
   ·rw [clsC_kill h.1.1] at ka;cases ka
  obtain ⟨sz,by',ob,x,y,s,id,z,lo,n,jd,o,hop,hmv,hd,hg,hx,hT,hne⟩:=calm_iff (kill_un ka0 ka hb hu.2)
  have hT1:=app_slot hop hx sa (fun e=>t2' s e (by simp [usesT,hmv,AOp.opds,Opd.slots])) hT hne
  rw [mov_step hmv hd hg hT1] at sb
  obtain ⟨rfl,rfl⟩:put st1 i (.ptr jd o)=st2∧[]=rsb:=by simpa using sb
  refine ⟨put st i (.ptr jd o),⟨b,hb,stepD_iff.2 ⟨by rw [clsP_kill hu.1];rfl,[],mov_step hmv hd hg hT,?_⟩⟩,a,ha,stepD_iff.2 ⟨?_,rsa,?_,?_⟩⟩
  ·rw [lb];exact logOf_eq' (by simp [put]) (by rw [clsP_sees hu.1,clsP_sees hu.1])
  ·rw [← ka0,killing_congr (rho_put_all u2)]
   simp only [calm_congr (rho_put_all u2) (show (put st i (.ptr jd o)).T=st.T from rfl)]
  ·rw [stepA_put (fun e=>hji e.symm) u2 (by rw [hop];exact calm_val hx hne),sa]
   rfl
  ·rw [la];exact (logOf_eq (s:=st) (s2:=put st i (.ptr jd o)) (s' :=st1) (s2' :=put st1 i (.ptr jd o)) rfl rfl (sees_congr (rho_put_all u2) rfl)).symm
 |false =>
 obtain ⟨da,stA⟩:=Still.stepA ka nida sa
 rcases hcls with (((hcls|hcls)|hcls)|hcls)|hcls
 ·
  obtain ⟨hPa,hcls⟩:=hcls
  obtain ⟨v,rfl,Ta⟩:=P_step hPa sa
  have kb' :killing st b.op=false:=by rw [← killing_congr (rho_put_all u1)];exact kb
  have hs:=stepA_put (E:=E) (nid:=nidf i) (v:=v) hji u1 (.of kb')
  rw [hs] at sb
  cases hsb:stepA E ais (nidf i) i b st with
  |none=>rw [hsb] at sb;cases sb
  |some p =>
   obtain ⟨s',rs'⟩:=p
   rw [hsb] at sb
   simp only [Option.map_some,Option.some.injEq,Prod.mk.injEq] at sb
   obtain ⟨rfl,rfl⟩:=sb
   have lb' :lg i=logOf E b (nidf i) st s' rs' :=by rw [lb];exact logOf_eq rfl rfl (sees_congr (rho_put_all u1) rfl)
   obtain ⟨db,stB⟩:=Still.stepA kb' nidb hsb
   refine ⟨s',⟨b,hb,stepD_of ⟨kb',rs',hsb,lb'⟩⟩,a,ha,stepD_of ⟨clsP_kill hPa _,rsa,?_,?_⟩⟩
   ·refine Ta s' (stB.rhoAll u2 t1') (stB.wantedAll u2) fun id hid=> ?_
    rcases hcls with hPb|hun
    ·obtain ⟨u,rfl,_⟩:=P_step hPb hsb
     exact ObjEq.refl _
    ·have:=(hlg j a i ha hun).1
     rw [lb',la] at this
     exact stB.reads (E:=E) (i:=b) (rs:=rs') this hid
   ·rw [la]
    refine (logOf_eq' ?_ ?_).symm
    ·simp [put]
    ·rw [clsP_sees hPa,clsP_sees hPa]
 ·
  obtain ⟨hPb,hun⟩:=hcls
  obtain ⟨v,rfl,Tb⟩:=P_step hPb sb
  have sb0:stepA E ais (nidf i) i b st=some (put st i v,rsb):=by
   refine Tb st (fun x hx=>(stA.rhoAll u1 t2' x hx).symm) (stA.wantedAll u1).symm fun id hid=> ?_
   have:=(hlg i b j hb hun).1
   rw [la,lb] at this
   exact (stA.reads (E:=E) (i:=a) (rs:=rsa) this hid).symm
  refine ⟨put st i v,⟨b,hb,stepD_of ⟨clsP_kill hPb _,rsb,sb0,?_⟩⟩,a,ha,stepD_of ⟨by rw [killing_congr (rho_put_all u2)];exact ka,rsa,?_,?_⟩⟩
  ·rw [lb]
   refine (logOf_eq' ?_ ?_)
   ·simp [put]
   ·rw [clsP_sees hPb,clsP_sees hPb]
  ·rw [stepA_put (fun e=>hji e.symm) u2 (.of ka),sa]
   rfl
  ·rw [la]
   exact (logOf_eq (s:=st) (s2:=put st i v) (s' :=st1) (s2' :=put st1 i v) rfl rfl (sees_congr (rho_put_all u2) rfl)).symm
 ·
  obtain ⟨hNa,hNb⟩:=hcls
  rw [clsN_alloc hNa] at nida
  rw [clsN_alloc hNb] at nidb
  obtain ⟨n,hn1⟩:=Option.isSome_iff_exists.1 nida
  obtain ⟨m,hm1⟩:=Option.isSome_iff_exists.1 nidb
  rw [hn1] at sa
  rw [hm1] at sb
  obtain ⟨rfl,f,hf,rfl,Ta⟩:=N_step hNa sa
  obtain ⟨rfl,g,hg,rfl,Tb⟩:=N_step hNb sb
  have hnm:n≠m:=by
   rintro rfl
   exact hji (hn.inj j i n hn1 hm1)
  have ut:∀ {c:AIns} {x:Opd} {t:Nat},x ∈ c.op.opds→t ∉ usesT c→t ∉ x.slots:=by
   intro c x t hx ht h
   apply ht
   unfold usesT
   exact List.mem_flatMap.2 ⟨x,hx,h⟩
  have sb0:stepA E ais (some m) i b st=some (g st,[]) :=
   Tb st (fun x hx=>(hf.rho (mem_usesL_opd hx u1) (fun t ht=>ut hx (t2' t ht)) st).symm) (hf.wanted (fun _ _ h=>mem_usesL_guard h u1) st).symm ⟨(hf.lenT st).symm,(hf.lenL st).symm,fun s hs=>hsl i b s hb (clsN_alloc hNb) hs⟩
  have sa0:stepA E ais (some n) j a (g st)=some (f (g st),[]) :=
   Ta (g st) (fun x hx=>hg.rho (mem_usesL_opd hx u2) (fun t ht=>ut hx (t1' t ht)) st) (hg.wanted (fun _ _ h=>mem_usesL_guard h u2) st) ⟨hg.lenT st,hg.lenL st,fun s hs=>by rw [hg.tch];exact hsl j a s ha (clsN_alloc hNa) hs⟩
  refine ⟨g st,⟨b,hb,stepD_of ⟨clsN_kill hNb _,[],by rw [hm1];exact sb0,?_⟩⟩,a,ha,stepD_of ⟨clsN_kill hNa _,[],by rw [hn1,sa0,hf.comm hg hji hnm t3],?_⟩⟩
  ·rw [lb]
   refine logOf_eq' ?_ ?_
   ·simp [hf.tch,hg.tch]
   ·rw [clsN_sees hNb,clsN_sees hNb]
  ·rw [la]
   refine (logOf_eq' ?_ ?_)
   ·simp [hf.tch,hg.tch]
   ·rw [clsN_sees hNa,clsN_sees hNa]
 ·
  obtain ⟨⟨hNa,hCb⟩,hun⟩:=hcls
  have hal:=clsN_alloc hNa
  rw [hal] at nida
  obtain ⟨n,hn1⟩:=Option.isSome_iff_exists.1 nida
  rw [hn1] at sa
  obtain ⟨rfl,f,hf,rfl,Ta⟩:=N_step hNa sa
  have hsee:seesOf E (f st) b.op≤n:=by
   have:=(hlg j a i ha hun).2 hal
   rw [lb,la] at this
   simpa [logOf,hn1] using this
  have hsee0:=C_NF_back hf u1 t2' hsee
  obtain ⟨hs1,hs2⟩:=C_NF (E:=E) (ais:=ais) (nid:=nidf i) hf hCb hji u1 t2' t3 (hin j n hn1) (by rw [hsee0];exact hsee)
  rw [hs1] at sb
  cases hsb:stepA E ais (nidf i) i b st with
  |none=>rw [hsb] at sb;cases sb
  |some p =>
   obtain ⟨s',rs'⟩:=p
   rw [hsb] at sb
   simp only [Option.map_some,Option.some.injEq,Prod.mk.injEq] at sb
   obtain ⟨rfl,rfl⟩:=sb
   obtain ⟨db,stB⟩:=Still.stepA (clsC_kill hCb st) nidb hsb
   refine ⟨s',⟨b,hb,stepD_of ⟨clsC_kill hCb _,rs',hsb,?_⟩⟩,a,ha,stepD_of ⟨clsN_kill hNa _,[],?_,?_⟩⟩
   ·rw [lb]
    exact logOf_eq (hf.tch _) (hf.tch _) hs2
   ·rw [hn1]
    exact Ta s' (stB.rhoAll u2 t1') (stB.wantedAll u2) ⟨stB.lenT,stB.lenL,fun s hs=>stB.marked hsl j a s ha hal hs⟩
   ·rw [la]
    refine logOf_eq' ?_ ?_
    ·simp [hf.tch]
    ·rw [clsN_sees hNa,clsN_sees hNa]
 ·
  obtain ⟨⟨hCa,hNb⟩,hun⟩:=hcls
  have hal:=clsN_alloc hNb
  rw [hal] at nidb
  obtain ⟨m,hm1⟩:=Option.isSome_iff_exists.1 nidb
  rw [hm1] at sb
  obtain ⟨rfl,g,hg,rfl,Tb⟩:=N_step hNb sb
  have hsee:seesOf E st a.op≤m:=by
   have:=(hlg i b j hb hun).2 hal
   rw [lb,la] at this
   simpa [logOf,hm1] using this
  obtain ⟨hs1,hs2⟩:=C_NF (E:=E) (ais:=ais) (nid:=nidf j) hg hCa (fun e=>hji e.symm) u2 t1' t4 (hin i m hm1) hsee
  have sb0:stepA E ais (some m) i b st=some (g st,[]) :=
   Tb st (fun x hx=>(stA.rhoAll u1 t2' x hx).symm) (stA.wantedAll u1).symm ⟨stA.lenT.symm,stA.lenL.symm,fun s hs=>hsl i b s hb hal hs⟩
  refine ⟨g st,⟨b,hb,stepD_of ⟨clsN_kill hNb _,[],by rw [hm1];exact sb0,?_⟩⟩,a,ha,stepD_of ⟨clsC_kill hCa _,rsa,?_,?_⟩⟩
  ·rw [lb]
   refine logOf_eq' ?_ ?_
   ·simp [hg.tch]
   ·rw [clsN_sees hNb,clsN_sees hNb]
  ·rw [hs1,sa];rfl
  ·rw [la]
   exact (logOf_eq (hg.tch _) (hg.tch _) hs2).symm
end
end Go.Abs
namespace Go.Abs
inductive RunL (E:Env) (ais:List AIns) (nidf:Nat→Option Nat) (lg:Nat→LogE):List Nat→RSt→RSt→Prop where
 |nil (st:RSt):RunL E ais nidf lg [] st st
 |cons {k:Nat} {ks:List Nat} {st st1 st2:RSt}:SOK E ais nidf lg k st st1→RunL E ais nidf lg ks st1 st2→RunL E ais nidf lg (k::ks) st st2
section
variable {E:Env} {ais:List AIns} {nidf:Nat→Option Nat} {lg:Nat→LogE} {st st1 st2 fin:RSt}
theorem SOK.len (hn:Nids ais nidf){k:Nat}(h:SOK E ais nidf lg k st st1):st.H.length≤st1.H.length:=by
 obtain ⟨i,hi,h⟩:=h
 obtain ⟨hk,rs,hs,_⟩:=stepD_iff.1 h
 exact (stepA_ext (hn.alloc k i hi) hs).1
theorem SOK.marked (hn:Nids ais nidf){k:Nat}(h:SOK E ais nidf lg k st st1)(hm:Marked ais st):Marked ais st1:=by
 obtain ⟨i,hi,h⟩:=h
 obtain ⟨hk,rs,hs,_⟩:=stepD_iff.1 h
 exact hm.ext (stepA_ext (hn.alloc k i hi) hs).2
theorem RunL.front (hn:Nids ais nidf)(hlg:LogOK ais lg){i:Nat}{b:AIns}(hb:ais[i]? =some b){rest:List Nat} :
  ∀ (js:List Nat) (st:RSt),(∀ j,j ∈ js→j≠i∧∃ a,ais[j]? =some a∧pairOK ais j a i b=true)→(∀ k n,nidf k=some n→n<st.H.length)→Marked ais st→RunL E ais nidf lg (js++i::rest) st fin →
   ∃ st',SOK E ais nidf lg i st st' ∧RunL E ais nidf lg (js++rest) st' fin
 |[],st,_,_,_,h=>by
  cases h with
  |cons h1 h2=>exact ⟨_,h1,h2⟩
 |j::js,st,hj,hin,hsl,h=>by
  cases h with
  |cons h1 h2 =>
   obtain ⟨s2,g1,g2⟩:=RunL.front hn hlg hb js _ (fun j' hj' =>hj j' (by simp [hj'])) (fun k n hk=>Nat.lt_of_lt_of_le (hin k n hk) (h1.len hn)) (h1.marked hn hsl) h2
   obtain ⟨hne,a,ha,hp⟩:=hj j (by simp)
   obtain ⟨s1,e1,e2⟩:=swap hn hlg hp ha hb hne hin hsl h1 g1
   exact ⟨s1,e1,RunL.cons e2 g2⟩
end
def direct (o:Oper):List Nat:=(o.after.toList.filter (Region.binds .any)).map (·.on)
def ancTab:List Oper→List (List Nat)→List (List Nat)
 |[],acc=>acc
 |o::os,acc=>ancTab os (acc++[((direct o).flatMap fun e=>e::acc.getD e []).eraseDups])
def okAnc (tab:List (List Nat))(k:Nat)(o:Oper):Bool :=
 (tab.getD k []).all fun j=>(direct o).contains j||(direct o).any fun e=>(tab.getD e []).contains j
def chkPairs (ais:List AIns)(tab:List (List Nat))(i:Nat)(b:AIns):Bool :=
 (List.range i).all fun j=>(tab.getD i []).contains j||(match ais[j]? with
  |some a=>pairOK ais j a i b
  |none=>false)
def chkAny (X:Cx)(ais:List AIns)(tab:List (List Nat)):List AIns→Nat→Bool
 |[],k=>X.ops.size==k
 |i::is,k=>(match X.ops[k]? with
  |some o=>okAnc tab k o&&(direct o).all (fun e=>decide (e<k))&&chkIns X (fun j=>(tab.getD k []).contains j) o i&&chkPairs ais tab k i
  |none=>false)&&chkAny X ais tab is (k+1)
theorem chkAny_get {X:Cx}{ais:List AIns}{tab:List (List Nat)}:∀ (is:List AIns) (k:Nat),ais.drop k=is→chkAny X ais tab is k=true→∀ (m:Nat) b,k≤m→ais[m]? =some b →
  ∃ o,X.ops[m]? =some o∧okAnc tab m o=true∧(∀ e,e ∈ direct o→e<m)∧chkIns X (fun j=>(tab.getD m []).contains j) o b=true∧chkPairs ais tab m b=true
 |[],k,hd,_,m,b,hkm,hb=>by
  have:ais.length≤k:=by
   have:=congrArg List.length hd
   simp at this;omega
  have:=lt_of_getElem? hb
  omega
 |i::is,k,hd,h,m,b,hkm,hb=>by
  simp only [chkAny,Bool.and_eq_true] at h
  by_cases e:m=k
  ·subst e
   have hi:ais[m]? =some i:=by
    have:(ais.drop m)[0]? =some i:=by rw [hd];rfl
    rw [List.getElem?_drop] at this
    simpa using this
   rw [hi] at hb;cases hb
   cases ho:X.ops[m]? with
   |none=>rw [ho] at h;exact absurd h.1 (by simp)
   |some o =>
    rw [ho] at h
    simp only [Bool.and_eq_true] at h
    exact ⟨o,rfl,h.1.1.1.1,fun e he=>by simpa using List.all_eq_true.1 h.1.1.1.2 e he,h.1.1.2,h.1.2⟩
  ·have hd' :ais.drop (k+1)=is:=by
    have:=congrArg (List.drop 1) hd
    rw [List.drop_drop] at this
    simpa using this
   exact chkAny_get is (k+1) hd' h.2 m b (by omega) hb
theorem chkAny_size {X:Cx}{ais:List AIns}{tab:List (List Nat)}:∀ (is:List AIns) (k:Nat),chkAny X ais tab is k=true→X.ops.size=k+is.length
 |[],k,h=>by simpa [chkAny] using h
 |i::is,k,h=>by
  simp only [chkAny,Bool.and_eq_true] at h
  have:=chkAny_size is (k+1) h.2
  simp only [List.length_cons];omega
def Closed (X:Cx)(S:Nat→Prop):Prop:=∀ (k:Nat) o,S k→X.ops[k]? =some o→∀ e,e ∈ direct o→S e
theorem anc_listed {X:Cx}{tab:List (List Nat)}{S:Nat→Prop}(hc:Closed X S)(hok:∀ (k:Nat) o,X.ops[k]? =some o→okAnc tab k o=true∧∀ e,e ∈ direct o→e<k)(hout:∀ k,X.ops.size≤k→tab.getD k []=[]) :
  ∀ (n k:Nat),k≤n→∀ o,X.ops[k]? =some o→(∀ e,e ∈ direct o→S e)→∀ j,j ∈ tab.getD k []→S j:=by
 intro n
 induction n with
 |zero =>
  intro k hk o ho hd j hj
  obtain ⟨h1,h2⟩:=hok k o ho
  unfold okAnc at h1
  have:=List.all_eq_true.1 h1 j hj
  simp only [Bool.or_eq_true,List.contains_eq_mem,decide_eq_true_eq,List.any_eq_true] at this
  rcases this with h|⟨e,he,_⟩
  ·exact hd j h
  ·have:=h2 e he;omega
 |succ n ih =>
  intro k hk o ho hd j hj
  obtain ⟨h1,h2⟩:=hok k o ho
  unfold okAnc at h1
  have:=List.all_eq_true.1 h1 j hj
  simp only [Bool.or_eq_true,List.contains_eq_mem,decide_eq_true_eq,List.any_eq_true] at this
  rcases this with h|⟨e,he,hej⟩
  ·exact hd j h
  ·have hlt:=h2 e he
   cases hoe:X.ops[e]? with
   |none =>
    have:X.ops.size≤e:=by
     rcases Nat.lt_or_ge e X.ops.size with h|h
     ·simp [h] at hoe
     ·exact h
    rw [hout e this] at hej
    simp at hej
   |some oe=>exact ih e (by omega) oe hoe (hc e oe (hd e he) hoe) j hej
def remOf (n:Nat)(listed:Array Bool):List Nat:=(List.range n).filter fun j=> !listed.getD j false
theorem remOf_split {n i:Nat}{listed:Array Bool}(hi:i<n)(hu:listed.getD i false=false)(hs:listed.size=n) :
  ∃ js rest,remOf n listed=js++i::rest∧remOf n (listed.setIfInBounds i true)=js++rest∧∀ j,j ∈ js→j<i∧listed.getD j false=false:=by
 refine ⟨(List.range i).filter fun j=> !listed.getD j false,(List.range' (i+1) (n - i - 1)).filter fun j=> !listed.getD j false,?_,?_,?_⟩
 ·unfold remOf
  have:List.range n=List.range i++i::List.range' (i+1) (n - i - 1):=by
   have h:=List.range'_append_1 (s:=0) (m:=i) (n:=n - i - 1+1)
   rw [Nat.zero_add] at h
   rw [List.range_eq_range',List.range_eq_range',← List.range'_succ,h]
   congr 1;omega
  rw [this,List.filter_append,List.filter_cons]
  simp [hu]
 ·unfold remOf
  have:List.range n=List.range i++i::List.range' (i+1) (n - i - 1):=by
   have h:=List.range'_append_1 (s:=0) (m:=i) (n:=n - i - 1+1)
   rw [Nat.zero_add] at h
   rw [List.range_eq_range',List.range_eq_range',← List.range'_succ,h]
   congr 1;omega
  rw [this,List.filter_append,List.filter_cons]
  have e1:(!(listed.setIfInBounds i true).getD i false)=false:=by simp [hs,hi]
  rw [e1]
  simp only [Bool.false_eq_true,if_false]
  congr 1
  ·refine List.filter_congr fun j hj=> ?_
   have:i≠j:=by simp at hj;omega
   simp [Array.getElem?_setIfInBounds_ne this]
  ·refine List.filter_congr fun j hj=> ?_
   have:i≠j:=by simp at hj;omega
   simp [Array.getElem?_setIfInBounds_ne this]
 ·intro j hj
  simpa using hj
section
variable {X:Cx} {ais:List AIns} {E:Env} {nt:Nat} {nidf:Nat→Option Nat} {lg:Nat→LogE} {fin:RSt} {tab:List (List Nat)}
theorem any_sound (hst:Stat X nt)(hcf:CallOK X.P E.cf E.prom)(hcall:∀ f args H lm r,E.cf f args H lm=some r→canCall X.P f=true)(hs:E.lim.strict≤E.lim.base)(hbe:E.lim.base≤E.entry)(Q:Exit→Act→World→Prop)
  (hchk:chkAny X ais tab ais 0=true) (hout:∀ k,X.ops.size≤k→tab.getD k []=[]) (hn:Nids ais nidf) (hne:∀ k n,nidf k=some n→E.entry≤n) (hlg:LogOK ais lg) :
  ∀ (fuel:Nat) (listed:Array Bool) (st:RSt) (a:Act) (w:World) (G:Gh) (I:Inj) (N:Nat→Prop),Rg X ais E nt (fun j=>listed.getD j false=true) st a w G I N→listed.size=ais.length→Closed X (fun j=>listed.getD j false=true) →
   (∀ k n,nidf k=some n→n<st.H.length)→Marked ais st→(∀ k n,nidf k=some n→listed.getD k false=false→¬ N n)→RunL E ais nidf lg (remOf ais.length listed) st fin→(remOf ais.length listed).length≤fuel →
   (∀ a' w' G' I' N',Fin X ais E nt st w G I N fin a' w' G' I' N' →Q .normal a' w')→wpAny X.P .any X.ops Q fuel listed a w:=by
 have hsize:X.ops.size=ais.length:=by have:=chkAny_size ais 0 hchk;omega
 have hget:=fun (m:Nat) b hb=>chkAny_get ais 0 (by simp) hchk m b (Nat.zero_le _) hb
 have hops:∀ (k:Nat) o,X.ops[k]? =some o→okAnc tab k o=true∧∀ e,e ∈ direct o→e<k:=by
  intro k o ho
  have hk:k<ais.length:=by
   rw [← hsize]
   exact (Array.getElem?_eq_some_iff.1 ho).1
  obtain ⟨o',h1,h2,h3,_⟩:=hget k ais[k] (List.getElem?_eq_getElem hk)
  rw [ho] at h1;cases h1
  exact ⟨h2,h3⟩
 have hdone:∀ (listed:Array Bool),listed.size=ais.length→Region.ready .any X.ops listed=[]→remOf ais.length listed=[]:=by
  intro listed hls hr
  cases hrem:remOf ais.length listed with
  |nil=>rfl
  |cons i rest =>
   exfalso
   have hi:i<ais.length∧listed.getD i false=false∧∀ j,j<i→listed.getD j false=true:=by
    have hm:i ∈ remOf ais.length listed:=by rw [hrem];simp
    unfold remOf at hm
    simp only [List.mem_filter,List.mem_range,Bool.not_eq_true'] at hm
    refine ⟨hm.1,hm.2,fun j hj=> ?_⟩
    cases hlj:listed.getD j false with
    |true=>rfl
    |false =>
     have hjm:j ∈ remOf ais.length listed:=by
      unfold remOf
      simp only [List.mem_filter,List.mem_range,Bool.not_eq_true']
      exact ⟨by omega,hlj⟩
     have hsorted:(remOf ais.length listed).Pairwise (·<·):=List.Pairwise.filter _ List.pairwise_lt_range
     rw [hrem] at hsorted hjm
     rcases List.mem_cons.1 hjm with h|h
     ·omega
     ·have:=(List.pairwise_cons.1 hsorted).1 j h
      omega
   obtain ⟨o,ho,_,hlt,_⟩:=hget i ais[i] (List.getElem?_eq_getElem hi.1)
   have:i ∈ Region.ready .any X.ops listed:=by
    rw [mem_ready]
    refine ⟨?_,o,ho,fun e he hb=> ?_⟩
    ·have hil:i<listed.size:=by omega
     have:=hi.2.1
     simp [hil] at this ⊢
     exact this
    ·have:e.on ∈ direct o:=by
      unfold direct
      refine List.mem_map.2 ⟨e,List.mem_filter.2 ⟨by simpa using he,hb⟩,rfl⟩
     exact hi.2.2 _ (hlt _ this)
   rw [hr] at this
   cases this
 have hend:∀ (listed:Array Bool) (st:RSt) (a:Act) (w:World) (G:Gh) (I:Inj) (N:Nat→Prop),Rg X ais E nt (fun j=>listed.getD j false=true) st a w G I N→listed.size=ais.length→RunL E ais nidf lg (remOf ais.length listed) st fin→remOf ais.length listed=[] →
   Fin X ais E nt st w G I N fin a w G I N:=by
  intro listed st a w G I N hR hls hrun hrem
  rw [hrem] at hrun
  cases hrun
  refine ⟨hR.congr fun j=> ?_,Since.refl _ _ _ _ _ _⟩
  constructor
  ·intro h
   rcases Nat.lt_or_ge j listed.size with h' |h'
   ·omega
   ·simp [Array.getElem?_eq_none h'] at h
  ·intro h
   cases hlj:listed.getD j false with
   |true=>rfl
   |false =>
    have hjm:j ∈ remOf ais.length listed:=by
     unfold remOf
     simp only [List.mem_filter,List.mem_range,Bool.not_eq_true']
     exact ⟨h,hlj⟩
    rw [hrem] at hjm
    cases hjm
 intro fuel
 induction fuel with
 |zero =>
  intro listed st a w G I N hR hls hcl hin hsl hfr hrun hfl hQ
  have hrem:remOf ais.length listed=[]:=List.length_eq_zero_iff.1 (by omega)
  refine ⟨?_,hQ _ _ _ _ _ (hend listed st a w G I N hR hls hrun hrem)⟩
  cases hr:Region.ready .any X.ops listed with
  |nil=>rfl
  |cons i rest =>
   exfalso
   have:i ∈ Region.ready .any X.ops listed:=by rw [hr];simp
   obtain ⟨h0,o,ho,_⟩:=mem_ready.1 this
   have hi:i<ais.length:=by rw [← hsize];exact (Array.getElem?_eq_some_iff.1 ho).1
   have hil:i<listed.size:=by omega
   have:i ∈ remOf ais.length listed:=by
    unfold remOf
    simp only [List.mem_filter,List.mem_range,Bool.not_eq_true']
    refine ⟨hi,?_⟩
    simp [hil] at h0 ⊢
    exact h0
   rw [hrem] at this
   cases this
 |succ fuel ih =>
  intro listed st a w G I N hR hls hcl hin hsl hfr hrun hfl hQ
  refine ⟨fun hr=>hQ _ _ _ _ _ (hend listed st a w G I N hR hls hrun (hdone listed hls hr)),fun i hi=> ?_⟩
  obtain ⟨h0,o,ho,hall⟩:=mem_ready.1 hi
  have hia:i<ais.length:=by rw [← hsize];exact (Array.getElem?_eq_some_iff.1 ho).1
  have hil:i<listed.size:=by omega
  have hun:listed.getD i false=false:=by
   simp [hil] at h0 ⊢
   exact h0
  obtain ⟨b,hb⟩:∃ b,ais[i]? =some b:=⟨_,List.getElem?_eq_getElem hia⟩
  obtain ⟨o',ho',hoa,hlt,hci,hpr⟩:=hget i b hb
  rw [ho] at ho';cases ho'
  have hdir:∀ e,e ∈ direct o→listed.getD e false=true:=by
   intro e he
   unfold direct at he
   obtain ⟨ed,hed,rfl⟩:=List.mem_map.1 he
   rw [List.mem_filter] at hed
   exact hall ed (by simpa using hed.1) hed.2
  have hanc:=anc_listed hcl hops hout i i (Nat.le_refl _) o ho hdir
  obtain ⟨js,rest,hr1,hr2,hjs⟩:=remOf_split hia hun hls
  rw [hr1] at hrun
  obtain ⟨st1,hsok,hrun'⟩:=RunL.front hn hlg hb js st (fun j hj=>by
   obtain ⟨hji,hju⟩:=hjs j hj
   refine ⟨by omega,?_⟩
   unfold chkPairs at hpr
   have:=List.all_eq_true.1 hpr j (List.mem_range.2 hji)
   simp only [Bool.or_eq_true,List.contains_eq_mem,decide_eq_true_eq] at this
   rcases this with h|h
   ·have:=hanc j h
    rw [hju] at this;cases this
   ·cases hja:ais[j]? with
    |none=>rw [hja] at h;cases h
    |some a' =>rw [hja] at h;exact ⟨a',rfl,h⟩) hin hsl hrun
  obtain ⟨b',hb',hD⟩:=hsok
  rw [hb] at hb';cases hb'
  obtain ⟨hk,rs,hstep,hlgi⟩:=stepD_iff.1 hD
  have hstill:=(stepA_ext (hn.alloc i b hb) hstep).2
  refine stepA_sound hst hcf hcall hs hbe hR (D:=fun j=>(tab.getD i []).contains j) (fun j hj=>hanc j (by simpa using hj)) (by rw [hun];simp) ho hb hci (nid:=nidf i) (fun hal=> ?_) (fun n hni=>⟨hne i n hni,hin i n hni⟩) hstep _ _ ?_
  ·have:=hn.alloc i b hb
   rw [hal] at this
   obtain ⟨n,hni⟩:=Option.isSome_iff_exists.1 this
   rw [hni]
   have h1:=hne i n hni
   exact ⟨hfr i n hni hun,(fun m hm=>by cases hm;exact hin i n hni),by simp only [newId,Option.getD_some];omega,by simp only [newId,Option.getD_some];omega⟩
  ·intro a' w' G' I' N' hdn
   have hset:∀ j,(listed.setIfInBounds i true).getD j false=true↔(listed.getD j false=true∨j=i):=by
    intro j
    by_cases e:j=i
    ·subst e;simp [hil]
    ·rw [Go.getD_set_ne false (fun h=>e h.symm)]
     simp [e]
   refine ih (listed.setIfInBounds i true) st1 a' w' G' I' N' (hdn.rg.congr fun j=>(hset j).symm) (by simp [hls]) ?_ (fun k n hk=>Nat.lt_of_lt_of_le (hin k n hk) hdn.len) (hsl.ext hstill) ?_ (by rw [hr2];exact hrun') ?_ ?_
   ·intro k ok hk hok e he
    rw [hset] at hk ⊢
    rcases hk with hk|rfl
    ·exact Or.inl (hcl k ok hk hok e he)
    ·rw [ho] at hok;cases hok
     exact Or.inl (hdir e he)
   ·intro k n hk hku hN
    have hku' :listed.getD k false=false∧k≠i:=by
     have:=hset k
     rw [hku] at this
     simp at this
     exact ⟨by simpa using this.1,this.2⟩
    rcases hdn.old n (hin k n hk) hN with h|h
    ·exact hfr k n hk hku'.1 h
    ·exact hku'.2 (hn.inj k i n hk h)
   ·rw [hr2]
    rw [hr1] at hfl
    simp at hfl ⊢
    omega
   ·intro a'' w'' G'' I'' N'' hf
    exact hQ _ _ _ _ _ ⟨hf.rg,hdn.since.trans hf.since⟩
def nidOf (ais:List AIns)(base:Nat)(k:Nat):Option Nat :=
 match ais[k]? with
 |some i=>if i.op.isAlloc then some (base+((ais.take k).filter (·.op.isAlloc)).length) else none
 |none=>none
theorem nids_of (ais:List AIns)(base:Nat):Nids ais (nidOf ais base):=by
 refine ⟨fun k i hi=> ?_,fun j k n hj hk=> ?_⟩
 ·simp only [nidOf,hi]
  split
  ·rename_i h;simp [h]
  ·rename_i h;simp [h]
 ·have key:∀ a b n,a<b→nidOf ais base a=some n→nidOf ais base b=some n→False:=by
   intro a b n hab ha hb
   unfold nidOf at ha hb
   split at ha
   ·rename_i i hi
    split at ha
    ·rename_i hal
     split at hb
     ·split at hb
      ·cases ha
       simp only [Option.some.injEq] at hb
       have h1:((ais.take (a+1)).filter (·.op.isAlloc)).length=((ais.take a).filter (·.op.isAlloc)).length+1:=by
        rw [List.take_add_one,hi]
        simp [List.filter_append,hal]
       have h2:((ais.take (a+1)).filter (·.op.isAlloc)).length≤((ais.take b).filter (·.op.isAlloc)).length:=by
        refine List.Sublist.length_le (List.Sublist.filter _ ?_)
        exact List.take_sublist_take_left (by omega)
       omega
      ·cases hb
     ·cases hb
    ·cases ha
   ·cases ha
  rcases Nat.lt_trichotomy j k with h|h|h
  ·exact (key j k n h hj hk).elim
  ·exact h
  ·exact (key k j n h hk hj).elim
theorem runOpsD_run {base:Nat}:∀ (is:List AIns) (k:Nat) (na:Nat) (st st2:RSt) (lgs:List LogE) (lgf:Nat→LogE),ais.drop k=is→na=base+((ais.take k).filter (·.op.isAlloc)).length→runOpsD E ais is k na st=some (st2,lgs) →
  (∀ m,m<is.length→lgf (k+m)=lgs.getD m ⟨[],[],0,0⟩)→lgs.length=is.length∧RunL E ais (nidOf ais base) lgf (List.range' k is.length) st st2
 |[],k,na,st,st2,lgs,lgf,hd,hna,h,hl=>by
  simp only [runOpsD] at h
  cases h
  exact ⟨rfl,RunL.nil _⟩
 |i::is,k,na,st,st2,lgs,lgf,hd,hna,h,hl=>by
  have hi:ais[k]? =some i:=by
   have:(ais.drop k)[0]? =some i:=by rw [hd];rfl
   rw [List.getElem?_drop] at this
   simpa using this
  have hd' :ais.drop (k+1)=is:=by
   have:=congrArg (List.drop 1) hd
   rw [List.drop_drop] at this
   simpa using this
  simp only [runOpsD] at h
  split at h
  ·rename_i st1 l hstep
   split at h
   ·rename_i st3 lg3 hrun
    cases h
    have hna' :(if i.op.isAlloc=true then na+1 else na)=base+((ais.take (k+1)).filter (·.op.isAlloc)).length:=by
     rw [List.take_add_one,hi]
     cases hal:i.op.isAlloc
     ·simp [List.filter_append,hal,hna]
     ·simp [List.filter_append,hal,hna];omega
    obtain ⟨g1,g2⟩:=runOpsD_run is (k+1) _ st1 st2 lg3 lgf hd' hna' hrun (fun m hm=>by
     have:=hl (m+1) (by simp;omega)
     rw [show k+(m+1)=k+1+m from by omega] at this
     simpa using this)
    refine ⟨by simp [g1],?_⟩
    simp only [List.length_cons,List.range'_succ]
    refine RunL.cons ⟨i,hi,?_⟩ g2
    have h0:=hl 0 (by simp)
    simp only [Nat.add_zero,List.getD_cons_zero] at h0
    rw [h0]
    have:nidOf ais base k=if i.op.isAlloc=true then some na else none:=by
     simp only [nidOf,hi,hna]
    rw [this]
    exact hstep
   ·cases h
  ·cases h
theorem okLog_log {lgs:List LogE}(hlen:lgs.length=ais.length)(h:okLog ais lgs=true):LogOK ais (fun k=>lgs.getD k ⟨[],[],0,0⟩):=by
 intro k i e hi he
 unfold okLog at h
 have hk:=lt_of_getElem? hi
 have hz:(i,lgs.getD k ⟨[],[],0,0⟩) ∈ ais.zip lgs:=by
  refine List.mem_of_getElem? (i:=k) ?_
  rw [List.getElem?_zip_eq_some]
  refine ⟨hi,?_⟩
  rw [List.getD,List.getElem?_eq_getElem (by omega)]
  rfl
 have h1:=List.all_eq_true.1 h _ hz
 simp only at h1
 have h2:=List.all_eq_true.1 h1 e he
 split at h2
 ·rename_i le hle
  simp only [Bool.and_eq_true,Bool.not_eq_true',Bool.or_eq_true,decide_eq_true_eq] at h2
  have e1:lgs.getD e ⟨[],[],0,0⟩=le:=by simp [List.getD,hle]
  simp only [e1]
  refine ⟨h2.1,fun hal=> ?_⟩
  rcases h2.2 with h3|h3
  ·rw [hal] at h3;cases h3
  ·exact h3
 ·cases h2
end
end Go.Abs
namespace Go.Abs
structure Cd (P:Program)(names:List Tmp)(E:Env)(nt:Nat)(st:St)(a:Act)(w:World)(G:Gh)(I:Inj)(N:Nat→Prop):Prop where
 T:∀ (s:Nat) t,names[s]? =some t→VR G I N w (.slot s) (st.T.getD s .any) (a.tmps.getD t undef)
 H:HR G I N w st.H
 wf:WF G w
 disc:Disc E.lim st.H
 lenT:st.T.length=names.length
 nsub:∀ id,N id→id<st.H.length
 ent:E.entry≤st.H.length
 size:a.tmps.size=nt
 idle:∀ d,d ∈ a.defers→IdleD P E.idle d
def dstsOK (names:List Tmp):List (Option Tmp)→Bool
 |[]=>true
 |none::r=>dstsOK names r
 |some d::r=>(names.contains d|| !r.contains (some d))&&dstsOK names r
def namesOK:List Tmp→Bool
 |[]=>true
 |x::xs=> !xs.contains x&&namesOK xs
theorem namesOK_sound:∀ (l:List Tmp),namesOK l=true→∀ (s s' :Nat) t,l[s]? =some t→l[s']? =some t→s=s'
 |[],_,s,s',t,h,_=>by simp at h
 |x::xs,hok,s,s',t,h,h' =>by
  simp only [namesOK,Bool.and_eq_true,Bool.not_eq_true',List.contains_eq_mem,decide_eq_false_iff_not] at hok
  cases s with
  |zero =>
   simp at h;subst h
   cases s' with
   |zero=>rfl
   |succ s' =>exact absurd (List.mem_of_getElem? (by simpa using h')) hok.1
  |succ s =>
   cases s' with
   |zero =>
    simp at h';subst h'
    exact absurd (List.mem_of_getElem? (by simpa using h)) hok.1
   |succ s' =>rw [namesOK_sound xs hok.2 s s' t (by simpa using h) (by simpa using h')]
theorem dstsOK_sound (names:List Tmp):∀ (l:List (Option Tmp)),dstsOK names l=true→∀ (i j:Nat) d,l[i]? =some (some d)→l[j]? =some (some d)→names.contains d=false→i=j
 |[],_,i,j,d,h,_,_=>by simp at h
 |x::xs,hok,i,j,d,h,h',hn=>by
  have hrest:dstsOK names xs=true:=by
   cases x with
   |none=>exact hok
   |some d' =>simp only [dstsOK,Bool.and_eq_true] at hok;exact hok.2
  have hnot:x=some d→some d ∉ xs:=by
   rintro rfl
   simp only [dstsOK,Bool.and_eq_true,Bool.or_eq_true,Bool.not_eq_true',List.contains_eq_mem,decide_eq_false_iff_not] at hok
   rcases hok.1 with h1|h1
   ·simp at hn;simp at h1;exact absurd h1 hn
   ·exact h1
  cases i with
  |zero =>
   simp at h
   cases j with
   |zero=>rfl
   |succ j=>exact absurd (List.mem_of_getElem? (by simpa using h')) (hnot h)
  |succ i =>
   cases j with
   |zero =>
    simp at h'
    exact absurd (List.mem_of_getElem? (by simpa using h)) (hnot h')
   |succ j=>rw [dstsOK_sound names xs hrest i j d (by simpa using h) (by simpa using h') hn]
def chkRegion (P:Program)(names:List Tmp)(nt:Nat)(ops:Array Oper)(ais:List AIns)(draw:Bool):Bool :=
 dstsOK names (ops.toList.map (·.dst))&&(ops.toList.all fun o=>match o.dst with|some d=>decide (d<nt)|none=>true) &&
 (if draw then
   let tab:=ancTab ops.toList []
   decide (tab.length≤ops.size)&&chkAny ⟨P,names,ops⟩ ais tab ais 0&&P.follows .mixedOrders
  else chkText ⟨P,names,ops⟩ ais 0)
theorem stat_of {P:Program}{names:List Tmp}{nt:Nat}{ops:Array Oper}{ais:List AIns}{draw:Bool}(hn:namesOK names=true)(h:chkRegion P names nt ops ais draw=true):Stat ⟨P,names,ops⟩ nt:=by
 simp only [chkRegion,Bool.and_eq_true] at h
 obtain ⟨⟨h1,h2⟩,_⟩:=h
 have get:∀ (i:Nat) d,(ops[i]?).bind (·.dst)=some d→(ops.toList.map (·.dst))[i]? =some (some d):=by
  intro i d hd
  rw [List.getElem?_map]
  cases ho:ops[i]? with
  |none=>rw [ho] at hd;cases hd
  |some o =>
   rw [ho] at hd
   have:ops.toList[i]? =some o:=by simpa using ho
   rw [this]
   simpa using hd
 refine ⟨fun i j d hi hj hc=>dstsOK_sound names _ h1 i j d (get i d hi) (get j d hj) hc,fun i d hd=> ?_,fun s s' t=>namesOK_sound names hn s s' t⟩
 cases ho:ops[i]? with
 |none=>simp only [ho] at hd;cases hd
 |some o =>
  simp only [ho] at hd
  have hm:o ∈ ops.toList:=List.mem_of_getElem? (i:=i) (by simpa using ho)
  have:=List.all_eq_true.1 h2 o hm
  have hd' :o.dst=some d:=hd
  rw [hd'] at this
  simpa using this
section
variable {P:Program} {names:List Tmp} {E:Env} {nt:Nat} {st:St} {a:Act} {w:World} {G:Gh} {I:Inj} {N:Nat→Prop} {ops:Array Oper} {ais:List AIns}
theorem Cd.start (h:Cd P names E nt st a w G I N)(X:Cx)(hX:X=⟨P,names,ops⟩){S:Nat→Prop}(hS:∀ j,¬ S j){H' :Heap}(ext:Heap)(hH:H' =st.H++ext)(hdead:∀ o,o ∈ ext→o= .dead){L:List AVal}(hL:L.length=ais.length)(tch:List Touch) :
  Rg X ais E nt S ⟨st.T,H',L,tch⟩ a w G I N:=by
 subst hX
 subst hH
 have get:∀ (id:Nat) o,(st.H++ext)[id]? =some o→st.H[id]? =some o∨o= .dead:=by
  intro id o ho
  rcases Nat.lt_or_ge id st.H.length with hlt|hge
  ·rw [List.getElem?_append_left hlt] at ho;exact Or.inl ho
  ·rw [List.getElem?_append_right hge] at ho
   exact Or.inr (hdead o (List.mem_of_getElem? ho))
 refine ⟨⟨h.T,fun j hj=>absurd hj (hS j),fun id o ho=> ?_,h.wf,fun id o ho=> ?_⟩,⟨fun j _ _ _ _ hj=>absurd hj (hS j),fun j _ _ _ _ _ _ hj=>absurd hj (hS j)⟩,fun j _ _ hj=>absurd hj (hS j),h.lenT,hL,fun id hid=> ?_,?_,h.size,h.idle⟩
 ·rcases get id o ho with h1|rfl
  ·exact h.H id o h1
  ·simp [OR]
 ·rcases get id o ho with h1|rfl
  ·exact h.disc id o h1
  ·simp [AObj.bnd]
 ·have:=h.nsub id hid;simp;omega
 ·have:=h.ent;simp;omega
theorem Cd.drew (h:Cd P names E nt st a w G I N)(n:Nat):Cd P names E nt st a { w with drawn:=n } G I N∧Since E st.H w G I N st.H { w with drawn:=n } G I N:=by
 have hx:Ext G w G { w with drawn:=n }:=(Ext.refl G w).drew n
 have hk:∀ pl,Keeps pl G w G { w with drawn:=n }:=fun _ _ _ h=>⟨h,rfl⟩
 refine ⟨⟨fun s t ht=>VR.mono hx (fun _ _=>rfl) (fun _ h=>h) _ _ _ (Or.inr (hk _)) (h.T s t ht),fun id o ho=>OR.mono (w:=w) hx.sub (fun _ _=>rfl) (fun _ h=>h) id o (fun h=>⟨h,rfl⟩) (fun _=>hk _) (h.H id o ho),h.wf,h.disc,h.lenT,h.nsub,h.ent,h.size,h.idle⟩,?_⟩
 exact ⟨hx,fun id _=>⟨fun _ h=>⟨h,rfl⟩,fun _=>hk _⟩,fun _ _ _=>rfl,fun _ _ h=>h,fun _ _ h=>h,fun _ o _ h=>Or.inr ⟨o,h,Nat.le_refl _⟩⟩
theorem Cd.done {X:Cx}(hX:X=⟨P,names,ops⟩){S:Nat→Prop}{r:RSt}(h:Rg X ais E nt S r a w G I N):Cd P names E nt ⟨r.T,r.H⟩ a w G I N:=by
 subst hX
 exact ⟨h.ri.T,h.ri.H,h.ri.wf,h.ri.disc,h.lenT,h.nsub,h.ent,h.size,h.idle⟩
structure EnvOK (P:Program)(E:Env):Prop where
 cf:CallOK P E.cf E.prom
 can:∀ f args H lm r,E.cf f args H lm=some r→canCall P f=true
 strict:E.lim.strict≤E.lim.base
 base:E.lim.base≤E.entry
theorem Since.ext0 {H0 ext H:Heap}{w0 w:World}{G0 G:Gh}{I0 I:Inj}{N0 N:Nat→Prop}(hb:E.lim.base≤H0.length)(h:Since E (H0++ext) w0 G0 I0 N0 H w G I N):Since E H0 w0 G0 I0 N0 H w G I N:=by
 refine ⟨h.ext,h.pres,h.inj,h.mono,h.old,fun id o' hid ho=> ?_⟩
 rcases h.hle id o' hid ho with h1|⟨o,h1,h2⟩
 ·exact Or.inl h1
 ·rw [List.getElem?_append_left (by omega)] at h1
  exact Or.inr ⟨o,h1,h2⟩
theorem region_sound (hE:EnvOK P E)(hn:namesOK names=true){draw:Bool}(hc:chkRegion P names nt ops ais draw=true)(h:Cd P names E nt st a w G I N){r:RSt}(hr:runRegion E ais draw st.T st.H=some r)(id:Nat)(Q:Exit→Act→World→Prop)
  (hQ:∀ a' w' G' I' N',Rg ⟨P,names,ops⟩ ais E nt (fun j=>j<ais.length) r a' w' G' I' N' →Since E st.H w G I N r.H w' G' I' N' →Q .normal a' w'):(Code.region id ops draw).wp P Q a w:=by
 have hst:=stat_of hn hc
 simp only [chkRegion,Bool.and_eq_true] at hc
 obtain ⟨_,hc⟩:=hc
 unfold runRegion at hr
 cases draw with
 |false =>
  simp only [Bool.false_eq_true,if_false] at hr hc
  refine wp_region ?_
  have hsz:ops.size=ais.length:=by
   have:∀ (is:List AIns) (k:Nat),chkText ⟨P,names,ops⟩ is k=true→ops.size=k+is.length:=by
    intro is
    induction is with
    |nil=>intro k h;simpa [chkText] using h
    |cons i is ih =>
     intro k h
     simp only [chkText,Bool.and_eq_true] at h
     have:=ih (k+1) h.2
     simp only [List.length_cons];omega
   simpa using this ais 0 hc
  rw [hsz,List.range_eq_range']
  have hR:Rg ⟨P,names,ops⟩ ais E nt (fun j=>j<0) ⟨st.T,st.H,List.replicate ais.length .any,[]⟩ a w G I N :=
   h.start _ rfl (fun j=>by simp) [] (by simp) (by simp) (by simp) []
  refine runOps_sound (X:=⟨P,names,ops⟩) hst hE.cf hE.can hE.strict hE.base Q ais 0 (by simp) (by simp) hc _ a w G I N r hR hr ?_
  intro a' w' G' I' N' hf
  exact hQ a' w' G' I' N' hf.rg hf.since
 |true =>
  simp only [if_true,Bool.and_eq_true,decide_eq_true_eq] at hr hc
  obtain ⟨⟨htab,hany⟩,hmix⟩:=hc
  split at hr
  ·rename_i r' lgs hrun
   split at hr
   ·rename_i hok
    cases hr
    refine wp_region_any hmix ?_
    obtain ⟨h2,hsince⟩:=h.drew (w.drawn+1)
    have hR:Rg ⟨P,names,ops⟩ ais E nt (fun j=>(Array.replicate ops.size false).getD j false=true) ⟨st.T,st.H++allocsOf ais,List.replicate ais.length .any,slotsOf ais⟩ a { w with drawn:=w.drawn+1 } G I N :=
     h2.start _ rfl (fun j=>by
      rcases Nat.lt_or_ge j ops.size with h|h
      ·simp [h]
      ·simp [h]) (allocsOf ais) rfl (by
      intro o ho
      unfold allocsOf at ho
      simp at ho
      exact ho.2.symm) (by simp) (slotsOf ais)
    have hmark:Marked ais ⟨st.T,st.H++allocsOf ais,List.replicate ais.length .any,slotsOf ais⟩:=by
     intro k i s hi ha hd
     rw [List.any_eq_true]
     refine ⟨.slot s,?_,by simp [Touch.slotHit]⟩
     show Touch.slot s ∈ slotsOf ais
     unfold slotsOf
     exact List.mem_filterMap.2 ⟨i,List.mem_of_getElem? hi,by simp [ha,hd]⟩
    have hsize:ops.size=ais.length:=by
     have:=chkAny_size (X:=⟨P,names,ops⟩) ais 0 hany
     simpa using this
    obtain ⟨hlen,hRun⟩:=runOpsD_run (base:=st.H.length) ais 0 st.H.length _ r lgs (fun k=>lgs.getD k ⟨[],[],0,0⟩) (by simp) (by simp) hrun (fun m _=>by simp)
    have hrem:remOf ais.length (Array.replicate ops.size false)=List.range' 0 ais.length:=by
     unfold remOf
     rw [List.filter_eq_self.2 ?_,List.range_eq_range']
     intro j hj
     simp at hj
     simp [hsize,hj]
    have hlt:∀ k n,nidOf ais st.H.length k=some n→st.H.length≤n∧n<(st.H++allocsOf ais).length:=by
     intro k n hk
     unfold nidOf at hk
     split at hk
     ·rename_i i hi
      split at hk
      ·rename_i hal
       cases hk
       refine ⟨by omega,?_⟩
       have h1:((ais.take (k+1)).filter (·.op.isAlloc)).length=((ais.take k).filter (·.op.isAlloc)).length+1:=by
        rw [List.take_add_one,hi]
        simp [List.filter_append,hal]
       have h2:((ais.take (k+1)).filter (·.op.isAlloc)).length≤(ais.filter (·.op.isAlloc)).length :=
        List.Sublist.length_le (List.Sublist.filter _ (List.take_sublist _ _))
       simp [allocsOf];omega
      ·cases hk
     ·cases hk
    refine any_sound (X:=⟨P,names,ops⟩) (tab:=ancTab ops.toList []) (nidf:=nidOf ais st.H.length) (lg:=fun k=>lgs.getD k ⟨[],[],0,0⟩) (fin:=r) hst hE.cf hE.can hE.strict hE.base Q hany (fun k hk=> ?_) (nids_of ais _) (fun k n hk=> ?_) (okLog_log hlen hok)
     ops.size (Array.replicate ops.size false) _ a _ G I N hR (by simp [hsize]) ?_ (fun k n hk=>(hlt k n hk).2) hmark (fun k n hk _ hN=> ?_) (by rw [hrem];exact hRun) (by rw [hrem];simp [hsize]) ?_
    ·rw [List.getD,List.getElem?_eq_none (by simp only at hk;omega)];rfl
    ·have:=(hlt k n hk).1;have:=h.ent;omega
    ·intro k o hk
     exfalso
     rcases Nat.lt_or_ge k ops.size with h|h
     ·simp [h] at hk
     ·simp [h] at hk
    ·have h1:=h.nsub n hN;have:=(hlt k n hk).1;omega
    ·intro a' w' G' I' N' hf
     have hb:E.lim.base≤st.H.length:=Nat.le_trans hE.base h.ent
     exact hQ a' w' G' I' N' hf.rg (hsince.trans (hf.since.ext0 hb))
   ·cases hr
  ·cases hr
end
end Go.Abs
namespace Go.Abs
section
variable {P:Program} {names:List Tmp} {E:Env} {nt:Nat} {st st' :St} {a:Act} {w:World} {G:Gh} {I:Inj} {N:Nat→Prop}
theorem refAt_sound:∀ (cs:List AVal) (k i id sz lo len:Nat),refAt cs k=some (i,id,sz,lo,len)→∃ j,i=k+j∧cs[j]? =some (.sref id sz lo len)
 |[],_,_,_,_,_,_,h=>by simp [refAt] at h
 |c::cs,k,i,id,sz,lo,len,h=>by
  cases c
  case sref id' sz' lo' len' =>
   simp only [refAt,Option.some.injEq,Prod.mk.injEq] at h
   obtain ⟨rfl,rfl,rfl,rfl,rfl⟩:=h
   exact ⟨0,rfl,rfl⟩
  all_goals
   obtain ⟨j,h1,h2⟩:=refAt_sound cs (k+1) i id sz lo len (by simpa only [refAt] using h)
   exact ⟨j+1,by omega,by simpa using h2⟩
theorem data_sound {pl:Place}{v:AVal}{d:Data}{x:Value}(hd:v.data? =some d)(h:VR G I N w pl v x):DR G w d x:=by
 have h2:VR G I N w pl v.asD x:=h.asD
 cases v<;>simp only [AVal.data?] at hd<;>first|cases hd|skip
 all_goals simpa only [AVal.asD,VR] using h2
theorem drs_of (b:Nat)(himm:∀ o,Imm G b o):∀ (vs:List AVal) (xs:List Data) (o:Nat),datas? vs=some xs→(∀ j v,vs[j]? =some v→∃ u,w.cell? (ad b (o+j))=some u∧∀ d,v.data? =some d→DR G w d u)→DRs G w b o xs
 |[],xs,o,h,_=>by simp [datas?] at h;subst h;simp [DRs]
 |v::vs,xs,o,h,hv=>by
  unfold datas? at h
  cases hd:v.data? with
  |none=>rw [hd] at h;cases h
  |some d =>
   rw [hd] at h
   simp only at h
   cases hds:datas? vs with
   |none=>rw [hds] at h;cases h
   |some ds =>
    rw [hds] at h
    cases h
    obtain ⟨u,h1,h2⟩:=hv 0 v rfl
    simp only [DRs]
    refine ⟨himm o,⟨u,by simpa using h1,h2 d hd⟩,drs_of b himm vs ds (o+1) hds fun j v' hj=> ?_⟩
    obtain ⟨u',g1,g2⟩:=hv (j+1) v' (by simpa using hj)
    exact ⟨u',by rw [show o+1+j=o+(j+1) by omega];exact g1,g2⟩
theorem fz_sound (h:Cd P names E nt st a w G I N){s:Nat}(hr:fzAt E.lim E.entry s st=some st'):∃ G' N',Cd P names E nt st' a w G' I N' ∧Since E st.H w G I N st'.H w G' I N' :=by
 unfold fzAt at hr
 split at hr
 ·rename_i b hT
  split at hr
  ·rename_i cs hb
   split at hr
   ·rename_i i id sz lo len href
    split at hr
    ·rename_i vs hvs
     split at hr
     ·rename_i xs hxs
      split at hr
      ·rename_i hcond
       cases hr
       obtain ⟨hbase,hent,hmay,hbb,hne⟩:=hcond
       obtain ⟨j,hj,hcj⟩:=refAt_sound cs 0 i id sz lo len href
       obtain rfl:i=j:=by omega
       obtain ⟨old,hold,hlen,hvs'⟩:∃ old,st.H[id]? =some (.cells old)∧lo+len * sz≤old.length∧vs=(old.drop lo).take (len * sz):=by
        unfold rd at hvs
        split at hvs
        ·rename_i l hl
         split at hvs
         ·rename_i hle;cases hvs;exact ⟨l,hl,hle,rfl⟩
         ·cases hvs
        ·cases hvs
       have hO:=h.H id _ hold
       simp only [OR] at hO
       obtain ⟨hN,c,e,f,g1,g2,g3,g4,g5⟩:=hO
       have hlt:(I id).1<w.heap.size:=by
        rcases Nat.lt_or_ge (I id).1 w.heap.size with h|h
        ·exact h
        ·rw [Array.getElem?_eq_none h] at g1;cases g1
       have hidl:=lt_of_getElem? hold
       have hx:Ext G w (upd G (I id).1 .imm) w:=by
        refine ⟨rfl,rfl,rfl,Nat.le_refl _,fun b' o hi=>⟨?_,rfl⟩,fun b' hb' =>⟨?_,rfl⟩,fun _ c _ _ hc=>⟨c,hc,rfl⟩⟩
        ·by_cases he:b' =(I id).1
         ·subst he;unfold Imm;rw [upd_same];trivial
         ·unfold Imm at hi ⊢;rw [upd_other he];exact hi
        ·have he:b' ≠(I id).1:=by rintro rfl;rw [g2] at hb';rcases hb' with hb' |⟨_,hb'⟩<;>cases hb'
         exact upd_other he
       have hkp:∀ q,Keeps q G w (upd G (I id).1 .imm) w:=fun q b' n hb' =>⟨by rw [upd_other (by rintro rfl;rw [g2] at hb';cases hb')];exact hb',rfl⟩
       have hob:∀ id',id' ≠id→∀ b',G b' = .obj id' →(upd G (I id).1 .imm) b' = .obj id' ∧w.heap[b']? =w.heap[b']? :=fun id' hid b' hb' =>⟨by rw [upd_other (by rintro rfl;rw [g2] at hb';cases hb';exact hid rfl)];exact hb',rfl⟩
       have vr:∀ {pl:Place} {v:AVal} {u:Value},VR G I N w pl v u→VR (upd G (I id).1 .imm) I (fun i=>N i∧i≠id) w pl (v.kill id) u :=
        fun hv=>VR.mono hx (fun _ _=>rfl) (fun _ h=>h) _ _ _ (Or.inr (hkp _)) (VR.kill id _ _ _ hv)
       have hset:∀ (id' :Nat) (o' :AObj),(((st.H.take E.lim.base++(st.H.drop E.lim.base).map (AObj.kill id)).set id .dead).set b (.cells ((killL id cs).set i (.d (.slice len xs)))))[id']? =some o' →
         (id' =b∧o' = .cells ((killL id cs).set i (.d (.slice len xs))))∨(id' ≠b∧id' =id∧o' = .dead)∨(id' ≠b∧id' ≠id∧id' <E.lim.base∧st.H[id']? =some o')∨(id' ≠b∧id' ≠id∧E.lim.base≤id' ∧∃ o1,st.H[id']? =some o1∧o' =o1.kill id):=by
        intro id' o' ho'
        by_cases e1:id' =b
        ·subst e1
         rw [List.getElem?_set_self (by simp;have:=lt_of_getElem? hb;omega)] at ho'
         cases ho'
         exact Or.inl ⟨rfl,rfl⟩
        ·rw [List.getElem?_set_ne (fun e=>e1 e.symm)] at ho'
         have:=killedH_get (base:=E.lim.base) (o:= .dead) hidl (id' :=id') (o' :=o') ho'
         rcases this with ⟨rfl,rfl⟩|⟨hn,hb',ho⟩|⟨hn,hb',o1,ho,rfl⟩
         ·exact Or.inr (Or.inl ⟨e1,rfl,rfl⟩)
         ·exact Or.inr (Or.inr (Or.inl ⟨e1,hn,hb',ho⟩))
         ·exact Or.inr (Or.inr (Or.inr ⟨e1,hn,hb',o1,ho,rfl⟩))
       have hbnd:bndL ((killL id cs).set i (.d (.slice len xs)))≤bndL cs:=Nat.le_trans (bndL_set_d _ _ _) (bndL_kill id cs)
       refine ⟨upd G (I id).1 .imm,fun i=>N i∧i≠id,⟨?_,?_,?_,?_,?_,?_,?_,h.size,h.idle⟩,⟨hx,?_,fun _ _ _=>rfl,?_,fun _ _ hn=>hn.1,?_⟩⟩
       ·intro s' t ht
        simp only [getD_kill]
        exact vr (h.T s' t ht)
       ·intro id' o' ho'
        rcases hset id' o' ho' with ⟨rfl,rfl⟩|⟨_,rfl,rfl⟩|⟨e1,e2,e3,e4⟩|⟨e1,e2,e3,o1,e4,rfl⟩
        ·have hk:=OR.kill id (fun e=>hne e.symm) _ (h.H id' _ hb)
         have hk:=OR.mono hx (fun _ _=>rfl) (fun _ h=>h) id' _ (fun hb' =>hob id' (fun e=>hne e.symm) _ hb') (fun _=>hkp _) hk
         simp only [AObj.kill,OR] at hk ⊢
         obtain ⟨k0,c2,e2,f2,k1,k2,k3,k4,k5⟩:=hk
         refine ⟨k0,c2,e2,f2,k1,k2,k3,by simpa using k4,fun i' x' hx' => ?_⟩
         by_cases ei:i' =i
         ·subst ei
          have hil:i' <(killL id cs).length:=by rw [killL_len];exact lt_of_getElem? hcj
          rw [List.getElem?_set_self hil] at hx'
          cases hx'
          have hOb:=h.H id' _ hb
          simp only [OR] at hOb
          obtain ⟨_,c3,e3,f3,m1,_,_,_,m5⟩:=hOb
          rw [k1] at m1
          cases m1
          obtain ⟨u,u1,u2⟩:=m5 i' _ hcj
          refine ⟨u,u1,?_⟩
          simp only [VR] at u2 ⊢
          obtain ⟨_,cap,rfl,u3,_⟩:=u2
          simp only [DR]
          refine Or.inr ⟨(I id).1,(I id).2+lo,cap,rfl,u3,drs_of _ (fun o=>by unfold Imm;rw [upd_same];trivial) vs xs _ hxs fun j v hj=> ?_⟩
          subst hvs'
          have hj2:j<len * sz∧old[lo+j]? =some v:=by
           rw [List.getElem?_take] at hj
           split at hj
           ·rename_i hjl
            rw [List.getElem?_drop] at hj
            exact ⟨hjl,hj⟩
           ·cases hj
          obtain ⟨y,y1,y2⟩:=g5 _ _ hj2.2
          refine ⟨y,?_,fun d hd=>DR.mono hx.imm _ _ (data_sound hd y2)⟩
          simp only [World.cell?,g1]
          rw [Nat.add_assoc]
          simpa using y1
         ·rw [List.getElem?_set_ne (fun e=>ei e.symm)] at hx'
          exact k5 i' x' hx'
        ·simp [OR]
        ·have hlow:=OR.low (n:=E.lim.base) e3 o' ((h.disc id' o' e4).2 e3) (h.H id' o' e4)
         exact OR.mono hx (fun _ _=>rfl) (fun i hi=>⟨hi.1,by have:=hi.2;omega⟩) id' o' (fun hb' =>hob id' e2 _ hb') (fun _=>hkp _) hlow
        ·exact OR.mono hx (fun _ _=>rfl) (fun _ h=>h) id' _ (fun hb' =>hob id' e2 _ hb') (fun _=>hkp _) (OR.kill id e2 o1 (h.H id' o1 e4))
       ·intro b' hb'
        rw [upd_other (by omega)]
        exact h.wf b' hb'
       ·intro id' o' ho'
        rcases hset id' o' ho' with ⟨rfl,rfl⟩|⟨_,rfl,rfl⟩|⟨e1,e2,e3,e4⟩|⟨e1,e2,e3,o1,e4,rfl⟩
        ·obtain ⟨d1,d2⟩:=h.disc id' _ hb
         simp only [AObj.bnd] at d1 d2 ⊢
         exact ⟨fun hs=>Nat.le_trans hbnd (d1 hs),fun hs=>Nat.le_trans hbnd (d2 hs)⟩
        ·exact ⟨fun _=>by simp [AObj.bnd],fun _=>by simp [AObj.bnd]⟩
        ·exact h.disc id' o' e4
        ·obtain ⟨d1,d2⟩:=h.disc id' o1 e4
         have:=obnd_kill id o1
         exact ⟨fun hs=>Nat.le_trans this (d1 hs),fun hs=>Nat.le_trans this (d2 hs)⟩
       ·rw [killL_len];exact h.lenT
       ·intro id' hn
        have:=h.nsub id' hn.1
        simp
        omega
       ·have:=h.ent
        simp
        omega
       ·intro id' hm
        have hne' :id' ≠id:=by rintro rfl;rw [hmay] at hm;cases hm
        exact ⟨hob id' hne',fun off=>hkp _⟩
       ·intro id' hlt' hn
        exact ⟨hn,by omega⟩
       ·intro id' o' hlt' ho'
        rcases hset id' o' ho' with ⟨rfl,rfl⟩|⟨_,rfl,rfl⟩|⟨e1,e2,e3,e4⟩|⟨e1,e2,e3,o1,e4,rfl⟩
        ·omega
        ·exact Or.inl (by simp [AObj.bnd])
        ·exact Or.inr ⟨o',e4,Nat.le_refl _⟩
        ·omega
      ·cases hr
     ·cases hr
    ·cases hr
   ·cases hr
  ·cases hr
 ·cases hr
end
end Go.Abs

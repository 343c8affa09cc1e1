/- Texts A24 A25 A26 A27 A28 A29 A30 A30b (made short by a program) -/
import Derived.Test.YtkmclibmmlgogaaGreatB2
import Derived.Orders
set_option linter.unusedVariables false
set_option linter.unusedSimpArgs false
open Bool renaming and_eq_true → b5, false_eq_true → b7, not_eq_true' → j5, or_eq_false_iff → L6
open List renaming getElem?_append_left → p7, getElem?_append_right → q8, getElem?_eq_getElem → o8, getElem?_eq_none → q9, getElem?_set_ne → s8, getElem?_set_self → E0, length_cons → A2, mem_cons → x9, replicate → c9
open Nat renaming add_assoc → I8, le_refl → k9, lt_or_ge → p9
open Option renaming map_some → F1
namespace Go.z7
section
variable {X:Cx} {j4:List n9} {E:Env} {nt:Nat} {S:Nat->Prop} {st Q3 aj:F0} {a:Act} {w w' :World} {G G' :Gh} {I I' :S4} {N N' :Nat->Prop} {D:Nat->Bool}
theorem rD (hR:Rg X j4 E nt S st a w G I N)(hD:∀ j,D j=true->S j){o:Oper}{g:Option (Nat×Bool)}(hc:lK X D o.guard g=true){b:Bool}(hw:y5 st.L g=some b):Region.wanted o (yielded X.ops a.tmps)=b:=by
 unfold Region.wanted;cases hg:o.guard with
 |none =>
  rw [hg] at hc;cases g with
  |none=>simp [y5] at hw;simp [<- hw]
  |some p=>simp [lK] at hc
 |some p =>
  obtain ⟨g0,want⟩:=p;rw [hg] at hc;cases g with
  |none=>simp [lK] at hc
  |some q =>
   obtain ⟨g1,aP3⟩:=q;simp only [lK,b5,beq_iff_eq] at hc;obtain ⟨⟨⟨rfl,rfl⟩,hDg⟩,sM⟩:=hc;cases hd:(X.ops[g0]?).bind (·.dst) with
   |none=>rw [hd] at sM;cases sM
   |some d =>
    rw [hd] at sM;simp only [j5] at sM;have hv:=hR.ri.L g0 (hD g0 hDg) d hd sM;have hy:yielded X.ops a.tmps g0=(match a.tmps[d]? with|some (.bool b)=>some b|_=>none):=by
     unfold yielded;rw [hd];rfl
    simp only [hy];simp only [y5] at hw;split at hw
    ·rename_i c hl
     cases hw;rw [X3 hl] at hv;simp only [VR,DR] at hv;have:a.tmps[d]? =some (.bool c):=by
      cases ht:a.tmps[d]? with
      |none=>simp [ht,undef] at hv
      |some z=>simp [ht] at hv;rw [hv]
     simp only [this];cases c<;>cases want<;>rfl
    ·rename_i hl
     cases hw;rw [X3 hl] at hv;simp only [VR] at hv;obtain ⟨cs,h1,_⟩:=hv;have:(match a.tmps[d]? with|some (.bool b)=>some b|_=>none)=none:=by
      cases ht:a.tmps[d]? with
      |none=>rfl
      |some z =>
       simp [ht] at h1;rw [h1]
     rw [this];rfl
    ·cases hw
structure Xo (X:Cx)(j4:List n9)(E:Env)(nt:Nat)(S:Nat->Prop)(st:F0)(w:World)(G:Gh)(I:S4)(N:Nat->Prop)(k:Nat)(u9:Option Nat)(aj:F0)(a' :Act)(w' :World)(G' :Gh)(I' :S4)(N' :Nat->Prop):Prop where
 rg:Rg X j4 E nt (fun j=>S j\/j=k) aj a' w' G' I' N'
 since:W5 E st.H w G I N aj.H w' G' I' N'
 len:st.H.length<=aj.H.length
 old:∀ id,id<st.H.length->N' id->N id\/u9=some id
theorem Eb (hD:∀ j,D j=true->S j){x:Operand}{y:u5}(hc:X.ck D x y=true):tw X S y:=by
 unfold Cx.ck at hc;split at hc
 ·exact ⟨_,by simpa using hc⟩
 ·simp only [b5,beq_iff_eq,j5] at hc
  exact ⟨hD _ hc.1.1,_,hc.1.2,hc.2⟩
 ·trivial
 ·trivial
 ·trivial
 ·cases hc
theorem DP (hD:∀ j,D j=true->S j){o:Oper}{n:Option Nat}{y:u5}(hc:aH X.P (X.ck D) o (.load n y)=true):tw X S y:=by
 simp only [aH] at hc;obtain ⟨dst,bK,ty,pos,after,guard⟩:=o;cases bK<;>simp [B0] at hc;exact Eb hD hc.1
theorem Rg.after (hst:Stat X nt)(hR:Rg X j4 E nt S st a w G I N)(hD:∀ j,D j=true->S j){k:Nat}(hk:¬ S k)(aq:k<st.L.length){o:Oper}(ho:X.ops[k]? =some o){i:n9}(hi:j4[k]? =some i)(hc:oK X D o i=true)
  {u9:Option Nat} (hne:∀ i,u9=some i->E.entry<=i) (htr:Tr N k st Q3) (hts:u7 u9 Q3 k i.dst=some aj) {x:Value} {ds:List Deferred} (hds:ds=a.defers\/∃ d,ds=d::a.defers/\CV X.P E.idle d)
  (hf:aj.L[k]? =some (.tuple [])\/iZ X st a w I i.op x) (hS:uN u9 X E.lim S E.entry st a w G I N Q3 k x w' G' I' N') :
  ∃ Xp,Xo X j4 E nt S st w G I N k u9 aj ({ a with defers:=ds }.put o.dst x) w' Xp I' N' :=by
 simp only [oK,b5] at hc;obtain ⟨⟨hc1,kR⟩,UK⟩:=hc;have hm:=hS.mid;obtain ⟨G2,e1,e2,e3,e4⟩:=RI.after (l:=E.lim) (a:={ a with defers:=ds }) hst hR.size (by rw [htr.U7];exact hR.U7) hk (by rw [htr.gq];exact aq) ho kR hm.ri.defers hm.val hts;have hpv:=PV.after (w' :=w') (I' :=I') (x:=x) (ds:=ds) hst hR hk ho hi kR (fun y hy=>DP hD (by rw [hy] at hc1;exact hc1)) htr hts (fun id hN ht=>by
  obtain ⟨h1,h2⟩:=hm.ko id hN ht;exact ⟨h1,fun b hb=>(h2 b hb).2⟩) hf
 refine ⟨G2,⟨e4,hpv,?_,?_,?_,?_,?_,?_,?_⟩,⟨?_,?_,?_,?_,?_,?_⟩,?_,hS.old⟩
 ·intro j ai y hj hai hop
  have lift:tw X S y->tw X (fun j=>S j\/j=k) y:=by
   intro h;cases y with
   |loc m=>exact ⟨Or.inl h.1,h.2⟩
   |slot s=>exact h
   |const v=>trivial
  rcases hj with hj|rfl
  ·exact lift (hR.cl j ai y hj hai hop)
  ·rw [hi] at hai;cases hai
   exact lift (DP hD (by rw [hop] at hc1;exact hc1))
 ·rw [EW hts,htr.U7];exact hR.U7
 ·rw [EV hts,htr.gq];exact hR.gq
 ·intro id hid;rw [mO hts];exact hS.cm id hid
 ·rw [mO hts];exact Nat.le_trans hR.Dp hm.len
 ·rw [EA];exact hR.size
 ·rw [jY]
  intro d hd
  rcases hds with rfl|⟨d',rfl,hid⟩
  ·exact hR.idle d hd
  ·simp only [x9] at hd
   rcases hd with rfl|hd
   ·exact hid
   ·exact hR.idle d hd
 ·exact hm.ext.trans e1
 ·exact hm.ey.trans fun id _=>⟨fun b hb=>⟨e3 b id hb,rfl⟩,e2 id⟩
 ·intro id hid hN;exact hm.inj id hid hN
 ·intro id _ hN;exact hm.mono id hN
 ·intro id hid hN
  rcases hS.old id (Nat.lt_of_lt_of_le hid hR.Dp) hN with h1|h1
  ·exact h1
  ·have:=hne id h1;omega
 ·intro id o' hb ho';rw [mO hts] at ho';exact hm.hle id o' hb ho'
 ·rw [mO hts];exact hm.len
theorem tX (hst:Stat X nt)(CP:lG X.P E.cf E.prom)(dU:∀ f args H lm r,E.cf f args H lm=some r->U1 X.P f=true)(hs:E.lim.strict<=E.lim.base)(UJ:E.lim.base<=E.entry)(hR:Rg X j4 E nt S st a w G I N)
  (hD:∀ j,D j=true->S j) {k:Nat} (hk:¬ S k) {o:Oper} (ho:X.ops[k]? =some o) {i:n9} (hi:j4[k]? =some i) (hc:oK X D o i=true) {u9:Option Nat} (hid:i.op.A0=true->CU E.lim st N u9) (hne:∀ i,u9=some i->E.entry<=i/\i<st.H.length)
  {rs:List Nat} (he:y9 E j4 u9 k i st=some (aj,rs)) (K:Act->World->Prop) (Q:Exit->Act->World->Prop)
  (hK:∀ a' w' G' I' N',Xo X j4 E nt S st w G I N k u9 aj a' w' G' I' N' ->K a' w'):wpOp X.P X.ops Q k K a w:=by
 have aq:k<st.L.length:=by rw [hR.gq];exact o4 hi
 have qw :=hc;simp only [oK,b5] at qw;obtain ⟨⟨hc1,kR⟩,UK⟩:=qw;unfold wpOp;simp only [ho];unfold y9 at he;split at he
 ·rename_i hw
  rw [if_pos (rD hR hD UK hw)];split at he
  ·rename_i Q3 rs1 hW
   split at he
   ·rename_i aD7 hts
    cases he;refine Or.inl ?_;have hrun:=EJ (P:=X.P) CP dU rfl hR.ri hR.pv hR.U7 hR.cm (Nat.le_trans UJ hR.Dp) hs hD hk aq hc1 (u9:=u9) hid hW;refine hrun K Q ?_;rintro a' w' ⟨x,ds,G',I',N',hF,rfl,hds,hS⟩;have htr:Tr N k st Q3:=Tr.D7 hR.cm (fun i h=>(hne i h).2) (fun ha=>(hid ha).new) hW;obtain ⟨Xp,tL⟩:=Rg.after hst hR hD hk aq ho hi hc (fun i h=>(hne i h).1) htr hts hds (Or.inr hF) hS;exact hK _ _ _ _ _ tL
   ·cases he
  ·cases he
 ·rename_i hw
  rw [if_neg (by rw [rD hR hD UK hw];simp)];split at he
  ·rename_i aD7 hts
   cases he;have htr:Tr N k st (put st k (.tuple [])):=Tr.put _;have hS:uN u9 X E.lim S E.entry st a w G I N (put st k (.tuple [])) k undef w G I N :=
    uN.jC hR.cm (cz.same hR.ri hk aq E.entry (by simp only [VR];exact ⟨#[],rfl,by simp [G8]⟩))
   have hL:aj.L[k]? =some (.tuple []):=by
    rcases Q8 hts with ⟨_,rfl⟩|⟨s,dD,_,_,rfl,_⟩
    ·simp [put,aq]
    ·simp [D8,put,aq]
   obtain ⟨Xp,tL⟩:=Rg.after hst hR hD hk aq ho hi hc (fun i h=>(hne i h).1) htr hts (Or.inl rfl) (Or.inl hL) hS;exact hK _ _ _ _ _ tL
  ·cases he
 ·cases he
def jX (X:Cx):List n9->Nat->Bool
 |[],k=>X.ops.size==k
 |i::is,k=>(match X.ops[k]? with
  |some o=>oK X (fun j=>decide (j<k)) o i
  |none=>false)&&jX X is (k+1)
structure Fin (X:Cx)(j4:List n9)(E:Env)(nt:Nat)(st0:F0)(w:World)(G:Gh)(I:S4)(N:Nat->Prop)(aj:F0)(a' :Act)(w' :World)(G' :Gh)(I' :S4)(N' :Nat->Prop):Prop where
 rg:Rg X j4 E nt (fun j=>j<j4.length) aj a' w' G' I' N'
 since:W5 E st0.H w G I N aj.H w' G' I' N'
theorem Rg.congr {S' :Nat->Prop}(h:Rg X j4 E nt S st a w G I N)(hS:∀ j,S j↔S' j):Rg X j4 E nt S' st a w G I N:=by
 have:S=S' :=funext fun j=>propext (hS j)
 subst this;exact h
theorem Ch (hst:Stat X nt)(CP:lG X.P E.cf E.prom)(dU:∀ f args H lm r,E.cf f args H lm=some r->U1 X.P f=true)(hs:E.lim.strict<=E.lim.base)(UJ:E.lim.base<=E.entry)(Q:Exit->Act->World->Prop) :
  ∀ (is:List n9) (k:Nat),j4.drop k=is->k<=j4.length->jX X is k=true->∀ (st:F0) (a:Act) (w:World) (G:Gh) (I:S4) (N:Nat->Prop) (aj:F0),Rg X j4 E nt (fun j=>j<k) st a w G I N->cq E j4 is k st=some aj ->
   (∀ a' w' G' I' N',Fin X j4 E nt st w G I N aj a' w' G' I' N' ->Q .normal a' w')->wpOps X.P X.ops Q (List.range' k is.length) a w:=by
 intro is
 induction is with
 |nil =>
  intro k hd hk _ st a w G I N aj hR hrun hQ;simp only [cq] at hrun;cases hrun;have aq:j4.length=k:=by
   have:=congrArg List.length hd;simp at this;omega
  simp only [List.length_nil,List.range'_zero,wpOps];exact hQ _ _ _ _ _ ⟨by rw [aq];exact hR,W5.refl _ _ _ _ _ _⟩
 |cons i is ih =>
  intro k hd hk hc st a w G I N aj hR hrun hQ;have hi:j4[k]? =some i:=by
   have:(j4.drop k)[0]? =some i:=by rw [hd];rfl
   rw [List.getElem?_drop] at this;simpa using this
  have hd' :j4.drop (k+1)=is:=by
   have:=congrArg (List.drop 1) hd;rw [List.drop_drop] at this;simpa using this
  simp only [jX,b5] at hc;obtain ⟨hc1,kR⟩:=hc;simp only [cq] at hrun;split at hrun
  ·rename_i Q3 rs hstep
   cases ho:X.ops[k]? with
   |none=>rw [ho] at hc1;cases hc1
   |some o =>
    rw [ho] at hc1;simp only [A2,List.range'_succ];rw [wpOps_cons];refine tX hst CP dU hs UJ hR (D:=fun j=>decide (j<k)) (fun j hj=>by simpa using hj) (Nat.lt_irrefl k) ho hi hc1 (u9:=none) (fun _=> ?_) (fun i h=>by cases h) hstep _ _ ?_
    ·exact ⟨(fun hN=>by have:=hR.cm _ hN;simp [newId] at this),(fun i h=>by cases h),by simp only [newId,Option.getD_none];exact Nat.le_trans UJ hR.Dp,by simp only [newId,Option.getD_none];exact Nat.le_trans hs (Nat.le_trans UJ hR.Dp)⟩
    ·intro a' w' G' I' N' tL
     refine ih (k+1) hd' (o4 hi) kR Q3 a' w' G' I' N' aj (tL.rg.congr fun j=>by omega) hrun ?_;intro a'' w'' Xp I'' N'' sN;exact hQ _ _ _ _ _ ⟨sN.rg,tL.since.trans sN.since⟩
  ·cases hrun
end
def u5.dP:u5->List Nat
 | .loc j=>[j]
 |_=>[]
def u5.slots:u5->List Nat
 | .slot s=>[s]
 |_=>[]
def y6.T6:y6->List u5
 | .N8 x=>[x]
 | .pick c a b=>[c,a,b]
 | .alloc _=>[]
 | .box x=>[x]
 | .build _ parts=>parts.map (·.2.2)
 | .A1 _ _ _ parts _=>parts.map (·.2.2)
 | .load _ x=>[x]
 | .store _ a x=>[a,x]
 | .Z5 x=>[x]
 | .bin _ x y=>[x,y]
 | .un _ x=>[x]
 | .BS _ x=>[x]
 | .Hg _ x=>[x]
 | .o9 _ x y=>[x,y]
 | .Mf _ _ x y=>[x,y]
 | .kQ _ x=>[x]
 | .oM x=>[x]
 | .Bw x=>[x]
 | .iM x=>[x]
 | .pF x lo hi=>x::(lo.toList++hi.toList)
 | .aT _ x lo hi=>x::(lo.toList++hi.toList)
 | .off _ x=>[x]
 | .C3 _ x i=>[x,i]
 | .fN _ _ x i=>[x,i]
 | .B8 x i=>[x,i]
 | .extract x _=>[x]
 | .len x=>[x]
 | .U7 x=>[x]
 | .BN x=>[x]
 | .append _ _ _ x y=>[x,y]
 | .fC _ xs=>xs
 | .clear _ _ x=>[x]
 | .Y3 _ first caps=>first++caps
 | .call _ xs=>xs
 | .au x xs=>x::xs
 | .makeMap=>[]
 | .lookup _ _ _ m k=>[m,k]
 | .dn _ m k v=>[m,k,v]
 | .defer x=>[x]
 | .bad=>[]
def fI (j4:List n9)(i:n9):List Nat :=
 (i.op.T6.flatMap u5.dP)++(match i.guard with|some (g,_)=>[g]|none=>[]) ++
 (match i.op with
  | .append _ _ _ (.loc j) _=>(match j4[j]? with|some a=>a.op.T6.flatMap u5.dP|none=>[])
  |_=>[])
def iE (i:n9):List Nat:=i.op.T6.flatMap u5.slots
theorem T5 {α β:Type}{f g:α->β}{l:List α}(h:∀ x,x ∈ l->f x=g x):l.map f=l.map g:=List.map_congr_left h
theorem ij {ρ ρ' :u5->b6}{ps:List (Nat×Nat×u5)}(h:∀ x,x ∈ ps.map (·.2.2)->ρ' x=ρ x):(ps.map fun (o,s,x)=>(o,s,ρ' x))=ps.map fun (o,s,x)=>(o,s,ρ x):=by
 refine List.map_congr_left ?_;rintro ⟨o,s,x⟩ hm;simp only;rw [h x (List.mem_map.2 ⟨(o,s,x),hm,rfl⟩)]
theorem gV {ρ ρ' :u5->b6}{d:Nat}{o:Option u5}(h:∀ x,x ∈ o.toList->ρ' x=ρ x):S1 ρ' d o=S1 ρ d o:=by
 cases o with
 |none=>rfl
 |some x=>simp only [S1];rw [h x (by simp)]
theorem qM {ρ ρ' :u5->b6}{H:o6}{op:y6}(h:∀ x,x ∈ op.T6->ρ' x=ρ x):m7 ρ' H op=m7 ρ H op:=by
 cases op<;>simp only [y6.T6] at h
 case build=>simp only [m7,ij h]
 case A1 sz len zero parts ob=>cases ob<;>simp only [m7,ij h]
 case fC isMax xs=>simp only [m7,T5 h]
 case Y3 f first caps =>
  simp only [m7];rw [T5 (l:=first) fun x hx=>h x (by simp [hx]),T5 (l:=caps) fun x hx=>h x (by simp [hx])]
 case pF x lo hi =>
  have h1:=h x (by simp);have h2:∀ d,S1 ρ' d lo=S1 ρ d lo:=fun d=>gV fun y hy=>h y (by simp at hy ⊢;simp [hy])
  have h3:∀ d,S1 ρ' d hi=S1 ρ d hi:=fun d=>gV fun y hy=>h y (by simp at hy ⊢;simp [hy])
  simp only [m7,h1,h2,h3]
 case aT sz x lo hi =>
  have h1:=h x (by simp);have h2:∀ d,S1 ρ' d lo=S1 ρ d lo:=fun d=>gV fun y hy=>h y (by simp at hy ⊢;simp [hy])
  have h3:∀ d,S1 ρ' d hi=S1 ρ d hi:=fun d=>gV fun y hy=>h y (by simp at hy ⊢;simp [hy])
  simp only [m7,h1,h2,h3]
 case load n x=>cases n<;>simp only [m7,h x (by simp)]
 case pick c a b=>simp only [m7,h c (by simp),h a (by simp),h b (by simp)]
 case bin b x y=>simp only [m7,h x (by simp),h y (by simp)]
 case o9 b x y=>simp only [m7,h x (by simp),h y (by simp)]
 case Mf b ks x y=>simp only [m7,h x (by simp),h y (by simp)]
 case C3 s x y=>simp only [m7,h x (by simp),h y (by simp)]
 case fN n s x y=>simp only [m7,h x (by simp),h y (by simp)]
 case B8 x y=>simp only [m7,h x (by simp),h y (by simp)]
 case lookup kk z ok x y=>simp only [m7,h x (by simp),h y (by simp)]
 case Z5 x=>simp only [m7,h x (by simp)]
 case un b x=>simp only [m7,h x (by simp)]
 case BS b x=>simp only [m7,h x (by simp)]
 case Hg b x=>simp only [m7,h x (by simp)]
 case kQ k x=>simp only [m7,h x (by simp)]
 case oM x=>simp only [m7,h x (by simp)]
 case Bw x=>simp only [m7,h x (by simp)]
 case iM x=>simp only [m7,h x (by simp)]
 case off k x=>simp only [m7,h x (by simp)]
 case extract x i=>simp only [m7,h x (by simp)]
 case len x=>simp only [m7,h x (by simp)]
 case U7 x=>simp only [m7,h x (by simp)]
 case BN x=>simp only [m7,h x (by simp)]
 all_goals rfl
def O5:Option z6->Option z6->Prop
 |some (.cells l),some (.cells l')=>l.map b6.G9=l'.map b6.G9
 |a,b=>a=b
theorem O5.refl (o:Option z6):O5 o o:=by
 cases o with
 |none=>rfl
 |some o=>cases o<;>simp [O5]
theorem O5.symm {a b:Option z6}(h:O5 a b):O5 b a:=by
 unfold O5 at h ⊢;split at h
 ·exact h.symm
 ·rename_i hne
  split
  ·rename_i l l'
   exact absurd rfl (hne l' l rfl)
  ·exact h.symm
theorem O5.trans {a b c:Option z6}(h:O5 a b)(k:O5 b c):O5 a c:=by
 cases a with
 |none =>
  have:b=none:=by
   cases b with
   |none=>rfl
   |some o=>simp [O5] at h
  subst this;exact k
 |some oa =>
  cases b with
  |none=>simp [O5] at h
  |some ob =>
   cases c with
   |none=>simp [O5] at k
   |some oc =>
    cases oa<;>cases ob<;>cases oc<;>simp_all [O5]
theorem Ih (v:b6):v.G9.G9=v.G9:=by cases v<;>rfl
theorem TU {H H' :o6}{id off n:Nat}(h:O5 H'[id]? H[id]?){vs:List b6}(hr:rd H id off n=some vs):∃ vs',rd H' id off n=some vs' /\vs'.map b6.G9=vs.map b6.G9:=by
 unfold rd at hr ⊢;split at hr
 ·rename_i l hl
  split at hr
  ·rename_i hlen
   cases hr;rw [hl] at h;cases h' :H'[id]? with
   |none=>rw [h'] at h;simp [O5] at h
   |some o =>
    rw [h'] at h;cases o with
    |cells l' =>
     have h:l'.map b6.G9=l.map b6.G9:=by simpa [O5] using h
     have YU:l'.length=l.length:=by simpa using congrArg List.length h
     refine ⟨(l'.drop off).take n,by simp [YU,hlen],?_⟩;have:=congrArg (fun x=>(x.drop off).take n) h;simpa [List.map_drop,List.map_take] using this
    |dead=>simp [O5] at h
    |map es=>simp [O5] at h
  ·cases hr
 ·cases hr
theorem Eg {ρ:u5->b6}{H H' :o6}{op:y6}{v:b6}{rs:List Nat}(h:m7 ρ H op=some (v,rs))(hr:∀ id,id ∈ rs->O5 H'[id]? H[id]?):m7 ρ H' op=some (v,rs):=by
 cases op
 case load n x =>
  cases n with
  |none =>
   simp only [m7] at h ⊢;split at h
   ·rename_i id off hp
    split at h
    ·rename_i u hu
     cases h;obtain ⟨vs',h1,h2⟩:=TU (hr id (by simp)) hu;obtain ⟨u',rfl⟩:∃ u',vs' =[u']:=by
      have:=congrArg List.length h2;simp at this;exact List.length_eq_one_iff.1 this
     simp at h2;simp only [h1,h2]
    ·cases h
   ·exact h
   ·cases h
  |some n =>
   simp only [m7] at h ⊢;split at h
   ·rename_i id off hp
    split at h
    ·rename_i us hu
     cases h;obtain ⟨vs',h1,h2⟩:=TU (hr id (by simp)) hu;simp only [h1,h2]
    ·cases h
   ·exact h
   ·cases h
 case BN x =>
  simp only [m7] at h ⊢;split at h
  ·exact h
  ·rename_i id hp
   split at h
   ·rename_i es SZ
    cases h;have:=hr id (by simp);rw [SZ] at this;have h' :H'[id]? =some (.map es):=by
     cases h' :H'[id]? with
     |none=>rw [h'] at this;simp [O5] at this
     |some o=>rw [h'] at this;cases o<;>simp_all [O5]
    simp only [h']
   ·cases h
  ·cases h
 case lookup kk zero ok m k =>
  simp only [m7] at h ⊢;split at h
  ·rename_i id key hp hq
   split at h
   ·rename_i es SZ
    split at h
    ·rename_i r hf
     cases h;have:=hr id (by simp);rw [SZ] at this;have h' :H'[id]? =some (.map es):=by
      cases h' :H'[id]? with
      |none=>rw [h'] at this;simp [O5] at this
      |some o=>rw [h'] at this;cases o<;>simp_all [O5]
     simp only [h',hf]
    ·cases h
   ·cases h
  ·exact h
  ·cases h
 case A1 sz len zero parts ob=>cases ob<;>exact h
 all_goals exact h
structure Still (k:Nat)(dst u9:Option Nat)(d:List Touch)(st st' :F0):Prop where
 L:∀ m,m≠k->(st'.L.getD m .any).G9=(st.L.getD m .any).G9
 Gb:∀ m,m≠k->∀ b,st'.L[m]? =some (b6.d (.bool b))↔st.L[m]? =some (b6.d (.bool b))
 Gt:∀ m,m≠k->(st'.L[m]? =some (b6.tuple [])↔st.L[m]? =some (b6.tuple []))
 T:∀ s,dst≠some s->(st'.T.getD s .any).G9=(st.T.getD s .any).G9
 n7:st'.n7=d++st.n7
 H:∀ id:Nat,d.any (Touch.K1 id)=false->u9≠some id->O5 st'.H[id]? st.H[id]?
 GW:st.H.length<=st'.H.length
 gq:st'.L.length=st.L.length
 U7:st'.T.length=st.T.length
section
variable {k:Nat} {dst u9:Option Nat} {d d1 d2:List Touch} {st Q3 st' :F0}
theorem Still.refl (k:Nat)(dst u9:Option Nat)(st:F0):Still k dst u9 [] st st :=
 ⟨fun _ _=>rfl,fun _ _ _=>Iff.rfl,fun _ _=>Iff.rfl,fun _ _=>rfl,rfl,fun _ _ _=>O5.refl _,k9 _,rfl,rfl⟩
theorem Still.trans (h:Still k dst u9 d1 st Q3)(g:Still k dst u9 d2 Q3 st'):Still k dst u9 (d2++d1) st st' where
 L m hm:=(g.L m hm).trans (h.L m hm)
 Gb m hm b:=(g.Gb m hm b).trans (h.Gb m hm b)
 Gt m hm:=(g.Gt m hm).trans (h.Gt m hm)
 T s hs:=(g.T s hs).trans (h.T s hs)
 n7:=by rw [g.n7,h.n7,List.append_assoc]
 H id hd hn:=by
  simp only [List.any_append,L6] at hd;exact (g.H id hd.1 hn).trans (h.H id hd.2 hn)
 GW:=Nat.le_trans h.GW g.GW
 gq:=g.gq.trans h.gq
 U7:=g.U7.trans h.U7
theorem Still.put (v:b6):Still k dst u9 [] st (put st k v) where
 L m hm:=by simp only [z7.put];rw [H6 _ _ _ _ _ (fun e=>hm e.symm)]
 Gb m hm b:=by simp only [z7.put];rw [s8 (fun e=>hm e.symm)]
 Gt m hm:=by simp only [z7.put];rw [s8 (fun e=>hm e.symm)]
 T _ _:=rfl
 n7:=rfl
 H _ _ _:=O5.refl _
 GW:=k9 _
 gq:=by simp [z7.put]
 U7:=rfl
theorem Still.B4 {j z n:Nat}{c:List Data}(hj:st.L[j]? =some (.own z n c)):Still k dst u9 [] st { st with L:=st.L.set j (.d (.slice n c)) } where
 L m _:=by
  simp only
  by_cases e:j=m
  ·subst e
   rw [L8 _ _ _ _ (o4 hj),X3 hj];rfl
  ·rw [H6 _ _ _ _ _ e]
 Gb m _ b:=by
  simp only
  by_cases e:j=m
  ·subst e
   rw [E0 (o4 hj),hj];simp
  ·rw [s8 e]
 Gt m _:=by
  simp only
  by_cases e:j=m
  ·subst e
   rw [E0 (o4 hj),hj];simp
  ·rw [s8 e]
 T _ _:=rfl
 n7:=rfl
 H _ _ _:=O5.refl _
 GW:=k9 _
 gq:=by simp
 U7:=rfl
theorem Still.D8 (y:u5):Still k dst u9 [] st (D8 st y).2:=by
 cases y with
 |loc j =>
  simp only [z7.D8];split
  ·rename_i hj
   exact Still.B4 hj
  ·exact Still.refl _ _ _ _
 |slot s=>exact Still.refl _ _ _ _
 |const v=>exact Still.refl _ _ _ _
theorem Still.heap {H' :o6}(h2:∀ id:Nat,d.any (Touch.K1 id)=false->u9≠some id->O5 H'[id]? st.H[id]?)(hl:st.H.length<=H'.length):Still k dst u9 d st { st with H:=H',n7:=d++st.n7 } :=
 ⟨fun _ _=>rfl,fun _ _ _=>Iff.rfl,fun _ _=>Iff.rfl,fun _ _=>rfl,rfl,h2,hl,rfl,rfl⟩
theorem Still.newObj {i:Nat}(o:z6):Still k dst (some i) [] st (J5 st (some i) o) :=
 ⟨fun _ _=>rfl,fun _ _ _=>Iff.rfl,fun _ _=>Iff.rfl,fun _ _=>rfl,rfl,fun id _ hn=>by
  simp only [J5];rw [s8 (fun e=>hn (by rw [e]))];exact O5.refl _,(by simp [J5]),rfl,rfl⟩
theorem Still.U9 {l:H7}{sz len:Nat}{cells:List Data}{op:y6}(h:U9 l st sz op=some (len,cells,st')):∃ d,Still k dst u9 d st st' :=by
 unfold z7.U9 at h;split at h
 ·rename_i s
  split at h
  ·cases h
  ·split at h
   ·rename_i hs
    split at h
    ·cases h
     refine ⟨[.slot s],fun _ _=>rfl,fun _ _ _=>Iff.rfl,fun _ _=>Iff.rfl,fun s' _=> ?_,rfl,fun _ _ _=>O5.refl _,k9 _,rfl,by simp⟩;simp only
     by_cases e:s=s'
     ·subst e
      rw [L8 _ _ _ _ (o4 hs),X3 hs];rfl
     ·rw [H6 _ _ _ _ _ e]
    ·cases h
   ·cases h
 ·split at h
  ·rename_i id off Na
   split at h
   ·cases h
   ·split at h
    ·rename_i cs hcs
     split at h
     ·rename_i QT
      split at h
      ·cases h
       refine ⟨[.cell id off],Still.heap (fun id' _ _=> ?_) (by simp)⟩
       by_cases he:id=id'
       ·subst he
        rw [E0 (o4 hcs),hcs];simp only [O5];apply List.ext_getElem?;intro n;simp only [List.getElem?_map]
        by_cases e:off=n
        ·subst e
         rw [E0 (o4 QT),QT];rfl
        ·rw [s8 e]
       ·rw [s8 he];exact O5.refl _
      ·cases h
     ·cases h
    ·cases h
  ·cases h
 ·cases h
theorem Still.P6 {l:H7}{j4:List n9}{sz len:Nat}{cells:List Data}{y:u5}(h:P6 l j4 st sz y=some (len,cells,st')):∃ d,Still k dst u9 d st st' :=by
 unfold z7.P6 at h;split at h
 ·split at h
  ·cases h;exact ⟨[],Still.refl _ _ _ _⟩
  ·cases h
 ·cases h
 ·cases h
 ·split at h
  ·rename_i hj
   split at h
   ·cases h
    exact ⟨[],Still.B4 hj⟩
   ·cases h
  ·split at h
   ·exact Still.U9 h
   ·cases h
  ·cases h
theorem Still.B9 {E:Env}{f:FuncId}{args:List b6}(h:B9 E k f args st=some st'):∃ d,Still k dst none d st st' :=by
 unfold z7.B9 at h;split at h
 ·split at h
  ·rename_i v H1 _
   split at h
   ·rename_i hlen
    cases h;refine ⟨[]++[.below H1.length],Still.trans (Still.heap (fun id hd _=> ?_) hlen) (Still.put _)⟩;simp [Touch.K1] at hd;rw [q9 (by omega),q9 (by omega)];exact O5.refl _
   ·cases h
  ·cases h
 ·simp only at h
  generalize H9 st.H E.lim.strict 8 (A9 args)=n at h;generalize (args.headD .any).N7=m at h;split at h
  ·rename_i aK
   split at h
   ·split at h
    ·split at h
     ·rename_i hlen
      cases h;refine ⟨[]++[.below n],Still.trans (Still.heap (fun id hd _=> ?_) (by simp;omega)) (Still.put _)⟩;simp [Touch.K1] at hd;rw [q8 (by omega),List.getElem?_drop,hlen,show n+(id - n)=id from by omega];exact O5.refl _
     ·cases h
    ·cases h
   ·split at h
    ·split at h
     ·cases h
      exact ⟨_,Still.put _⟩
     ·cases h
    ·cases h
   ·split at h
    ·split at h
     ·rename_i H1 _ hlen
      cases h;refine ⟨[]++[.below m],Still.trans (Still.heap (fun id hd _=> ?_) (by simp;omega)) (Still.put _)⟩;simp [Touch.K1] at hd;rw [q8 (by simp;omega),List.getElem?_drop,show m+(id - (List.take m H1).length)=id from by simp;omega];exact O5.refl _
     ·cases h
    ·cases h
  ·cases h
theorem Pb {H H' :o6}{id off:Nat}{vs:List b6}(h:wr H id off vs=some H'):H'.length=H.length:=by
 unfold wr at h;split at h
 ·split at h
  ·cases h;simp
  ·cases h
 ·cases h
theorem Still.Q0 {E:Env}{n:Nat}{a:b6}{x:u5}(h:Q0 E k n st a x=some st'):∃ d,Still k dst none d st st' :=by
 unfold z7.Q0 at h;split at h
 ·rename_i id off
  split at h
  ·split at h
   ·split at h
    ·rename_i H' hw
     cases h;refine ⟨[]++([.obj id]++[]),Still.trans (Still.trans (Still.D8 x) (Still.heap (fun id' hd _=> ?_) (by rw [Pb hw];exact k9 _))) (Still.put _)⟩;rw [rE hw ?_]
     ·exact O5.refl _
     ·rintro rfl
      simp [Touch.K1] at hd
    ·cases h
   ·cases h
  ·cases h
 ·cases h
theorem Still.X0 {E:Env}{sz:Nat}{zero:List b6}{a:b6}(h:X0 E k sz zero st a=some st'):∃ d,Still k dst none d st st' :=by
 unfold z7.X0 at h;split at h
 ·rename_i id z lo len
  split at h
  ·split at h
   ·rename_i H' hw
    cases h;refine ⟨[]++[.obj id],Still.trans (Still.heap (fun id' hd _=> ?_) (by rw [Pb hw];exact k9 _)) (Still.put _)⟩;rw [rE hw ?_]
    ·exact O5.refl _
    ·rintro rfl
     simp [Touch.K1] at hd
   ·cases h
  ·cases h
 ·cases h
  exact ⟨_,Still.put _⟩
 ·cases h
theorem Still.T0 {E:Env}{kk:CK}{m key v:b6}(h:T0 E k kk st m key v=some st'):∃ d,Still k dst none d st st' :=by
 unfold z7.T0 at h;split at h
 ·rename_i id kd
  split at h
  ·split at h
   ·split at h
    ·split at h
     ·cases h
      refine ⟨[]++[.obj id],Still.trans (Still.heap (fun id' hd _=> ?_) (by simp)) (Still.put _)⟩;rw [s8]
      ·exact O5.refl _
      ·rintro rfl
       simp [Touch.K1] at hd
     ·cases h
    ·cases h
   ·cases h
  ·cases h
 ·cases h
theorem Still.E9 {E:Env}{j4:List n9}{op:y6}(hk:E7 st op=false)(hn:u9.isSome=op.A0)(h:E9 E j4 u9 k st op=some st'):∃ d,Still k dst u9 d st st' :=by
 cases op<;>simp only [z7.E9] at h<;>try (cases h;done)
 all_goals (simp only [y6.A0] at hn)
 case alloc zero =>
  obtain ⟨i,rfl⟩:=Option.isSome_iff_exists.1 hn;cases h;exact ⟨_,(Still.newObj _).trans (Still.put _)⟩
 case box x =>
  obtain ⟨i,rfl⟩:=Option.isSome_iff_exists.1 hn;split at h
  ·cases h;exact ⟨_,(Still.newObj _).trans (Still.put _)⟩
  ·cases h
 case makeMap =>
  obtain ⟨i,rfl⟩:=Option.isSome_iff_exists.1 hn;cases h;exact ⟨_,(Still.newObj _).trans (Still.put _)⟩
 case A1 sz len zero parts ob =>
  cases ob
  ·cases h
  ·obtain ⟨i,rfl⟩:=Option.isSome_iff_exists.1 hn
   simp only at h;split at h
   ·split at h
    ·cases h;exact ⟨_,(Still.newObj _).trans (Still.put _)⟩
    ·cases h
   ·cases h
 case store n a x =>
  have:u9=none:=by simpa using hn
  subst this;exact Still.Q0 h
 case append sz bytes ob x y =>
  split at h
  ·rename_i hx
   simp [E7,hx] at hk
  ·cases ob with
   |true =>
    obtain ⟨i,rfl⟩:=Option.isSome_iff_exists.1 hn;unfold z7.K5 at h;simp only [if_true] at h;split at h
    ·split at h
     ·split at h
      ·cases h;exact ⟨_,Still.put _⟩
      ·cases h;exact ⟨_,(Still.newObj _).trans (Still.put _)⟩
     ·cases h
    ·cases h
   |false =>
    have:u9=none:=by simpa using hn
    subst this;unfold z7.K5 at h;simp only [b7,if_false] at h;split at h
    ·split at h
     ·split at h
      ·rename_i ht
       split at h
       ·cases h
        obtain ⟨d,hd⟩:=Still.P6 (k:=k) (dst:=dst) (u9:=none) ht;exact ⟨_,hd.trans (Still.put _)⟩
       ·cases h
      ·cases h
     ·cases h
    ·cases h
 case clear sz zero x =>
  have:u9=none:=by simpa using hn
  subst this;exact Still.X0 h
 case call f xs =>
  have:u9=none:=by simpa using hn
  subst this;exact Still.B9 h
 case au x xs =>
  have:u9=none:=by simpa using hn
  subst this;split at h
  ·exact Still.B9 h
  ·cases h
 case dn =>
  have:u9=none:=by simpa using hn
  subst this;exact Still.T0 h
 case defer x =>
  split at h
  ·split at h
   ·cases h;exact ⟨_,Still.put _⟩
   ·cases h
  ·cases h
theorem Still.G4 {az4 :Option Nat}(h:u7 az4 st k dst=some st'):∃ d,Still k dst u9 d st st' :=by
 rcases Q8 h with ⟨_,rfl⟩|⟨s,n7,rfl,_,rfl,BJ⟩
 ·exact ⟨_,Still.refl _ _ _ _⟩
 ·have hx:=Still.D8 (k:=k) (dst:=some s) (u9:=u9) (st:=st) (.loc k)
  have key:∀ d,n7=d++st.n7->Still k (some s) u9 d st { (z7.D8 st (.loc k)).2 with T:=st.T.set s (z7.D8 st (.loc k)).1,n7 }:=by
   intro d hd;refine ⟨hx.L,hx.Gb,hx.Gt,fun s' hs=> ?_,hd,fun id _ hn=>hx.H id rfl hn,hx.GW,hx.gq,by simp⟩;simp only;rw [H6 _ _ _ _ _ (fun e=>hs (by rw [e]))]
  rcases BJ with rfl|⟨rfl,_⟩
  ·exact ⟨[.slot s],key _ rfl⟩
  ·exact ⟨[],key _ rfl⟩
theorem Still.y9 {E:Env}{j4:List n9}{i:n9}{rs:List Nat}(hk:E7 st i.op=false)(hn:u9.isSome=i.op.A0)(h:y9 E j4 u9 k i st=some (st',rs)):∃ d,Still k i.dst u9 d st st' :=by
 unfold z7.y9 at h;split at h
 ·split at h
  ·rename_i Q3 rs1 hW
   split at h
   ·rename_i aj hts
    cases h;have h1:∃ d,Still k i.dst u9 d st Q3:=by
     unfold z7.D7 at hW;split at hW
     ·split at hW
      ·rename_i he
       cases hW;exact Still.E9 hk hn he
      ·cases hW
     ·split at hW
      ·cases hW
       exact ⟨_,(Still.D8 _).trans (Still.put _)⟩
      ·split at hW
       ·cases hW
        exact ⟨_,Still.put _⟩
       ·cases hW
    obtain ⟨d1,h1⟩:=h1;obtain ⟨d2,h2⟩:=Still.G4 (u9:=u9) hts;exact ⟨_,h1.trans h2⟩
   ·cases h
  ·cases h
 ·split at h
  ·rename_i hts
   cases h;obtain ⟨d2,h2⟩:=Still.G4 (u9:=u9) hts;exact ⟨_,(Still.put _).trans h2⟩
  ·cases h
 ·cases h
theorem Still.F8 (h:Still k dst u9 d st st'){x:u5}(hl:k ∉ x.dP)(ht:∀ s,s ∈ x.slots->dst≠some s):F8 st'.T st'.L x=F8 st.T st.L x:=by
 cases x with
 |loc j =>
  simp only [z7.F8];exact h.L j (fun e=>hl (by simp [u5.dP,e]))
 |slot s =>
  simp only [z7.F8];exact h.T s (ht s (by simp [u5.slots]))
 |const v=>rfl
theorem Still.wanted (h:Still k dst u9 d st st'){g:Option (Nat×Bool)}(hg:∀ j b,g=some (j,b)->j≠k):y5 st'.L g=y5 st.L g:=by
 cases g with
 |none=>rfl
 |some p =>
  obtain ⟨j,want⟩:=p;have hj:=hg j want rfl;have h1:=h.Gb j hj;have h2:=h.Gt j hj;simp only [y5];split
  ·rename_i b hb
   rw [(h1 b).1 hb]
  ·rename_i hb
   rw [h2.1 hb]
  ·rename_i n1 n2
   split
   ·rename_i b hb
    exact absurd ((h1 b).2 hb) (n1 b)
   ·rename_i hb
    exact absurd (h2.2 hb) n2
   ·rfl
theorem Still.DB {E:Env}{i:n9}{rs:List Nat}(h:Still k dst u9 d st st'):(cJ E i u9 st st' rs).DB=kF u9++d:=by
 simp only [cJ,h.n7];simp
theorem Still.reads {E:Env}{i:n9}{rs:List Nat}(h:Still k dst u9 d st st'){ids:List Nat}(hh:J8 (cJ E i u9 st st' rs).DB ids=false){id:Nat}(hid:id ∈ ids):O5 st'.H[id]? st.H[id]? :=by
 rw [h.DB] at hh;unfold J8 at hh;have hno:∀ t,t ∈ (kF u9++d:List Touch)->t.K1 id=false:=by
  intro t ht;rw [List.any_eq_false] at hh;have h1:=hh t ht;simp only [Bool.not_eq_true] at h1;rw [List.any_eq_false] at h1;simpa using h1 id hid
 refine h.H id ?_ ?_
 ·rw [List.any_eq_false]
  intro t ht;rw [hno t (by simp [ht])];simp
 ·rintro rfl
  have:=hno (.obj id) (by simp [kF]);simp [Touch.K1] at this
end
section
variable {E:Env} {j4:List n9} {u9:Option Nat} {k q:Nat} {v:b6} {st Q3 aj st' :F0}
theorem qP {x:u5}(h:q ∉ x.dP):F8 (put st q v).T (put st q v).L x=F8 st.T st.L x:=by
 cases x with
 |loc j =>
  simp only [F8,put];rw [H6 _ _ _ _ _ (fun e=>h (by simp [u5.dP,e]))]
 |slot s=>rfl
 |const c=>rfl
theorem put_comm (h:q≠k)(u:b6):put (put st q v) k u=put (put st k u) q v:=by
 simp only [put]
 congr 1
 exact List.set_comm _ _ h
theorem cr {l:List b6}{q j:Nat}(h:q≠j)(v:b6):(l.set q v)[j]? =l[j]? :=s8 h
theorem yj {x:u5}(h:q ∉ x.dP):D8 (put st q v) x=((D8 st x).1,put (D8 st x).2 q v):=by
 cases x with
 |loc j =>
  have hj:q≠j:=fun e=>h (by simp [u5.dP,e])
  simp only [D8,put,cr hj];cases hl:st.L[j]? with
  |none=>simp only [F8,List.getD,cr hj]
  |some a =>
   cases a<;>simp only [F8,List.getD,cr hj];rw [List.set_comm _ _ hj]
 |slot s=>rfl
 |const c=>rfl
theorem eX (o:z6):J5 (put st q v) u9 o=put (J5 st u9 o) q v:=by cases u9<;>rfl
theorem jx:newId (put st q v) u9=newId st u9:=rfl
theorem Aa {x:u5}(h:q ∉ x.dP):Z6 (put st q v) x=Z6 st x:=by
 cases x with
 |loc j =>
  have hj:q≠j:=fun e=>h (by simp [u5.dP,e])
  simp only [Z6,put,cr hj]
 |slot s=>rfl
 |const c=>rfl
theorem EP {l:H7}{sz:Nat}{op:y6}(h:q ∉ op.T6.flatMap u5.dP):U9 l (put st q v) sz op=(U9 l st sz op).map fun p=>(p.1,p.2.1,put p.2.2 q v):=by
 unfold U9;split
 ·rename_i s
  have e1:(put st q v).n7=st.n7:=rfl;have e2:(put st q v).T=st.T:=rfl;simp only [e1,e2];split
  ·rfl
  ·split
   ·split
    ·rfl
    ·rfl
   ·rfl
 ·rename_i x
  have hx:q ∉ x.dP:=fun e=>h (by simp [y6.T6,e])
  rw [Aa hx];have e1:(put st q v).n7=st.n7:=rfl;have e2:(put st q v).H=st.H:=rfl;split
  ·simp only [e1,e2]
   split
   ·rfl
   ·split
    ·split
     ·split
      ·rfl
      ·rfl
     ·rfl
    ·rfl
  ·rfl
 ·rfl
theorem EO {l:H7}{sz:Nat}{x:u5}(h:q ∉ x.dP)(h2:∀ j a,x= .loc j->j4[j]? =some a->q ∉ a.op.T6.flatMap u5.dP) :
  P6 l j4 (put st q v) sz x=(P6 l j4 st sz x).map fun p=>(p.1,p.2.1,put p.2.2 q v):=by
 cases x with
 |const c =>
  unfold P6;cases c<;>first|rfl|skip
  simp only;split<;>rfl
 |slot s=>rfl
 |loc j =>
  have hj:q≠j:=fun e=>h (by simp [u5.dP,e])
  have e:(put st q v).L[j]? =st.L[j]? :=by simp only [put];exact cr hj v
  simp only [P6];rw [e];cases hl:st.L[j]? with
  |none=>rfl
  |some b =>
   cases b with
   |own z len cells =>
    simp only;split
    ·simp only [put,F1]
     rw [List.set_comm _ _ hj]
    ·rfl
   |d x =>
    cases x with
    |slice n c =>
     simp only;cases ha:j4[j]? with
     |none=>rfl
     |some a=>exact EP (h2 j a rfl ha)
    |_=>rfl
   |_=>rfl
theorem tD (h:q≠k){f:FuncId}{args:List b6}:B9 E k f args (put st q v)=(B9 E k f args st).map fun s=>put s q v:=by
 have e1:(put st q v).H=st.H:=rfl;have e2:(put st q v).n7=st.n7:=rfl;have key:∀ (H:o6) (t:List Touch) (u:b6),put { put st q v with H:=H,n7:=t } k u=put (put { st with H:=H,n7:=t } k u) q v:=by
  intro H t u;simp only [put]
  congr 1
  exact List.set_comm _ _ h
 unfold B9;simp only [e1,e2];split
 ·split
  ·split
   ·rw [key];rfl
   ·rfl
  ·rfl
 ·split
  ·split
   ·split
    ·split
     ·rw [key];rfl
     ·rfl
    ·rfl
   ·split
    ·split
     ·simp only [F1,put_comm h]
     ·rfl
    ·rfl
   ·split
    ·split
     ·rw [key];rfl
     ·rfl
    ·rfl
  ·rfl
theorem CC (h:q≠k){n:Nat}{a:b6}{x:u5}(hx:q ∉ x.dP):Q0 E k n (put st q v) a x=(Q0 E k n st a x).map fun s=>put s q v:=by
 unfold Q0;simp only [yj hx];cases a with
 |ptr id off =>
  simp only;split
  ·split
   ·have e:(put (D8 st x).2 q v).H=(D8 st x).2.H:=rfl
    rw [e];split
    ·simp only [put,F1]
     congr 2
     exact List.set_comm _ _ h
    ·rfl
   ·rfl
  ·rfl
 |_=>rfl
theorem Bp (h:q≠k){sz:Nat}{zero:List b6}{a:b6}:X0 E k sz zero (put st q v) a=(X0 E k sz zero st a).map fun s=>put s q v:=by
 have e:(put st q v).H=st.H:=rfl;unfold X0;split
 ·split
  ·rw [e]
   split
   ·simp only [put,F1]
    congr 2
    exact List.set_comm _ _ h
   ·rfl
  ·rfl
 ·simp only [F1,put_comm h]
 ·rfl
theorem yX (h:q≠k){kk:CK}{m key x:b6}:T0 E k kk (put st q v) m key x=(T0 E k kk st m key x).map fun s=>put s q v:=by
 have e:(put st q v).H=st.H:=rfl;unfold T0;split
 ·rw [e]
  split
  ·split
   ·split
    ·split
     ·simp only [put,F1]
      congr 2
      exact List.set_comm _ _ h
     ·rfl
    ·rfl
   ·rfl
  ·rfl
 ·rfl
theorem Hh {l:H7}{op:y6}(h:q ∉ op.T6.flatMap u5.dP):mz l (put st q v) op=mz l st op:=by
 unfold mz;split
 ·rfl
 ·rename_i x
  have hx:q ∉ x.dP:=fun e=>h (by simp [y6.T6,e])
  rw [Aa hx];rfl
 ·rfl
theorem Lm {l:H7}{x:u5}(h:q ∉ x.dP)(h2:∀ j a,x= .loc j->j4[j]? =some a->q ∉ a.op.T6.flatMap u5.dP):isNil l j4 (put st q v) x=isNil l j4 st x:=by
 cases x with
 |const c=>cases c<;>rfl
 |slot s=>rfl
 |loc j =>
  have hj:q≠j:=fun e=>h (by simp [u5.dP,e])
  have e:(put st q v).L[j]? =st.L[j]? :=by simp only [put];exact cr hj v
  simp only [isNil];rw [e];cases ha:j4[j]? with
  |none=>rfl
  |some a=>simp only [Hh (h2 j a rfl ha)]
theorem yO (h:q≠k){sz bytes:Nat}{ob:Bool}{x:u5}{y:b6}(hx:q ∉ x.dP)(h2:∀ j a,x= .loc j->j4[j]? =some a->q ∉ a.op.T6.flatMap u5.dP) :
  K5 E j4 u9 k sz bytes ob (put st q v) x y=(K5 E j4 u9 k sz bytes ob st x y).map fun s=>put s q v:=by
 have e:(put st q v).H=st.H:=rfl;unfold K5;rw [e,Lm hx h2,EO hx h2];split
 ·split
  ·split
   ·split
    ·simp only [F1,put_comm h]
    ·simp only [eX,jx,F1,put_comm h]
   ·rfl
  ·split
   ·cases ht:P6 E.lim j4 st sz x with
    |none=>rfl
    |some p =>
     obtain ⟨len,cells,s1⟩:=p;simp only [F1];split
     ·simp only [F1,put_comm h]
     ·rfl
   ·rfl
 ·rfl
theorem Q7 {i:n9}{x:u5}(hx:x ∈ i.op.T6)(h:q ∉ fI j4 i):q ∉ x.dP:=by
 intro hq;apply h;unfold fI;rw [List.append_assoc];exact List.mem_append_left _ (List.mem_flatMap.2 ⟨x,hx,hq⟩)
theorem bU {i:n9}{g:Nat}{b:Bool}(hg:i.guard=some (g,b))(h:q ∉ fI j4 i):g≠q:=by
 rintro rfl;apply h;unfold fI;rw [hg];simp
theorem yY {i:n9}{sz bytes:Nat}{ob:Bool}{x y:u5}(hop:i.op= .append sz bytes ob x y)(h:q ∉ fI j4 i):∀ j a,x= .loc j->j4[j]? =some a->q ∉ a.op.T6.flatMap u5.dP:=by
 rintro j a rfl ha hq;apply h;unfold fI;rw [hop];simp only [ha];exact List.mem_append_right _ hq
theorem KT {i:n9}(h:q≠k)(hu:q ∉ fI j4 i)(hk:E7 st i.op=false):E9 E j4 u9 k (put st q v) i.op=(E9 E j4 u9 k st i.op).map fun s=>put s q v:=by
 have hρ:∀ x,x ∈ i.op.T6->F8 (put st q v).T (put st q v).L x=F8 st.T st.L x:=fun x hx=>qP (Q7 hx hu)
 cases hop:i.op<;>simp only [hop,y6.T6] at hρ<;>simp only [E9]<;>try rfl
 case alloc zero=>simp only [eX,jx,put_comm h,F1]
 case box x =>
  rw [hρ x (by simp)];split
  ·simp only [eX,jx,put_comm h,F1]
  ·rfl
 case makeMap=>simp only [eX,jx,put_comm h,F1]
 case A1 sz len zero parts ob =>
  cases ob
  ·rfl
  ·have e:(parts.map fun x=>(x.1,x.2.1,F8 (put st q v).T (put st q v).L x.2.2))=(parts.map fun x=>(x.1,x.2.1,F8 st.T st.L x.2.2)):=ij hρ
   simp only [e];cases bH zero (parts.map fun x=>(x.1,x.2.1,F8 st.T st.L x.2.2)) with
   |none=>rfl
   |some cs =>
    simp only;split
    ·simp only [eX,jx,put_comm h,F1]
    ·rfl
 case store n a x =>
  rw [hρ a (by simp)];exact CC h (Q7 (by simp [hop,y6.T6]) hu)
 case append sz bytes ob x y =>
  rw [hρ x (by simp),hρ y (by simp)];split
  ·rename_i hx
   rw [hop] at hk;simp [E7,hx] at hk
  ·exact yO h (Q7 (by simp [hop,y6.T6]) hu) (yY hop hu)
 case clear sz zero x =>
  rw [hρ x (by simp)];exact Bp h
 case call f xs =>
  rw [T5 hρ];exact tD h
 case au x xs =>
  rw [hρ x (by simp),T5 (l:=xs) fun y hy=>hρ y (by simp [hy])];split
  ·exact tD h
  ·rfl
 case dn kk m key x =>
  rw [hρ m (by simp),hρ key (by simp),hρ x (by simp)];exact yX h
 case defer x =>
  rw [hρ x (by simp)];split
  ·split
   ·simp only [put_comm h,F1]
   ·rfl
  ·rfl
theorem xV (h:q≠k){dst:Option Nat}:u7 u9 (put st q v) k dst=(u7 u9 st k dst).map fun s=>put s q v:=by
 have hx:q ∉ (u5.loc k).dP:=by simp [u5.dP];exact h
 have e1:(put st q v).T=st.T:=rfl;have e2:(put st q v).n7=st.n7:=rfl;cases u9<;>cases dst<;>simp only [u7,G4,X6,yj hx,e1,e2]<;>first|rfl|(split<;>rfl)
theorem wanted_put {g:Option (Nat×Bool)}(h:∀ j b,g=some (j,b)->j≠q):y5 (put st q v).L g=y5 st.L g:=by
 cases g with
 |none=>rfl
 |some p =>
  obtain ⟨j,b⟩:=p;simp only [y5,put];rw [cr (fun e=>h j b rfl e.symm)]
theorem tg {i:n9}(h:q≠k)(hu:q ∉ fI j4 i)(hk:E7 st i.op=false):y9 E j4 u9 k i (put st q v)=(y9 E j4 u9 k i st).map fun p=>(put p.1 q v,p.2):=by
 have hρ:∀ x,x ∈ i.op.T6->F8 (put st q v).T (put st q v).L x=F8 st.T st.L x:=fun x hx=>qP (Q7 hx hu)
 have hW:D7 E j4 u9 k i.op (put st q v)=(D7 E j4 u9 k i.op st).map fun p=>(put p.1 q v,p.2):=by
  unfold D7;split
  ·rw [KT h hu hk]
   cases E9 E j4 u9 k st i.op<;>rfl
  ·cases hop:i.op with
   |N8 x =>
    simp only [yj (Q7 (x:=x) (by simp [hop,y6.T6]) hu),put_comm h,F1]
   |_ =>
    simp only;rw [<- hop,qM hρ];have e:(put st q v).H=st.H:=rfl;rw [e];cases hp:m7 (F8 st.T st.L) st.H i.op with
    |none=>rfl
    |some p=>simp only [put_comm h,F1]
 unfold y9;rw [wanted_put (fun j b hg=>bU hg hu),hW];split
 ·cases hp:D7 E j4 u9 k i.op st with
  |none=>rfl
  |some p =>
   obtain ⟨s1,rs⟩:=p;simp only [F1];rw [xV h];cases u7 u9 s1 k i.dst<;>rfl
 ·rw [put_comm h,xV h]
  cases u7 u9 (put st k (.tuple [])) k i.dst<;>rfl
 ·rfl
def W4 (st:F0)(i:Nat)(o:z6):F0:={ st with H:=st.H.set i o }
theorem mN {H:o6}{n i:Nat}{o:z6}(h:n<=i):(H.set i o).take n=H.take n:=List.take_set_of_le h
theorem zT (H:o6)(s:Nat):∀ (j m:Nat),m<=H9 H s j m
 |0,m=>by simp [H9]
 |j+1,m=>by
  unfold H9;split
  ·omega
  ·simp only
   split
   ·omega
   ·exact Nat.le_trans (Nat.le_max_left _ _) (zT H s j _)
theorem gl (H:o6)(s i:Nat)(o:z6):∀ (j n:Nat),H9 H s j n<=i->H9 (H.set i o) s j n=H9 H s j n
 |0,n,_=>rfl
 |j+1,n,h=>by
  have hn:n<=i:=Nat.le_trans (zT H s (j+1) n) h;unfold H9 at h ⊢;split
  ·rfl
  ·rename_i aY
   rw [if_neg aY] at h;simp only [mN hn] at h ⊢;split
   ·rfl
   ·rename_i hm
    rw [if_neg hm] at h;exact gl H s i o j _ h
theorem tF (H:o6)(s i:Nat)(o:z6)(j n:Nat)(h:H9 (H.set i o) s j n<=i):H9 H s j n=H9 (H.set i o) s j n:=by
 rcases p9 i H.length with hi|hi
 ·have:=gl (H.set i o) s i H[i] j n h
  rw [List.set_set,List.set_getElem_self] at this;exact this
 ·rw [List.set_eq_of_length_le hi]
theorem CD {H:o6}{s n i:Nat}{o:z6}(h:n<=i):C5 (H.set i o) s n=C5 H s n:=by
 unfold C5;rw [mN h]
theorem Dm {H:o6}{n i:Nat}{o:z6}(h:n<=i):(H.set i o).drop n=(H.drop n).set (i - n) o:=by
 apply List.ext_getElem?;intro j;rw [List.getElem?_drop,List.getElem?_set,List.getElem?_set,List.getElem?_drop]
 by_cases e:i=n+j
 ·subst e
  simp
  by_cases hl:n+j<H.length
  ·simp [hl,show j<H.length - n from by omega]
  ·simp [hl,show ¬ j<H.length - n from by omega]
 ·rw [if_neg e,if_neg (by omega)]
theorem vu {A H:o6}{n i:Nat}{o:z6}(ha:A.length=n)(h:n<=i):A++(H.set i o).drop n=(A++H.drop n).set i o:=by
 rw [Dm h,List.set_append,if_neg (by omega),ha]
theorem qe {f:FuncId}{args:List b6}{i:Nat}{o:z6}(hi:i<st.H.length)(hs:(if E.prom f then st.H.length else H9 st.H E.lim.strict 8 (A9 args))<=i) :
  B9 E k f args (W4 st i o)=(B9 E k f args st).map fun s=>W4 s i o:=by
 have e1:(W4 st i o).H=st.H.set i o:=rfl;have e2:(W4 st i o).n7=st.n7:=rfl;unfold B9;simp only [e1,e2]
 by_cases hp:E.prom f=true
 ·rw [if_pos hp] at hs;omega
 ·rw [if_neg hp] at hs
  rw [if_neg hp,if_neg hp,gl _ _ _ _ _ _ hs];generalize H9 st.H E.lim.strict 8 (A9 args)=n at hs;generalize (args.headD .any).N7=mm;simp only [mN hs,CD hs,List.length_set];split
  ·rename_i aK
   split
   ·split
    ·split
     ·rename_i hl
      simp only [F1,put,W4];rw [vu hl hs]
     ·rfl
    ·rfl
   ·split
    ·split
     ·rfl
     ·rfl
    ·rfl
   ·split
    ·rename_i v H1 _
     split
     ·rename_i hl
      simp only [F1,put,W4];rw [vu (by simp;omega) (Nat.le_trans hl.2 hs)]
     ·rfl
    ·rfl
  ·rfl
theorem tZ {dst:Option Nat}{i:Nat}{o:z6}:u7 u9 (W4 st i o) k dst=(u7 u9 st k dst).map fun s=>W4 s i o:=by
 have hx:D8 (W4 st i o) (.loc k)=((D8 st (.loc k)).1,W4 (D8 st (.loc k)).2 i o):=by
  simp only [D8,W4];cases st.L[k]? with
  |none=>rfl
  |some a=>cases a<;>rfl
 have e1:(W4 st i o).T=st.T:=rfl;have e2:(W4 st i o).n7=st.n7:=rfl;cases u9<;>cases dst<;>simp only [u7,G4,X6,hx,e1,e2]<;>first|rfl|(split<;>rfl)
def Bq (i:n9):Bool:=match i.op with
 | .call .. =>true
 | .au .. =>true
 |_=>false
theorem HL {i:n9}{m:Nat}{o:z6}(hc:Bq i=true)(hi:m<st.H.length)(hs:L5 E st i.op<=m):y9 E j4 u9 k i (W4 st m o)=(y9 E j4 u9 k i st).map fun p=>(W4 p.1 m o,p.2):=by
 have hW:D7 E j4 u9 k i.op (W4 st m o)=(D7 E j4 u9 k i.op st).map fun p=>(W4 p.1 m o,p.2):=by
  unfold Bq at hc;unfold D7;have e:∀ x,F8 (W4 st m o).T (W4 st m o).L x=F8 st.T st.L x:=fun _=>rfl
  split at hc
  ·rename_i f xs hop
   rw [hop] at hs ⊢;simp only [y6.E2,if_true,E9];have:B9 E k f (xs.map (F8 (W4 st m o).T (W4 st m o).L)) (W4 st m o)=(B9 E k f (xs.map (F8 st.T st.L)) st).map fun s=>W4 s m o:=qe hi hs
   rw [this];cases B9 E k f (xs.map (F8 st.T st.L)) st<;>rfl
  ·rename_i x xs hop
   rw [hop] at hs ⊢;simp only [y6.E2,if_true,E9];rw [e x];simp only [L5] at hs;cases hx:F8 st.T st.L x with
   |func f first caps =>
    rw [hx] at hs;simp only at hs ⊢;have:B9 E k f (first++xs.map (F8 (W4 st m o).T (W4 st m o).L)++caps) (W4 st m o)=(B9 E k f (first++xs.map (F8 st.T st.L)++caps) st).map fun s=>W4 s m o:=qe hi hs
    rw [this];cases B9 E k f (first++xs.map (F8 st.T st.L)++caps) st<;>rfl
   |_=>rfl
  ·cases hc
 unfold y9;have e3:y5 (W4 st m o).L i.guard=y5 st.L i.guard:=rfl;rw [e3,hW];split
 ·cases hp:D7 E j4 u9 k i.op st with
  |none=>rfl
  |some p =>
   obtain ⟨s1,rs⟩:=p;simp only [F1];rw [tZ];cases u7 u9 s1 k i.dst<;>rfl
 ·have e4:put (W4 st m o) k (.tuple [])=W4 (put st k (.tuple [])) m o:=rfl
  rw [e4,tZ];cases u7 u9 (put st k (.tuple [])) k i.dst<;>rfl
 ·rfl
theorem LN {i:n9}{m:Nat}{o:z6}(hs:L5 E (W4 st m o) i.op<=m):L5 E st i.op=L5 E (W4 st m o) i.op:=by
 have e:∀ x,F8 (W4 st m o).T (W4 st m o).L x=F8 st.T st.L x:=fun _=>rfl
 have e1:(W4 st m o).H=st.H.set m o:=rfl;cases hop:i.op<;>rw [hop] at hs<;>simp only [L5] at hs ⊢
 case call f xs =>
  simp only [e1,List.length_set] at hs ⊢
  by_cases hp:E.prom f=true
  ·rw [if_pos hp,if_pos hp]
  ·rw [if_neg hp] at hs ⊢
   rw [if_neg hp];exact tF _ _ _ _ _ _ hs
 case au x xs =>
  simp only [e x,e1,List.length_set] at hs ⊢;split at hs
  ·rename_i f first caps hx
   by_cases hp:E.prom f=true
   ·simp only [hp,if_true]
   ·rw [if_neg hp] at hs ⊢
    rw [if_neg hp];exact tF _ _ _ _ _ _ hs
  ·rfl
def bg (s:F0)(dst:Option Nat)(u:b6):F0:=match dst with
 |none=>s
 |some t=>{ s with T:=s.T.set t u }
theorem Hz (s:F0)(dst:Option Nat)(u:b6):(bg s dst u).L=s.L:=by cases dst<;>rfl
theorem Ww (s:F0)(dst:Option Nat)(u:b6):(bg s dst u).H=s.H:=by cases dst<;>rfl
theorem Oz (s:F0)(dst:Option Nat)(u:b6):(bg s dst u).n7=s.n7:=by cases dst<;>rfl
theorem Ag (s:F0)(dst:Option Nat)(u:b6):(bg s dst u).T.length=s.T.length:=by cases dst<;>simp [bg]
theorem xh {s:F0}{dst:Option Nat}{u:b6}{x:u5}(h:∀ t,dst=some t->t ∉ x.slots):F8 (bg s dst u).T (bg s dst u).L x=F8 s.T s.L x:=by
 cases dst with
 |none=>rfl
 |some t =>
  cases x with
  |loc j=>rfl
  |const c=>rfl
  |slot s' =>
   simp only [F8,bg];rw [H6 _ _ _ _ _ (fun e=>h t rfl (by simp [u5.slots,e]))]
theorem qf {f:FuncId}{args:List b6}{dst:Option Nat}{u:b6}:B9 E k f args (bg st dst u)=(B9 E k f args st).map fun s=>bg s dst u:=by
 cases dst with
 |none=>simp only [bg];cases B9 E k f args st<;>rfl
 |some t =>
  unfold B9;have e1:(bg st (some t) u).H=st.H:=rfl;have e2:(bg st (some t) u).n7=st.n7:=rfl;simp only [e1,e2];split
  ·split
   ·split<;>rfl
   ·rfl
  ·split
   ·split
    ·split
     ·split<;>rfl
     ·rfl
    ·split
     ·split<;>rfl
     ·rfl
    ·split
     ·split<;>rfl
     ·rfl
   ·rfl
theorem ua {dst dst' :Option Nat}{u:b6}(h:∀ s,dst=some s->dst' ≠some s):u7 u9 (bg st dst' u) k dst=(u7 u9 st k dst).map fun s=>bg s dst' u:=by
 cases dst' with
 |none=>simp only [bg];cases u7 u9 st k dst<;>rfl
 |some t =>
  have hx:D8 (bg st (some t) u) (.loc k)=((D8 st (.loc k)).1,bg (D8 st (.loc k)).2 (some t) u):=by
   simp only [D8,bg];cases st.L[k]? with
   |none=>rfl
   |some a=>cases a<;>rfl
  have e2:(bg st (some t) u).n7=st.n7:=rfl;have e3:(bg st (some t) u).T.length=st.T.length:=Ag _ _ _;cases dst with
  |none=>cases u9<;>rfl
  |some s =>
   have hne:t≠s:=fun e=>h s rfl (by rw [e])
   have e4:∀ x,(bg st (some t) u).T.set s x=(st.T.set s x).set t u:=fun x=>List.set_comm _ _ hne
   cases u9<;>simp only [u7,G4,X6,hx,e2,e3,e4]<;>split<;>rfl
theorem HM {i:n9}{dst:Option Nat}{u:b6}(hc:Bq i=true)(hu:∀ t,dst=some t->t ∉ iE i)(hd:∀ s,i.dst=some s->dst≠some s) :
  y9 E j4 u9 k i (bg st dst u)=(y9 E j4 u9 k i st).map fun p=>(bg p.1 dst u,p.2):=by
 have hρ:∀ x,x ∈ i.op.T6->F8 (bg st dst u).T (bg st dst u).L x=F8 st.T st.L x:=by
  intro x hx;refine xh fun t ht hs=>hu t ht ?_
  unfold iE;exact List.mem_flatMap.2 ⟨x,hx,hs⟩
 have hW:D7 E j4 u9 k i.op (bg st dst u)=(D7 E j4 u9 k i.op st).map fun p=>(bg p.1 dst u,p.2):=by
  unfold Bq at hc;unfold D7;split at hc
  ·rename_i f xs hop
   rw [hop] at hρ ⊢;simp only [y6.E2,if_true,E9];rw [T5 (l:=xs) fun y hy=>hρ y (by simp [y6.T6,hy]),qf];cases B9 E k f (xs.map (F8 st.T st.L)) st<;>rfl
  ·rename_i x xs hop
   rw [hop] at hρ ⊢;simp only [y6.E2,if_true,E9];rw [hρ x (by simp [y6.T6]),T5 (l:=xs) fun y hy=>hρ y (by simp [y6.T6,hy])];cases hx:F8 st.T st.L x with
   |func f first caps =>
    simp only;rw [qf];cases B9 E k f (first++xs.map (F8 st.T st.L)++caps) st<;>rfl
   |_=>rfl
  ·cases hc
 unfold y9;rw [Hz,hW];split
 ·cases hp:D7 E j4 u9 k i.op st with
  |none=>rfl
  |some p =>
   obtain ⟨s1,rs⟩:=p;simp only [F1];rw [ua hd];cases u7 u9 s1 k i.dst<;>rfl
 ·have e4:put (bg st dst u) k (.tuple [])=bg (put st k (.tuple [])) dst u:=by cases dst<;>rfl
  rw [e4,ua hd];cases u7 u9 (put st k (.tuple [])) k i.dst<;>rfl
 ·rfl
end
def Br (i:n9):Bool:= !i.op.E2&&i.dst.isNone&&(match i.op with
 | .N8 (.loc _)=>false
 |_=>true)
def ux (i:n9):Bool:=match i.op with
 | .alloc _=>true
 | .box _=>true
 | .makeMap=>true
 | .A1 _ _ _ _ b=>b
 |_=>false
section
variable {E:Env} {j4:List n9} {u9:Option Nat} {k q:Nat} {st Q3 aj st' :F0}
theorem jg {i:n9}(h:Br i=true)(st:F0):E7 st i.op=false:=by
 simp only [Br,b5,j5] at h;cases hop:i.op<;>rw [hop] at h<;>simp_all [y6.E2,E7]
theorem ny {i:n9}(h:Br i=true)(st:F0):L5 E st i.op=0:=by
 simp only [Br,b5,j5] at h;cases hop:i.op<;>rw [hop] at h<;>simp_all [y6.E2,L5]
theorem cE {i:n9}(h:ux i=true)(st:F0):E7 st i.op=false:=by
 unfold ux at h;cases hop:i.op<;>rw [hop] at h<;>simp_all [E7]
theorem cF {i:n9}(h:ux i=true)(st:F0):L5 E st i.op=0:=by
 unfold ux at h;cases hop:i.op<;>rw [hop] at h<;>simp_all [L5]
theorem ek {i:n9}(h:ux i=true):i.op.A0=true:=by
 unfold ux at h;cases hop:i.op<;>rw [hop] at h<;>simp_all [y6.A0]
theorem fU {i:n9}(h:Bq i=true)(st:F0):E7 st i.op=false:=by
 unfold Bq at h;cases hop:i.op<;>rw [hop] at h<;>simp_all [E7]
theorem fc {s:F0}{dst:Option Nat}(h:dst.isNone=true):u7 u9 s k dst=some s:=by
 cases dst with
 |none=>cases u9<;>rfl
 |some _=>simp at h
theorem Gq {i:n9}(hP:Br i=true){rs:List Nat}(h:y9 E j4 u9 k i st=some (st',rs)) :
  ∃ v,st' =put st k v/\∀ s2:F0,(∀ x,x ∈ i.op.T6->F8 s2.T s2.L x=F8 st.T st.L x)->y5 s2.L i.guard=y5 st.L i.guard->(∀ id,id ∈ rs->O5 s2.H[id]? st.H[id]?) ->
   y9 E j4 u9 k i s2=some (put s2 k v,rs):=by
 simp only [Br,b5,j5] at hP;obtain ⟨⟨h1,h2⟩,h3⟩:=hP;unfold y9 at h;split at h
 ·rename_i hw
  split at h
  ·rename_i s1 rs1 hW
   rw [fc h2] at h;cases h;unfold D7 at hW;rw [h1] at hW;simp only [b7,if_false] at hW;have other:∀ {v:b6},(∀ x,i.op≠ .N8 x)->m7 (F8 st.T st.L) st.H i.op=some (v,rs)->st' =put st k v->∃ v,st' =put st k v/\∀ s2:F0,(∀ x,x ∈ i.op.T6->F8 s2.T s2.L x=F8 st.T st.L x)->y5 s2.L i.guard=y5 st.L i.guard->(∀ id,id ∈ rs->O5 s2.H[id]? st.H[id]?) ->
     y9 E j4 u9 k i s2=some (put s2 k v,rs):=by
    intro v hm hp e;refine ⟨v,e,fun s2 hρ Rf hr=> ?_⟩;unfold y9;rw [Rf,hw];simp only;have:D7 E j4 u9 k i.op s2=some (put s2 k v,rs):=by
     unfold D7;rw [h1];simp only [b7,if_false];have hp2:m7 (F8 s2.T s2.L) s2.H i.op=some (v,rs):=Eg (by rw [qM hρ];exact hp) hr;obtain ⟨op,hop⟩:∃ op,i.op=op:=⟨_,rfl⟩;rw [hop] at hp2 ⊢;cases op with
     |N8 x=>exact absurd hop (hm x)
     |_=>simp only [hp2]
    rw [this];simp only [fc h2]
   split at hW
   ·rename_i x hop
    cases hW;refine ⟨(D8 st x).1,?_,fun s2 hρ Rf hr=> ?_⟩
    ·cases x with
     |loc j=>rw [hop] at h3;simp at h3
     |slot s=>rfl
     |const c=>rfl
    ·unfold y9
     rw [Rf,hw];simp only [hop];have e1:D8 s2 x=((D8 st x).1,s2):=by
      cases x with
      |loc j=>rw [hop] at h3;simp at h3
      |slot s =>
       have:=hρ (.slot s) (by simp [hop,y6.T6]);simp only [D8,this]
      |const c=>rfl
     simp only [D7,y6.E2,b7,if_false,e1,fc h2]
   ·rename_i hne
    split at hW
    ·rename_i v rs2 hp
     cases hW;exact other hne hp rfl
    ·cases hW
  ·cases h
 ·rename_i hw
  rw [fc h2] at h;cases h;refine ⟨.tuple [],rfl,fun s2 hρ Rf hr=> ?_⟩;unfold y9;rw [Rf,hw];simp only [fc h2]
 ·cases h
def mI (s:F0)(n:Nat):Option z6->F0
 |some o=>W4 s n o
 |none=>s
inductive NF (k n:Nat) (dst:Option Nat):(F0->F0)->Prop where
 |mk (o:Option z6) (v u:b6):NF k n dst (fun s=>bg (put (mI s n o) k v) dst u)
structure Alike (i:n9)(st s2:F0):Prop where
 T:s2.T.length=st.T.length
 L:s2.L.length=st.L.length
 n7:∀ s,i.dst=some s->s2.n7.any (Touch.R1 s)=true
theorem ET {s:F0}{v:b6}{dst:Option Nat}(hv:∀ z n c,v≠ .own z n c){s' :F0}(h:X6 (put s k v) k dst=some s') :
  ∃ u,s' =bg (put s k v) dst u/\∀ s2:F0,s2.T.length=s.T.length->s2.L.length=s.L.length->(∀ t,dst=some t->s2.n7.any (Touch.R1 t)=true)->X6 (put s2 k v) k dst=some (bg (put s2 k v) dst u):=by
 cases dst with
 |none=>cases h;exact ⟨.any,rfl,fun s2 _ _ _=>rfl⟩
 |some t =>
  have hx:∀ s:F0,D8 (put s k v) (.loc k)=((if k<s.L.length then v.G9 else .any),put s k v):=by
   intro s;simp only [D8,put]
   by_cases hk:k<s.L.length
   ·rw [E0 hk]
    cases v<;>simp [F8,List.getD,hk,b6.G9]<;>first|rfl|exact absurd rfl (hv _ _ _)
   ·rw [q9 (by simpa using hk)]
    simp [F8,List.getD,hk,b6.G9]
  simp only [X6,hx] at h;split at h
  ·rename_i hc
   simp only [b5,decide_eq_true_eq] at hc;cases h;refine ⟨_,rfl,fun s2 h1 h2 h3=> ?_⟩;simp only [X6,hx];have:(decide (t<(put s2 k v).T.length)&&(put s2 k v).n7.any (Touch.R1 t))=true:=by
    simp only [b5,decide_eq_true_eq];refine ⟨?_,h3 t rfl⟩;have:=hc.1;simp only [put] at this ⊢;omega
   rw [if_pos this,h2];rfl
  ·cases h
theorem Ck (s:F0)(n:Nat)(o:Option z6):(mI s n o).T=s.T:=by cases o<;>rfl
theorem xw (s:F0)(n:Nat)(o:Option z6):(mI s n o).L=s.L:=by cases o<;>rfl
theorem Ey (s:F0)(n:Nat)(o:Option z6):(mI s n o).n7=s.n7:=by cases o<;>rfl
theorem Bi {i:n9}{n:Nat}(hN:ux i=true){rs:List Nat}(h:y9 E j4 (some n) k i st=some (st',rs)) :
  rs=[]/\∃ f,NF k n i.dst f/\st' =f st/\∀ s2:F0,(∀ x,x ∈ i.op.T6->F8 s2.T s2.L x=F8 st.T st.L x)->y5 s2.L i.guard=y5 st.L i.guard->Alike i st s2->y9 E j4 (some n) k i s2=some (f s2,[]):=by
 unfold ux at hN;have h3:=hN;have YH:i.op.E2=true:=by
  cases hop:i.op<;>rw [hop] at h3<;>simp_all [y6.E2]
 have slot:∀ (o:Option z6) (v:b6),(∀ z n c,v≠ .own z n c)->(∀ s2:F0,(∀ x,x ∈ i.op.T6->F8 s2.T s2.L x=F8 st.T st.L x)->y5 s2.L i.guard=y5 st.L i.guard->y9 E j4 (some n) k i s2=(X6 (put (mI s2 n o) k v) k i.dst).map fun s=>(s,[])) ->
   rs=[]/\∃ f,NF k n i.dst f/\st' =f st/\∀ s2:F0,(∀ x,x ∈ i.op.T6->F8 s2.T s2.L x=F8 st.T st.L x)->y5 s2.L i.guard=y5 st.L i.guard->Alike i st s2->y9 E j4 (some n) k i s2=some (f s2,[]):=by
  intro o v hv hs;rw [hs st (fun _ _=>rfl) rfl] at h;cases ht:X6 (put (mI st n o) k v) k i.dst with
  |none=>rw [ht] at h;cases h
  |some s' =>
   rw [ht] at h;simp only [F1,Option.some.injEq,Prod.mk.injEq] at h;obtain ⟨rfl,rfl⟩:=h;obtain ⟨u,h4,h5⟩:=ET hv ht;refine ⟨rfl,_,NF.mk o v u,h4,fun s2 hρ hw ha=> ?_⟩;rw [hs s2 hρ hw,h5 (mI s2 n o) (by rw [Ck,Ck];exact ha.T) (by rw [xw,xw];exact ha.L) (fun t ht=>by rw [Ey];exact ha.n7 t ht)];rfl
 obtain ⟨wd,hw⟩:∃ wd,y5 st.L i.guard=wd:=⟨_,rfl⟩;cases wd with
 |none=>unfold y9 at h;rw [hw] at h;cases h
 |some b =>
  cases b with
  |false =>
   refine slot none (.tuple []) (by simp) fun s2 hρ Rf=> ?_
   unfold y9;rw [Rf,hw];simp only [u7,mI];cases X6 (put s2 k (.tuple [])) k i.dst<;>rfl
  |true =>
   have key:∀ (o:z6) (v:b6),(∀ z n c,v≠ .own z n c)->(∀ s2:F0,(∀ x,x ∈ i.op.T6->F8 s2.T s2.L x=F8 st.T st.L x)->E9 E j4 (some n) k s2 i.op=some (put (W4 s2 n o) k v)) ->
     rs=[]/\∃ f,NF k n i.dst f/\st' =f st/\∀ s2:F0,(∀ x,x ∈ i.op.T6->F8 s2.T s2.L x=F8 st.T st.L x)->y5 s2.L i.guard=y5 st.L i.guard->Alike i st s2->y9 E j4 (some n) k i s2=some (f s2,[]):=by
    intro o v hv h5;refine slot (some o) v hv fun s2 hρ Rf=> ?_
    unfold y9;rw [Rf,hw];simp only;have:D7 E j4 (some n) k i.op s2=some (put (W4 s2 n o) k v,[]):=by
     unfold D7;rw [YH];simp only [if_true,h5 s2 hρ]
    rw [this];simp only [u7,mI];cases X6 (put (W4 s2 n o) k v) k i.dst<;>rfl
   obtain ⟨op,hop⟩:∃ op,i.op=op:=⟨_,rfl⟩;have he:∃ s1,E9 E j4 (some n) k st i.op=some s1:=by
    unfold y9 at h;rw [hw] at h;simp only at h;split at h
    ·rename_i s1 rs1 hW
     unfold D7 at hW;rw [YH] at hW;simp only [if_true] at hW;split at hW
     ·rename_i s3 he;exact ⟨s3,he⟩
     ·cases hW
    ·cases h
   obtain ⟨s1,he⟩:=he;cases op<;>rw [hop] at h3<;>simp at h3<;>(try (cases h3;done))<;>rw [hop] at he<;>simp only [E9] at he
   ·rename_i zero
    refine key (.cells zero) (.ptr n 0) (by simp) (fun s2 _=> ?_);rw [hop];rfl
   ·rename_i x
    split at he
    ·rename_i l hl
     refine key (.cells l) (.ptr n 0) (by simp) (fun s2 hρ=> ?_);rw [hop];simp only [E9];rw [hρ x (by simp [hop,y6.T6]),hl];rfl
    ·cases he
   ·rename_i sz len zero parts ob
    subst h3;simp only at he;split at he
    ·rename_i cs hcs
     split at he
     ·rename_i hl
      refine key (.cells cs) (.E3 n sz 0 len) (by simp) (fun s2 hρ=> ?_);rw [hop];simp only [E9];have e:(parts.map fun x=>(x.1,x.2.1,F8 s2.T s2.L x.2.2))=(parts.map fun x=>(x.1,x.2.1,F8 st.T st.L x.2.2)):=ij (fun x hx=>hρ x (by simp only [hop,y6.T6];exact hx));have oU :bH zero (parts.map fun x=>(x.1,x.2.1,F8 st.T st.L x.2.2))=some cs:=hcs;simp only [e,oU,if_pos hl];rfl
     ·cases he
    ·cases he
   ·refine key (.map []) (.map n) (by simp) (fun s2 _=> ?_)
    rw [hop];rfl
end
def BU (j4:List n9)(j:Nat)(a:n9)(i:Nat)(b:n9):Bool :=
 !(fI j4 b).contains j&& !(fI j4 a).contains i &&
 (match b.dst with|some s=> !(iE a).contains s&&a.dst != some s|none=>true)&&(match a.dst with|some s=> !(iE b).contains s|none=>true) &&
 ((Br a&&(Br b||a.cO.contains i))||(Br b&&b.cO.contains j)||(ux a&&ux b)||(ux a&&Bq b&&a.cO.contains i)||(Bq a&&ux b&&b.cO.contains j))
def Qf (E:Env)(j4:List n9)(Y4:Nat->Option Nat)(lg:Nat->ja)(k:Nat)(st st' :F0):Prop :=
 ∃ i,j4[k]? =some i/\iA E j4 (Y4 k) k i st=some (st',lg k)
structure KO (j4:List n9)(Y4:Nat->Option Nat):Prop where
 alloc:∀ (k:Nat) i,j4[k]? =some i->(Y4 k).isSome=i.op.A0
 inj:∀ j k n,Y4 j=some n->Y4 k=some n->j=k
def Ia (j4:List n9)(lg:Nat->ja):Prop :=
 ∀ (k:Nat) i e,j4[k]? =some i->e ∈ i.cO->J8 (lg e).DB (lg k).reads=false/\(i.op.A0=true->(lg e).Cj<=(lg k).id)
section
variable {E:Env} {j4:List n9} {u9:Option Nat} {k q:Nat} {v:b6} {st Q3 aj st' :F0}
theorem ga {i:n9}{l:ja}:iA E j4 u9 k i st=some (st',l)↔(E7 st i.op&&j4.any fun a=>a.cO.contains k)=false/\∃ rs,y9 E j4 u9 k i st=some (st',rs)/\l=cJ E i u9 st st' rs:=by
 unfold iA;constructor
 ·intro h
  split at h
  ·cases h
  ·rename_i hk
   refine ⟨by simpa using hk,?_⟩;split at h
   ·rename_i s rs hs
    cases h;exact ⟨rs,hs,rfl⟩
   ·cases h
 ·rintro ⟨hk,rs,hs,rfl⟩
  rw [if_neg (by rw [hk];simp),hs]
theorem bP {i:n9}{l:ja}(h:E7 st i.op=false/\∃ rs,y9 E j4 u9 k i st=some (st',rs)/\l=cJ E i u9 st st' rs):iA E j4 u9 k i st=some (st',l) :=
 ga.2 ⟨by rw [h.1];rfl,h.2⟩
theorem II {j:Nat}{i b:n9}{q:Nat}(h:(E7 st i.op&&j4.any fun a=>a.cO.contains j)=false)(hb:j4[q]? =some b)(hu:j ∈ b.cO):E7 st i.op=false:=by
 have:(j4.any fun a=>a.cO.contains j)=true:=List.any_eq_true.2 ⟨b,List.mem_of_getElem? hb,by simpa using hu⟩;rw [this,Bool.and_true] at h;exact h
theorem oo {s2:F0}{op:y6}(h:∀ x,x ∈ op.T6->F8 s2.T s2.L x=F8 st.T st.L x):E7 s2 op=E7 st op:=by
 cases op<;>simp only [E7];rename_i x y;rw [h x (by simp [y6.T6])]
theorem pE {s2:F0}{op:y6}(h:∀ x,x ∈ op.T6->F8 s2.T s2.L x=F8 st.T st.L x)(hH:s2.H=st.H):L5 E s2 op=L5 E st op:=by
 cases op<;>simp only [L5,y6.T6] at h ⊢
 case call f xs=>rw [hH,T5 h]
 case au x xs=>rw [hH,h x (by simp),T5 (l:=xs) fun y hy=>h y (by simp [hy])]
theorem iq {i:n9}(hu:q ∉ fI j4 i):∀ x,x ∈ i.op.T6->F8 (put st q v).T (put st q v).L x=F8 st.T st.L x :=
 fun _ hx=>qP (Q7 hx hu)
theorem NF.F8 {n:Nat}{dst:Option Nat}{f:F0->F0}(hf:NF k n dst f){x:u5}(h:k ∉ x.dP)(ht:∀ t,dst=some t->t ∉ x.slots)(s:F0):F8 (f s).T (f s).L x=F8 s.T s.L x:=by
 cases hf with
 |mk o v u =>
  simp only;rw [xh ht,qP h,Ck,xw]
theorem NF.wanted {n:Nat}{dst:Option Nat}{f:F0->F0}(hf:NF k n dst f){g:Option (Nat×Bool)}(h:∀ j b,g=some (j,b)->j≠k)(s:F0):y5 (f s).L g=y5 s.L g:=by
 cases hf with
 |mk o v u =>
  simp only;rw [Hz,wanted_put h,xw]
theorem NF.n7 {n:Nat}{dst:Option Nat}{f:F0->F0}(hf:NF k n dst f)(s:F0):(f s).n7=s.n7:=by
 cases hf with
 |mk o v u =>
  simp only;rw [Oz];exact Ey _ _ _
theorem NF.U7 {n:Nat}{dst:Option Nat}{f:F0->F0}(hf:NF k n dst f)(s:F0):(f s).T.length=s.T.length:=by
 cases hf with
 |mk o v u =>
  simp only;rw [Ag];show (mI s n o).T.length=_
  rw [Ck]
theorem NF.gq {n:Nat}{dst:Option Nat}{f:F0->F0}(hf:NF k n dst f)(s:F0):(f s).L.length=s.L.length:=by
 cases hf with
 |mk o v u =>
  simp only;rw [Hz];simp [put,xw]
theorem NF.comm {n m j i:Nat}{d e:Option Nat}{f g:F0->F0}(hf:NF j n d f)(hg:NF i m e g)(hji:j≠i)(hnm:n≠m)(hde:∀ s,e=some s->d≠some s)(s:F0):f (g s)=g (f s):=by
 cases hf with
 |mk o v u =>
  cases hg with
  |mk o' v' u' =>
   have lZ:∀ (l:List z6) (a b:z6),(l.set m b).set n a=(l.set n a).set m b:=fun l a b=>List.set_comm _ _ (fun e=>hnm e.symm)
   have hL:∀ (l:List b6) (a b:b6),(l.set i b).set j a=(l.set j a).set i b:=fun l a b=>List.set_comm _ _ (fun e=>hji e.symm)
   cases o<;>cases o' <;>cases d<;>cases e<;>simp only [bg,mI,W4,put,hL,lZ]
   all_goals (
    rename_i t1 t2;have hT:∀ (l:List b6) (a b:b6),(l.set t2 b).set t1 a=(l.set t1 a).set t2 b:=fun l a b=>List.set_comm _ _ (fun e=>hde t2 rfl (by rw [e]))
    rw [hT])
theorem Hy {i:n9}{m:Nat}{o:z6}(hs:L5 E st i.op<=m):L5 E (W4 st m o) i.op=L5 E st i.op:=by
 have e:∀ x,F8 (W4 st m o).T (W4 st m o).L x=F8 st.T st.L x:=fun _=>rfl
 have e1:(W4 st m o).H=st.H.set m o:=rfl;have e2:∀ xs,List.map (F8 (W4 st m o).T (W4 st m o).L) xs=List.map (F8 st.T st.L) xs:=fun _=>rfl
 cases hop:i.op<;>rw [hop] at hs<;>simp only [L5] at hs ⊢
 case call f xs =>
  simp only [e1,e2,List.length_set]
  by_cases hp:E.prom f=true
  ·rw [if_pos hp,if_pos hp]
  ·rw [if_neg hp] at hs ⊢
   rw [if_neg hp];exact gl _ _ _ _ _ _ hs
 case au x xs =>
  simp only [e x,e1,e2,List.length_set];split at hs
  ·rename_i f first caps hx
   by_cases hp:E.prom f=true
   ·simp only [hp,if_true]
   ·rw [if_neg hp] at hs ⊢
    rw [if_neg hp];exact gl _ _ _ _ _ _ hs
  ·rfl
theorem NF.Cj {n j:Nat}{dst:Option Nat}{f:F0->F0}(hf:NF j n dst f){i:n9}(hu:j ∉ fI j4 i)(ht:∀ t,dst=some t->t ∉ iE i) :
  ∃ o:Option z6,L5 E (f st) i.op=L5 E (mI st n o) i.op:=by
 cases hf with
 |mk o v u =>
  refine ⟨o,?_⟩;refine pE (fun x hx=> ?_) ?_
  ·simp only
   rw [xh (fun t h1 h2=>ht t h1 ?_),qP (Q7 hx hu)];unfold iE;exact List.mem_flatMap.2 ⟨x,hx,h2⟩
  ·simp only [Ww]
   rfl
theorem Xn {i:n9}{n j:Nat}{dst:Option Nat}{f:F0->F0}(hf:NF j n dst f)(hC:Bq i=true)(hjk:j≠k)(hu:j ∉ fI j4 i)(ht:∀ t,dst=some t->t ∉ iE i)(hd:∀ s,i.dst=some s->dst≠some s)(hn:n<st.H.length)(hs:L5 E st i.op<=n) :
  y9 E j4 u9 k i (f st)=(y9 E j4 u9 k i st).map (fun p=>(f p.1,p.2))/\L5 E (f st) i.op=L5 E st i.op:=by
 refine ⟨?_,?_⟩
 ·cases hf with
  |mk o v u =>
   have h1:=HM (E:=E) (j4:=j4) (u9:=u9) (k:=k) (st:=put (mI st n o) j v) (u:=u) hC ht hd;have h2:=tg (E:=E) (u9:=u9) (v:=v) (st:=mI st n o) hjk hu (fU hC _);have h3:y9 E j4 u9 k i (mI st n o)=(y9 E j4 u9 k i st).map (fun p=>(mI p.1 n o,p.2)):=by
    cases o with
    |none=>simp only [mI];cases y9 E j4 u9 k i st<;>rfl
    |some o=>exact HL hC hn hs
   simp only;rw [h1,h2,h3];cases y9 E j4 u9 k i st<;>rfl
 ·obtain ⟨o,ho⟩:=hf.Cj (E:=E) (st:=st) hu ht
  rw [ho];cases o with
  |none=>rfl
  |some o=>exact Hy hs
theorem KJ {i:n9}{n j:Nat}{dst:Option Nat}{f:F0->F0}(hf:NF j n dst f)(hu:j ∉ fI j4 i)(ht:∀ t,dst=some t->t ∉ iE i)(hs:L5 E (f st) i.op<=n):L5 E st i.op=L5 E (f st) i.op:=by
 obtain ⟨o,ho⟩:=hf.Cj (E:=E) (st:=st) hu ht;rw [ho] at hs ⊢;cases o with
 |none=>rfl
 |some o=>exact LN hs
theorem qE {i:n9}{s s2 s' s2' :F0}{rs:List Nat}(h1:s2.n7=s.n7)(h2:s2'.n7=s'.n7)(h3:L5 E s2 i.op=L5 E s i.op):cJ E i u9 s2 s2' rs=cJ E i u9 s s' rs:=by
 simp only [cJ,h1,h2,h3]
theorem fX {i:n9}{s s2 s' s2' :F0}{rs:List Nat}(h1:s2'.n7.take (s2'.n7.length - s2.n7.length)=s'.n7.take (s'.n7.length - s.n7.length))(h3:L5 E s2 i.op=L5 E s i.op):cJ E i u9 s2 s2' rs=cJ E i u9 s s' rs:=by
 simp only [cJ,h1,h3]
theorem Still.Cf {i b:n9}{d:List Touch}{uG:Option Nat}{kb:Nat}(h:Still kb b.dst uG d st st')(hl:kb ∉ fI j4 i)(ht:∀ s,b.dst=some s->s ∉ iE i):∀ x,x ∈ i.op.T6->z7.F8 st'.T st'.L x=z7.F8 st.T st.L x:=by
 intro x hx;refine h.F8 (Q7 hx hl) fun s hs e=>ht s e ?_
 unfold iE;exact List.mem_flatMap.2 ⟨x,hx,hs⟩
theorem Still.nL {i b:n9}{d:List Touch}{uG:Option Nat}{kb:Nat}(h:Still kb b.dst uG d st st')(hl:kb ∉ fI j4 i):y5 st'.L i.guard=y5 st.L i.guard :=
 h.wanted fun _ _ hg=>bU hg hl
def gb (j4:List n9)(st:F0):Prop:=∀ (k:Nat) i s,j4[k]? =some i->i.op.A0=true->i.dst=some s->st.n7.any (Touch.R1 s)=true
theorem Still.marked {kb:Nat}{dst uG:Option Nat}{d:List Touch}(h:Still kb dst uG d st st')(hm:gb j4 st):gb j4 st' :=by
 intro k i s hi ha hd;rw [h.n7,List.any_append,hm k i s hi ha hd];simp
theorem tf {i:n9}{rs:List Nat}(hn:u9.isSome=i.op.A0)(h:y9 E j4 u9 k i st=some (st',rs)):st.H.length<=st'.H.length/\∃ d,st'.n7=d++st.n7:=by
 cases hk:E7 st i.op with
 |false =>
  obtain ⟨d,hd⟩:=Still.y9 hk hn h;exact ⟨hd.GW,d,hd.n7⟩
 |true =>
  have slot:∀ {s s2:F0} {dst:Option Nat},u7 u9 s k dst=some s2->s.H.length=s2.H.length/\∃ d,s2.n7=d++s.n7:=by
   intro s s2 dst h;have hx:(D8 s (.loc k)).2.H=s.H/\(D8 s (.loc k)).2.n7=s.n7:=by
    simp only [D8];split<;>exact ⟨rfl,rfl⟩
   cases dst with
   |none=>cases u9<;>simp only [u7,G4,X6,Option.some.injEq] at h<;>subst h<;>exact ⟨rfl,[],rfl⟩
   |some t =>
    cases u9<;>simp only [u7,G4,X6] at h
    ·split at h
     ·cases h;exact ⟨by simp only [hx.1],[_],rfl⟩
     ·cases h
    ·split at h
     ·cases h;exact ⟨by simp only [hx.1],[],by simp only [hx.2];rfl⟩
     ·cases h
  have aC8:∀ {v:b6} {s2:F0},u7 u9 (put st k v) k i.dst=some s2->st.H.length<=s2.H.length/\∃ d,s2.n7=d++st.n7:=by
   intro v s2 h;obtain ⟨h1,d,h2⟩:=slot h;exact ⟨Nat.le_of_eq h1,d,h2⟩
  simp only [y9] at h;split at h
  ·split at h
   ·rename_i s1 rs1 h1
    split at h
    ·rename_i s2 h2
     cases h;obtain ⟨e1,d,e2⟩:=slot h2;have hw:st.H.length=s1.H.length/\∃ d,s1.n7=d++st.n7:=by
      cases hop:i.op<;>rw [hop] at hk h1<;>simp only [E7,b7] at hk;rename_i sz bytes ob x y;simp only [D7,y6.E2,if_true] at h1;split at h1
      ·rename_i s3 h3
       cases h1;simp only [E9] at h3;split at hk
       ·rename_i id z lo len hr
        rw [hr] at h3;simp only at h3;split at h3
        ·simp only [W9] at h3
         split at h3
         ·split at h3
          ·split at h3
           ·cases h3
            refine ⟨by simp [put];omega,[_],rfl⟩
           ·cases h3
          ·cases h3
         ·cases h3
        ·cases h3
       ·cases hk
      ·cases h1
     obtain ⟨e3,d2,e4⟩:=hw;exact ⟨by omega,d++d2,by rw [e2,e4,List.append_assoc]⟩
    ·cases h
   ·cases h
  ·split at h
   ·rename_i s2 h2
    cases h;exact aC8 h2
   ·cases h
  ·cases h
theorem gb.ext (hm:gb j4 st)(h:∃ d,st'.n7=d++st.n7):gb j4 st' :=by
 obtain ⟨d,h⟩:=h;intro k i s hi ha hd;rw [h,List.any_append,hm k i s hi ha hd];simp
theorem swap {Y4:Nat->Option Nat}{lg:Nat->ja}(hn:KO j4 Y4)(QY:Ia j4 lg){j i:Nat}{a b:n9}(hp:BU j4 j a i b=true)(ha:j4[j]? =some a)(hb:j4[i]? =some b)(hji:j≠i)
  (hin:∀ k n,Y4 k=some n->n<st.H.length) (uD:gb j4 st) (h1:Qf E j4 Y4 lg j st Q3) (h2:Qf E j4 Y4 lg i Q3 aj):∃ ae0,Qf E j4 Y4 lg i st ae0 /\Qf E j4 Y4 lg j ae0 aj:=by
 obtain ⟨a',WW,h1⟩:=h1;rw [ha] at WW;cases WW;obtain ⟨b',hb',h2⟩:=h2;rw [hb] at hb';cases hb';obtain ⟨ka0,rsa,sa,la⟩:=ga.1 h1;obtain ⟨kb0,rsb,sb,lb⟩:=ga.1 h2;simp only [BU,b5,j5,List.contains_eq_mem,decide_eq_false_iff_not] at hp;obtain ⟨⟨⟨⟨u1,u2⟩,t1⟩,t2⟩,nM⟩:=hp;have t1' :∀ s,b.dst=some s->s ∉ iE a:=by
  intro s hs;rw [hs] at t1;simp at t1;exact t1.1
 have t3:∀ s,b.dst=some s->a.dst≠some s:=by
  intro s hs;rw [hs] at t1;simp at t1;exact t1.2
 have t4:∀ s,a.dst=some s->b.dst≠some s:=fun s hs h=>t3 s h hs
 have t2' :∀ s,a.dst=some s->s ∉ iE b:=by
  intro s hs;rw [hs] at t2;simpa using t2
 have Nw:=hn.alloc j a ha;have uG:=hn.alloc i b hb;simp only [Bool.or_eq_true,b5,decide_eq_true_eq] at nM;have ka:E7 st a.op=false:=by
  rcases nM with (((h|h)|h)|h)|h
  ·exact jg h.1 _
  ·exact II ka0 hb h.2
  ·exact cE h.1 _
  ·exact cE h.1.1 _
  ·exact fU h.1.1 _
 have kb:E7 Q3 b.op=false:=by
  rcases nM with (((h|h)|h)|h)|h
  ·rcases h.2 with h2|h2
   ·exact jg h2 _
   ·exact II kb0 ha h2
  ·exact jg h.1 _
  ·exact cE h.2 _
  ·exact fU h.1.2 _
  ·exact cE h.1.2 _
 obtain ⟨da,WA⟩:=Still.y9 ka Nw sa
 rcases nM with (((nM|nM)|nM)|nM)|nM
 ·
  obtain ⟨hPa,nM⟩:=nM;obtain ⟨v,rfl,Ta⟩:=Gq hPa sa;have kb' :E7 st b.op=false:=by rw [<- oo (iq u1)];exact kb
  have hs:=tg (E:=E) (u9:=Y4 i) (v:=v) hji u1 kb';rw [hs] at sb;cases Mk:y9 E j4 (Y4 i) i b st with
  |none=>rw [Mk] at sb;cases sb
  |some p =>
   obtain ⟨s',rs'⟩:=p;rw [Mk] at sb;simp only [F1,Option.some.injEq,Prod.mk.injEq] at sb;obtain ⟨rfl,rfl⟩:=sb;have lb' :lg i=cJ E b (Y4 i) st s' rs' :=by rw [lb];exact qE rfl rfl (pE (iq u1) rfl)
   obtain ⟨db,Ss⟩:=Still.y9 kb' uG Mk;refine ⟨s',⟨b,hb,bP ⟨kb',rs',Mk,lb'⟩⟩,a,ha,bP ⟨jg hPa _,rsa,?_,?_⟩⟩
   ·refine Ta s' (Ss.Cf u2 t1') (Ss.nL u2) fun id hid=> ?_
    rcases nM with WV|hun
    ·obtain ⟨u,rfl,_⟩:=Gq WV Mk
     exact O5.refl _
    ·have:=(QY j a i ha hun).1
     rw [lb',la] at this;exact Ss.reads (E:=E) (i:=b) (rs:=rs') this hid
   ·rw [la]
    refine (fX ?_ ?_).symm
    ·simp [put]
    ·rw [ny hPa,ny hPa]
 ·
  obtain ⟨WV,hun⟩:=nM;obtain ⟨v,rfl,Tb⟩:=Gq WV sb;have sb0:y9 E j4 (Y4 i) i b st=some (put st i v,rsb):=by
   refine Tb st (fun x hx=>(WA.Cf u1 t2' x hx).symm) (WA.nL u1).symm fun id hid=> ?_
   have:=(QY i b j hb hun).1;rw [la,lb] at this;exact (WA.reads (E:=E) (i:=a) (rs:=rsa) this hid).symm
  refine ⟨put st i v,⟨b,hb,bP ⟨jg WV _,rsb,sb0,?_⟩⟩,a,ha,bP ⟨by rw [oo (iq u2)];exact ka,rsa,?_,?_⟩⟩
  ·rw [lb]
   refine (fX ?_ ?_)
   ·simp [put]
   ·rw [ny WV,ny WV]
  ·rw [tg (fun e=>hji e.symm) u2 ka,sa]
   rfl
  ·rw [la]
   exact (qE (s:=st) (s2:=put st i v) (s' :=Q3) (s2' :=put Q3 i v) rfl rfl (pE (iq u2) rfl)).symm
 ·
  obtain ⟨Mg,Mh⟩:=nM;rw [ek Mg] at Nw;rw [ek Mh] at uG;obtain ⟨n,Th⟩:=Option.isSome_iff_exists.1 Nw;obtain ⟨m,GQ⟩:=Option.isSome_iff_exists.1 uG;rw [Th] at sa;rw [GQ] at sb;obtain ⟨rfl,f,hf,rfl,Ta⟩:=Bi Mg sa;obtain ⟨rfl,g,hg,rfl,Tb⟩:=Bi Mh sb;have hnm:n≠m:=by
   rintro rfl;exact hji (hn.inj j i n Th GQ)
  have ut:∀ {c:n9} {x:u5} {t:Nat},x ∈ c.op.T6->t ∉ iE c->t ∉ x.slots:=by
   intro c x t hx ht h;apply ht;unfold iE;exact List.mem_flatMap.2 ⟨x,hx,h⟩
  have sb0:y9 E j4 (some m) i b st=some (g st,[]) :=
   Tb st (fun x hx=>(hf.F8 (Q7 hx u1) (fun t ht=>ut hx (t2' t ht)) st).symm) (hf.wanted (fun _ _ h=>bU h u1) st).symm ⟨(hf.U7 st).symm,(hf.gq st).symm,fun s hs=>uD i b s hb (ek Mh) hs⟩
  have sa0:y9 E j4 (some n) j a (g st)=some (f (g st),[]) :=
   Ta (g st) (fun x hx=>hg.F8 (Q7 hx u2) (fun t ht=>ut hx (t1' t ht)) st) (hg.wanted (fun _ _ h=>bU h u2) st) ⟨hg.U7 st,hg.gq st,fun s hs=>by rw [hg.n7];exact uD j a s ha (ek Mg) hs⟩
  refine ⟨g st,⟨b,hb,bP ⟨cE Mh _,[],by rw [GQ];exact sb0,?_⟩⟩,a,ha,bP ⟨cE Mg _,[],by rw [Th,sa0,hf.comm hg hji hnm t3],?_⟩⟩
  ·rw [lb]
   refine fX ?_ ?_
   ·simp [hf.n7,hg.n7]
   ·rw [cF Mh,cF Mh]
  ·rw [la]
   refine (fX ?_ ?_)
   ·simp [hf.n7,hg.n7]
   ·rw [cF Mg,cF Mg]
 ·
  obtain ⟨⟨Mg,hCb⟩,hun⟩:=nM;have tK:=ek Mg;rw [tK] at Nw;obtain ⟨n,Th⟩:=Option.isSome_iff_exists.1 Nw;rw [Th] at sa;obtain ⟨rfl,f,hf,rfl,Ta⟩:=Bi Mg sa;have Rb:L5 E (f st) b.op<=n:=by
   have:=(QY j a i ha hun).2 tK;rw [lb,la] at this;simpa [cJ,Th] using this
  have Ze:=KJ hf u1 t2' Rb;obtain ⟨hs1,wA⟩:=Xn (E:=E) (j4:=j4) (u9:=Y4 i) hf hCb hji u1 t2' t3 (hin j n Th) (by rw [Ze];exact Rb);rw [hs1] at sb;cases Mk:y9 E j4 (Y4 i) i b st with
  |none=>rw [Mk] at sb;cases sb
  |some p =>
   obtain ⟨s',rs'⟩:=p;rw [Mk] at sb;simp only [F1,Option.some.injEq,Prod.mk.injEq] at sb;obtain ⟨rfl,rfl⟩:=sb;obtain ⟨db,Ss⟩:=Still.y9 (fU hCb st) uG Mk;refine ⟨s',⟨b,hb,bP ⟨fU hCb _,rs',Mk,?_⟩⟩,a,ha,bP ⟨cE Mg _,[],?_,?_⟩⟩
   ·rw [lb]
    exact qE (hf.n7 _) (hf.n7 _) wA
   ·rw [Th]
    exact Ta s' (Ss.Cf u2 t1') (Ss.nL u2) ⟨Ss.U7,Ss.gq,fun s hs=>Ss.marked uD j a s ha tK hs⟩
   ·rw [la]
    refine fX ?_ ?_
    ·simp [hf.n7]
    ·rw [cF Mg,cF Mg]
 ·
  obtain ⟨⟨hCa,Mh⟩,hun⟩:=nM;have tK:=ek Mh;rw [tK] at uG;obtain ⟨m,GQ⟩:=Option.isSome_iff_exists.1 uG;rw [GQ] at sb;obtain ⟨rfl,g,hg,rfl,Tb⟩:=Bi Mh sb;have Rb:L5 E st a.op<=m:=by
   have:=(QY i b j hb hun).2 tK;rw [lb,la] at this;simpa [cJ,GQ] using this
  obtain ⟨hs1,wA⟩:=Xn (E:=E) (j4:=j4) (u9:=Y4 j) hg hCa (fun e=>hji e.symm) u2 t1' t4 (hin i m GQ) Rb;have sb0:y9 E j4 (some m) i b st=some (g st,[]) :=
   Tb st (fun x hx=>(WA.Cf u1 t2' x hx).symm) (WA.nL u1).symm ⟨WA.U7.symm,WA.gq.symm,fun s hs=>uD i b s hb tK hs⟩
  refine ⟨g st,⟨b,hb,bP ⟨cE Mh _,[],by rw [GQ];exact sb0,?_⟩⟩,a,ha,bP ⟨fU hCa _,rsa,?_,?_⟩⟩
  ·rw [lb]
   refine fX ?_ ?_
   ·simp [hg.n7]
   ·rw [cF Mh,cF Mh]
  ·rw [hs1,sa];rfl
  ·rw [la]
   exact (qE (hg.n7 _) (hg.n7 _) wA).symm
end
inductive pV (E:Env) (j4:List n9) (Y4:Nat->Option Nat) (lg:Nat->ja):List Nat->F0->F0->Prop where
 |nil (st:F0):pV E j4 Y4 lg [] st st
 |cons {k:Nat} {ks:List Nat} {st Q3 aj:F0}:Qf E j4 Y4 lg k st Q3->pV E j4 Y4 lg ks Q3 aj->pV E j4 Y4 lg (k::ks) st aj
section
variable {E:Env} {j4:List n9} {Y4:Nat->Option Nat} {lg:Nat->ja} {st Q3 aj fin:F0}
theorem Qf.len (hn:KO j4 Y4){k:Nat}(h:Qf E j4 Y4 lg k st Q3):st.H.length<=Q3.H.length:=by
 obtain ⟨i,hi,h⟩:=h;obtain ⟨hk,rs,hs,_⟩:=ga.1 h;exact (tf (hn.alloc k i hi) hs).1
theorem Qf.marked (hn:KO j4 Y4){k:Nat}(h:Qf E j4 Y4 lg k st Q3)(hm:gb j4 st):gb j4 Q3:=by
 obtain ⟨i,hi,h⟩:=h;obtain ⟨hk,rs,hs,_⟩:=ga.1 h;exact hm.ext (tf (hn.alloc k i hi) hs).2
theorem pV.front (hn:KO j4 Y4)(QY:Ia j4 lg){i:Nat}{b:n9}(hb:j4[i]? =some b){rest:List Nat} :
  ∀ (js:List Nat) (st:F0),(∀ j,j ∈ js->j≠i/\∃ a,j4[j]? =some a/\BU j4 j a i b=true)->(∀ k n,Y4 k=some n->n<st.H.length)->gb j4 st->pV E j4 Y4 lg (js++i::rest) st fin ->
   ∃ st',Qf E j4 Y4 lg i st st' /\pV E j4 Y4 lg (js++rest) st' fin
 |[],st,_,_,_,h=>by
  cases h with
  |cons h1 h2=>exact ⟨_,h1,h2⟩
 |j::js,st,hj,hin,uD,h=>by
  cases h with
  |cons h1 h2 =>
   obtain ⟨s2,g1,g2⟩:=pV.front hn QY hb js _ (fun j' hj' =>hj j' (by simp [hj'])) (fun k n hk=>Nat.lt_of_lt_of_le (hin k n hk) (h1.len hn)) (h1.marked hn uD) h2;obtain ⟨hne,a,ha,hp⟩:=hj j (by simp);obtain ⟨s1,e1,e2⟩:=swap hn QY hp ha hb hne hin uD h1 g1;exact ⟨s1,e1,pV.cons e2 g2⟩
end
def direct (o:Oper):List Nat:=(o.after.toList.filter (Region.binds .any)).map (·.on)
def Gr:List Oper->List (List Nat)->List (List Nat)
 |[],acc=>acc
 |o::os,acc=>Gr os (acc++[((direct o).flatMap fun e=>e::acc.getD e []).eraseDups])
def zX (iC:List (List Nat))(k:Nat)(o:Oper):Bool :=
 (iC.getD k []).all fun j=>(direct o).contains j||(direct o).any fun e=>(iC.getD e []).contains j
def vM (j4:List n9)(iC:List (List Nat))(i:Nat)(b:n9):Bool :=
 (List.range i).all fun j=>(iC.getD i []).contains j||(match j4[j]? with
  |some a=>BU j4 j a i b
  |none=>false)
def lH (X:Cx)(j4:List n9)(iC:List (List Nat)):List n9->Nat->Bool
 |[],k=>X.ops.size==k
 |i::is,k=>(match X.ops[k]? with
  |some o=>zX iC k o&&(direct o).all (fun e=>decide (e<k))&&oK X (fun j=>(iC.getD k []).contains j) o i&&vM j4 iC k i
  |none=>false)&&lH X j4 iC is (k+1)
theorem vK {X:Cx}{j4:List n9}{iC:List (List Nat)}:∀ (is:List n9) (k:Nat),j4.drop k=is->lH X j4 iC is k=true->∀ (m:Nat) b,k<=m->j4[m]? =some b ->
  ∃ o,X.ops[m]? =some o/\zX iC m o=true/\(∀ e,e ∈ direct o->e<m)/\oK X (fun j=>(iC.getD m []).contains j) o b=true/\vM j4 iC m b=true
 |[],k,hd,_,m,b,hkm,hb=>by
  have:j4.length<=k:=by
   have:=congrArg List.length hd;simp at this;omega
  have:=o4 hb;omega
 |i::is,k,hd,h,m,b,hkm,hb=>by
  simp only [lH,b5] at h
  by_cases e:m=k
  ·subst e
   have hi:j4[m]? =some i:=by
    have:(j4.drop m)[0]? =some i:=by rw [hd];rfl
    rw [List.getElem?_drop] at this;simpa using this
   rw [hi] at hb;cases hb;cases ho:X.ops[m]? with
   |none=>rw [ho] at h;exact absurd h.1 (by simp)
   |some o =>
    rw [ho] at h;simp only [b5] at h;exact ⟨o,rfl,h.1.1.1.1,fun e he=>by simpa using List.all_eq_true.1 h.1.1.1.2 e he,h.1.1.2,h.1.2⟩
  ·have hd' :j4.drop (k+1)=is:=by
    have:=congrArg (List.drop 1) hd;rw [List.drop_drop] at this;simpa using this
   exact vK is (k+1) hd' h.2 m b (by omega) hb
theorem lI {X:Cx}{j4:List n9}{iC:List (List Nat)}:∀ (is:List n9) (k:Nat),lH X j4 iC is k=true->X.ops.size=k+is.length
 |[],k,h=>by simpa [lH] using h
 |i::is,k,h=>by
  simp only [lH,b5] at h;have:=lI is (k+1) h.2;simp only [A2];omega
def Mn (X:Cx)(S:Nat->Prop):Prop:=∀ (k:Nat) o,S k->X.ops[k]? =some o->∀ e,e ∈ direct o->S e
theorem Gs {X:Cx}{iC:List (List Nat)}{S:Nat->Prop}(hc:Mn X S)(hok:∀ (k:Nat) o,X.ops[k]? =some o->zX iC k o=true/\∀ e,e ∈ direct o->e<k)(hout:∀ k,X.ops.size<=k->iC.getD k []=[]) :
  ∀ (n k:Nat),k<=n->∀ o,X.ops[k]? =some o->(∀ e,e ∈ direct o->S e)->∀ j,j ∈ iC.getD k []->S j:=by
 intro n
 induction n with
 |zero =>
  intro k hk o ho hd j hj;obtain ⟨h1,h2⟩:=hok k o ho;unfold zX at h1;have:=List.all_eq_true.1 h1 j hj;simp only [Bool.or_eq_true,List.contains_eq_mem,decide_eq_true_eq,List.any_eq_true] at this
  rcases this with h|⟨e,he,_⟩
  ·exact hd j h
  ·have:=h2 e he;omega
 |succ n ih =>
  intro k hk o ho hd j hj;obtain ⟨h1,h2⟩:=hok k o ho;unfold zX at h1;have:=List.all_eq_true.1 h1 j hj;simp only [Bool.or_eq_true,List.contains_eq_mem,decide_eq_true_eq,List.any_eq_true] at this
  rcases this with h|⟨e,he,hej⟩
  ·exact hd j h
  ·have hlt:=h2 e he
   cases hoe:X.ops[e]? with
   |none =>
    have:X.ops.size<=e:=by
     rcases p9 e X.ops.size with h|h
     ·simp [h] at hoe
     ·exact h
    rw [hout e this] at hej;simp at hej
   |some oe=>exact ih e (by omega) oe hoe (hc e oe (hd e he) hoe) j hej
def br (n:Nat)(listed:Array Bool):List Nat:=(List.range n).filter fun j=> !listed.getD j false
theorem Eo {n i:Nat}{listed:Array Bool}(hi:i<n)(hu:listed.getD i false=false)(hs:listed.size=n) :
  ∃ js rest,br n listed=js++i::rest/\br n (listed.setIfInBounds i true)=js++rest/\∀ j,j ∈ js->j<i/\listed.getD j false=false:=by
 refine ⟨(List.range i).filter fun j=> !listed.getD j false,(List.range' (i+1) (n - i - 1)).filter fun j=> !listed.getD j false,?_,?_,?_⟩
 ·unfold br
  have:List.range n=List.range i++i::List.range' (i+1) (n - i - 1):=by
   have h:=List.range'_append_1 (s:=0) (m:=i) (n:=n - i - 1+1);rw [Nat.zero_add] at h;rw [List.range_eq_range',List.range_eq_range',<- List.range'_succ,h]
   congr 1;omega
  rw [this,List.filter_append,List.filter_cons];simp [hu]
 ·unfold br
  have:List.range n=List.range i++i::List.range' (i+1) (n - i - 1):=by
   have h:=List.range'_append_1 (s:=0) (m:=i) (n:=n - i - 1+1);rw [Nat.zero_add] at h;rw [List.range_eq_range',List.range_eq_range',<- List.range'_succ,h]
   congr 1;omega
  rw [this,List.filter_append,List.filter_cons];have e1:(!(listed.setIfInBounds i true).getD i false)=false:=by simp [hs,hi]
  rw [e1];simp only [b7,if_false]
  congr 1
  ·refine List.filter_congr fun j hj=> ?_
   have:i≠j:=by simp at hj;omega
   simp [Array.getElem?_setIfInBounds_ne this]
  ·refine List.filter_congr fun j hj=> ?_
   have:i≠j:=by simp at hj;omega
   simp [Array.getElem?_setIfInBounds_ne this]
 ·intro j hj
  simpa using hj
section
variable {X:Cx} {j4:List n9} {E:Env} {nt:Nat} {Y4:Nat->Option Nat} {lg:Nat->ja} {fin:F0} {iC:List (List Nat)}
theorem KQ (hst:Stat X nt)(CP:lG X.P E.cf E.prom)(dU:∀ f args H lm r,E.cf f args H lm=some r->U1 X.P f=true)(hs:E.lim.strict<=E.lim.base)(UJ:E.lim.base<=E.entry)(Q:Exit->Act->World->Prop)
  (BG:lH X j4 iC j4 0=true) (hout:∀ k,X.ops.size<=k->iC.getD k []=[]) (hn:KO j4 Y4) (hne:∀ k n,Y4 k=some n->E.entry<=n) (QY:Ia j4 lg) :
  ∀ (fuel:Nat) (listed:Array Bool) (st:F0) (a:Act) (w:World) (G:Gh) (I:S4) (N:Nat->Prop),Rg X j4 E nt (fun j=>listed.getD j false=true) st a w G I N->listed.size=j4.length->Mn X (fun j=>listed.getD j false=true) ->
   (∀ k n,Y4 k=some n->n<st.H.length)->gb j4 st->(∀ k n,Y4 k=some n->listed.getD k false=false->¬ N n)->pV E j4 Y4 lg (br j4.length listed) st fin->(br j4.length listed).length<=fuel ->
   (∀ a' w' G' I' N',Fin X j4 E nt st w G I N fin a' w' G' I' N' ->Q .normal a' w')->wpAny X.P .any X.ops Q fuel listed a w:=by
 have hsize:X.ops.size=j4.length:=by have:=lI j4 0 BG;omega
 have Dy:=fun (m:Nat) b hb=>vK j4 0 (by simp) BG m b (Nat.zero_le _) hb
 have MY:∀ (k:Nat) o,X.ops[k]? =some o->zX iC k o=true/\∀ e,e ∈ direct o->e<k:=by
  intro k o ho;have hk:k<j4.length:=by
   rw [<- hsize];exact (Array.getElem?_eq_some_iff.1 ho).1
  obtain ⟨o',h1,h2,h3,_⟩:=Dy k j4[k] (o8 hk);rw [ho] at h1;cases h1;exact ⟨h2,h3⟩
 have tL:∀ (listed:Array Bool),listed.size=j4.length->Region.ready .any X.ops listed=[]->br j4.length listed=[]:=by
  intro listed hls hr;cases wv:br j4.length listed with
  |nil=>rfl
  |cons i rest =>
   exfalso;have hi:i<j4.length/\listed.getD i false=false/\∀ j,j<i->listed.getD j false=true:=by
    have hm:i ∈ br j4.length listed:=by rw [wv];simp
    unfold br at hm;simp only [List.mem_filter,List.mem_range,j5] at hm;refine ⟨hm.1,hm.2,fun j hj=> ?_⟩;cases hlj:listed.getD j false with
    |true=>rfl
    |false =>
     have hjm:j ∈ br j4.length listed:=by
      unfold br;simp only [List.mem_filter,List.mem_range,j5];exact ⟨by omega,hlj⟩
     have Iz:(br j4.length listed).Pairwise (·<·):=List.Pairwise.filter _ List.pairwise_lt_range;rw [wv] at Iz hjm
     rcases x9.1 hjm with h|h
     ·omega
     ·have:=(List.pairwise_cons.1 Iz).1 j h
      omega
   obtain ⟨o,ho,_,hlt,_⟩:=Dy i j4[i] (o8 hi.1);have:i ∈ Region.ready .any X.ops listed:=by
    rw [mem_ready];refine ⟨?_,o,ho,fun e he hb=> ?_⟩
    ·have uB:i<listed.size:=by omega
     have:=hi.2.1;simp [uB] at this ⊢;exact this
    ·have:e.on ∈ direct o:=by
      unfold direct;refine List.mem_map.2 ⟨e,List.mem_filter.2 ⟨by simpa using he,hb⟩,rfl⟩
     exact hi.2.2 _ (hlt _ this)
   rw [hr] at this;cases this
 have hend:∀ (listed:Array Bool) (st:F0) (a:Act) (w:World) (G:Gh) (I:S4) (N:Nat->Prop),Rg X j4 E nt (fun j=>listed.getD j false=true) st a w G I N->listed.size=j4.length->pV E j4 Y4 lg (br j4.length listed) st fin->br j4.length listed=[] ->
   Fin X j4 E nt st w G I N fin a w G I N:=by
  intro listed st a w G I N hR hls hrun wv;rw [wv] at hrun;cases hrun;refine ⟨hR.congr fun j=> ?_,W5.refl _ _ _ _ _ _⟩;constructor
  ·intro h
   rcases p9 j listed.size with h' |h'
   ·omega
   ·simp [Array.getElem?_eq_none h'] at h
  ·intro h
   cases hlj:listed.getD j false with
   |true=>rfl
   |false =>
    have hjm:j ∈ br j4.length listed:=by
     unfold br;simp only [List.mem_filter,List.mem_range,j5];exact ⟨h,hlj⟩
    rw [wv] at hjm;cases hjm
 intro fuel
 induction fuel with
 |zero =>
  intro listed st a w G I N hR hls hcl hin uD hfr hrun hfl hQ;have wv:br j4.length listed=[]:=List.length_eq_zero_iff.1 (by omega);refine ⟨?_,hQ _ _ _ _ _ (hend listed st a w G I N hR hls hrun wv)⟩;cases hr:Region.ready .any X.ops listed with
  |nil=>rfl
  |cons i rest =>
   exfalso;have:i ∈ Region.ready .any X.ops listed:=by rw [hr];simp
   obtain ⟨h0,o,ho,_⟩:=mem_ready.1 this;have hi:i<j4.length:=by rw [<- hsize];exact (Array.getElem?_eq_some_iff.1 ho).1
   have uB:i<listed.size:=by omega
   have:i ∈ br j4.length listed:=by
    unfold br;simp only [List.mem_filter,List.mem_range,j5];refine ⟨hi,?_⟩;simp [uB] at h0 ⊢;exact h0
   rw [wv] at this;cases this
 |succ fuel ih =>
  intro listed st a w G I N hR hls hcl hin uD hfr hrun hfl hQ;refine ⟨fun hr=>hQ _ _ _ _ _ (hend listed st a w G I N hR hls hrun (tL listed hls hr)),fun i hi=> ?_⟩;obtain ⟨h0,o,ho,hall⟩:=mem_ready.1 hi;have hia:i<j4.length:=by rw [<- hsize];exact (Array.getElem?_eq_some_iff.1 ho).1
  have uB:i<listed.size:=by omega
  have hun:listed.getD i false=false:=by
   simp [uB] at h0 ⊢;exact h0
  obtain ⟨b,hb⟩:∃ b,j4[i]? =some b:=⟨_,o8 hia⟩;obtain ⟨o',ho',hoa,hlt,hci,dM⟩:=Dy i b hb;rw [ho] at ho';cases ho';have YG:∀ e,e ∈ direct o->listed.getD e false=true:=by
   intro e he;unfold direct at he;obtain ⟨ed,hed,rfl⟩:=List.mem_map.1 he;rw [List.mem_filter] at hed;exact hall ed (by simpa using hed.1) hed.2
  have Yx:=Gs hcl MY hout i i (k9 _) o ho YG;obtain ⟨js,rest,Xa,Tm,hjs⟩:=Eo hia hun hls;rw [Xa] at hrun;obtain ⟨Q3,aw5,Zc⟩:=pV.front hn QY hb js st (fun j hj=>by
   obtain ⟨hji,hju⟩:=hjs j hj;refine ⟨by omega,?_⟩;unfold vM at dM;have:=List.all_eq_true.1 dM j (List.mem_range.2 hji);simp only [Bool.or_eq_true,List.contains_eq_mem,decide_eq_true_eq] at this
   rcases this with h|h
   ·have:=Yx j h
    rw [hju] at this;cases this
   ·cases hja:j4[j]? with
    |none=>rw [hja] at h;cases h
    |some a' =>rw [hja] at h;exact ⟨a',rfl,h⟩) hin uD hrun
  obtain ⟨b',hb',hD⟩:=aw5;rw [hb] at hb';cases hb';obtain ⟨hk,rs,hstep,bb5⟩:=ga.1 hD;have hstill:=(tf (hn.alloc i b hb) hstep).2;refine tX hst CP dU hs UJ hR (D:=fun j=>(iC.getD i []).contains j) (fun j hj=>Yx j (by simpa using hj)) (by rw [hun];simp) ho hb hci (u9:=Y4 i) (fun tK=> ?_) (fun n hni=>⟨hne i n hni,hin i n hni⟩) hstep _ _ ?_
  ·have:=hn.alloc i b hb
   rw [tK] at this;obtain ⟨n,hni⟩:=Option.isSome_iff_exists.1 this;rw [hni];have h1:=hne i n hni;exact ⟨hfr i n hni hun,(fun m hm=>by cases hm;exact hin i n hni),by simp only [newId,Option.getD_some];omega,by simp only [newId,Option.getD_some];omega⟩
  ·intro a' w' G' I' N' hdn
   have lZ:∀ j,(listed.setIfInBounds i true).getD j false=true↔(listed.getD j false=true\/j=i):=by
    intro j
    by_cases e:j=i
    ·subst e;simp [uB]
    ·rw [Go.getD_set_ne false (fun h=>e h.symm)]
     simp [e]
   refine ih (listed.setIfInBounds i true) Q3 a' w' G' I' N' (hdn.rg.congr fun j=>(lZ j).symm) (by simp [hls]) ?_ (fun k n hk=>Nat.lt_of_lt_of_le (hin k n hk) hdn.len) (uD.ext hstill) ?_ (by rw [Tm];exact Zc) ?_ ?_
   ·intro k ok hk hok e he
    rw [lZ] at hk ⊢
    rcases hk with hk|rfl
    ·exact Or.inl (hcl k ok hk hok e he)
    ·rw [ho] at hok;cases hok
     exact Or.inl (YG e he)
   ·intro k n hk hku hN
    have YR :listed.getD k false=false/\k≠i:=by
     have:=lZ k;rw [hku] at this;simp at this;exact ⟨by simpa using this.1,this.2⟩
    rcases hdn.old n (hin k n hk) hN with h|h
    ·exact hfr k n hk YR.1 h
    ·exact YR.2 (hn.inj k i n hk h)
   ·rw [Tm]
    rw [Xa] at hfl;simp at hfl ⊢;omega
   ·intro a'' w'' Xp I'' N'' hf
    exact hQ _ _ _ _ _ ⟨hf.rg,hdn.since.trans hf.since⟩
def mq (j4:List n9)(base:Nat)(k:Nat):Option Nat :=
 match j4[k]? with
 |some i=>if i.op.A0 then some (base+((j4.take k).filter (·.op.A0)).length) else none
 |none=>none
theorem Rq (j4:List n9)(base:Nat):KO j4 (mq j4 base):=by
 refine ⟨fun k i hi=> ?_,fun j k n hj hk=> ?_⟩
 ·simp only [mq,hi]
  split
  ·rename_i h;simp [h]
  ·rename_i h;simp [h]
 ·have key:∀ a b n,a<b->mq j4 base a=some n->mq j4 base b=some n->False:=by
   intro a b n hab ha hb;unfold mq at ha hb;split at ha
   ·rename_i i hi
    split at ha
    ·rename_i tK
     split at hb
     ·split at hb
      ·cases ha
       simp only [Option.some.injEq] at hb;have h1:((j4.take (a+1)).filter (·.op.A0)).length=((j4.take a).filter (·.op.A0)).length+1:=by
        rw [List.take_add_one,hi];simp [List.filter_append,tK]
       have h2:((j4.take (a+1)).filter (·.op.A0)).length<=((j4.take b).filter (·.op.A0)).length:=by
        refine List.Sublist.length_le (List.Sublist.filter _ ?_);exact List.take_sublist_take_left (by omega)
       omega
      ·cases hb
     ·cases hb
    ·cases ha
   ·cases ha
  rcases Nat.lt_trichotomy j k with h|h|h
  ·exact (key j k n h hj hk).elim
  ·exact h
  ·exact (key k j n h hk hj).elim
theorem tV {base:Nat}:∀ (is:List n9) (k:Nat) (na:Nat) (st aj:F0) (Ge:List ja) (Zn:Nat->ja),j4.drop k=is->na=base+((j4.take k).filter (·.op.A0)).length->P5 E j4 is k na st=some (aj,Ge) ->
  (∀ m,m<is.length->Zn (k+m)=Ge.getD m ⟨[],[],0,0⟩)->Ge.length=is.length/\pV E j4 (mq j4 base) Zn (List.range' k is.length) st aj
 |[],k,na,st,aj,Ge,Zn,hd,hna,h,hl=>by
  simp only [P5] at h;cases h;exact ⟨rfl,pV.nil _⟩
 |i::is,k,na,st,aj,Ge,Zn,hd,hna,h,hl=>by
  have hi:j4[k]? =some i:=by
   have:(j4.drop k)[0]? =some i:=by rw [hd];rfl
   rw [List.getElem?_drop] at this;simpa using this
  have hd' :j4.drop (k+1)=is:=by
   have:=congrArg (List.drop 1) hd;rw [List.drop_drop] at this;simpa using this
  simp only [P5] at h;split at h
  ·rename_i Q3 l hstep
   split at h
   ·rename_i Wz lg3 hrun
    cases h;have av3 :(if i.op.A0=true then na+1 else na)=base+((j4.take (k+1)).filter (·.op.A0)).length:=by
     rw [List.take_add_one,hi];cases tK:i.op.A0
     ·simp [List.filter_append,tK,hna]
     ·simp [List.filter_append,tK,hna];omega
    obtain ⟨g1,g2⟩:=tV is (k+1) _ Q3 aj lg3 Zn hd' av3 hrun (fun m hm=>by
     have:=hl (m+1) (by simp;omega);rw [show k+(m+1)=k+1+m from by omega] at this;simpa using this)
    refine ⟨by simp [g1],?_⟩;simp only [A2,List.range'_succ];refine pV.cons ⟨i,hi,?_⟩ g2;have h0:=hl 0 (by simp);simp only [Nat.add_zero,List.getD_cons_zero] at h0;rw [h0];have:mq j4 base k=if i.op.A0=true then some na else none:=by
     simp only [mq,hi,hna]
    rw [this];exact hstep
   ·cases h
  ·cases h
theorem Lv {Ge:List ja}(hlen:Ge.length=j4.length)(h:tR j4 Ge=true):Ia j4 (fun k=>Ge.getD k ⟨[],[],0,0⟩):=by
 intro k i e hi he;unfold tR at h;have hk:=o4 hi;have hz:(i,Ge.getD k ⟨[],[],0,0⟩) ∈ j4.zip Ge:=by
  refine List.mem_of_getElem? (i:=k) ?_;rw [List.getElem?_zip_eq_some];refine ⟨hi,?_⟩;rw [List.getD,o8 (by omega)];rfl
 have h1:=List.all_eq_true.1 h _ hz;simp only at h1;have h2:=List.all_eq_true.1 h1 e he;split at h2
 ·rename_i le hle
  simp only [b5,j5,Bool.or_eq_true,decide_eq_true_eq] at h2;have e1:Ge.getD e ⟨[],[],0,0⟩=le:=by simp [List.getD,hle]
  simp only [e1];refine ⟨h2.1,fun tK=> ?_⟩
  rcases h2.2 with h3|h3
  ·rw [tK] at h3;cases h3
  ·exact h3
 ·cases h2
end
structure Cd (P:Program)(names:List Tmp)(E:Env)(nt:Nat)(st:St)(a:Act)(w:World)(G:Gh)(I:S4)(N:Nat->Prop):Prop where
 T:∀ (s:Nat) t,names[s]? =some t->VR G I N w (.slot s) (st.T.getD s .any) (a.tmps.getD t undef)
 H:HR G I N w st.H
 wf:WF G w
 U6:KK E.lim st.H
 U7:st.T.length=names.length
 cm:∀ id,N id->id<st.H.length
 Dp:E.entry<=st.H.length
 size:a.tmps.size=nt
 idle:∀ d,d ∈ a.defers->CV P E.idle d
def oP (names:List Tmp):List (Option Tmp)->Bool
 |[]=>true
 |none::r=>oP names r
 |some d::r=>(names.contains d|| !r.contains (some d))&&oP names r
def ia:List Tmp->Bool
 |[]=>true
 |x::xs=> !xs.contains x&&ia xs
theorem oq:∀ (l:List Tmp),ia l=true->∀ (s s' :Nat) t,l[s]? =some t->l[s']? =some t->s=s'
 |[],_,s,s',t,h,_=>by simp at h
 |x::xs,hok,s,s',t,h,h' =>by
  simp only [ia,b5,j5,List.contains_eq_mem,decide_eq_false_iff_not] at hok;cases s with
  |zero =>
   simp at h;subst h;cases s' with
   |zero=>rfl
   |succ s' =>exact absurd (List.mem_of_getElem? (by simpa using h')) hok.1
  |succ s =>
   cases s' with
   |zero =>
    simp at h';subst h';exact absurd (List.mem_of_getElem? (by simpa using h)) hok.1
   |succ s' =>rw [oq xs hok.2 s s' t (by simpa using h) (by simpa using h')]
theorem qn (names:List Tmp):∀ (l:List (Option Tmp)),oP names l=true->∀ (i j:Nat) d,l[i]? =some (some d)->l[j]? =some (some d)->names.contains d=false->i=j
 |[],_,i,j,d,h,_,_=>by simp at h
 |x::xs,hok,i,j,d,h,h',hn=>by
  have qA:oP names xs=true:=by
   cases x with
   |none=>exact hok
   |some d' =>simp only [oP,b5] at hok;exact hok.2
  have hnot:x=some d->some d ∉ xs:=by
   rintro rfl;simp only [oP,b5,Bool.or_eq_true,j5,List.contains_eq_mem,decide_eq_false_iff_not] at hok
   rcases hok.1 with h1|h1
   ·simp at hn;simp at h1;exact absurd h1 hn
   ·exact h1
  cases i with
  |zero =>
   simp at h;cases j with
   |zero=>rfl
   |succ j=>exact absurd (List.mem_of_getElem? (by simpa using h')) (hnot h)
  |succ i =>
   cases j with
   |zero =>
    simp at h';exact absurd (List.mem_of_getElem? (by simpa using h)) (hnot h')
   |succ j=>rw [qn names xs qA i j d (by simpa using h) (by simpa using h') hn]
def cD (P:Program)(names:List Tmp)(nt:Nat)(ops:Array Oper)(j4:List n9)(draw:Bool):Bool :=
 oP names (ops.toList.map (·.dst))&&(ops.toList.all fun o=>match o.dst with|some d=>decide (d<nt)|none=>true) &&
 (if draw then
   let iC:=Gr ops.toList []
   decide (iC.length<=ops.size)&&lH ⟨P,names,ops⟩ j4 iC j4 0&&P.follows .mixedOrders
  else jX ⟨P,names,ops⟩ j4 0)
theorem Su {P:Program}{names:List Tmp}{nt:Nat}{ops:Array Oper}{j4:List n9}{draw:Bool}(hn:ia names=true)(h:cD P names nt ops j4 draw=true):Stat ⟨P,names,ops⟩ nt:=by
 simp only [cD,b5] at h;obtain ⟨⟨h1,h2⟩,_⟩:=h;have get:∀ (i:Nat) d,(ops[i]?).bind (·.dst)=some d->(ops.toList.map (·.dst))[i]? =some (some d):=by
  intro i d hd;rw [List.getElem?_map];cases ho:ops[i]? with
  |none=>rw [ho] at hd;cases hd
  |some o =>
   rw [ho] at hd;have:ops.toList[i]? =some o:=by simpa using ho
   rw [this];simpa using hd
 refine ⟨fun i j d hi hj hc=>qn names _ h1 i j d (get i d hi) (get j d hj) hc,fun i d hd=> ?_,fun s s' t=>oq names hn s s' t⟩;cases ho:ops[i]? with
 |none=>simp only [ho] at hd;cases hd
 |some o =>
  simp only [ho] at hd;have hm:o ∈ ops.toList:=List.mem_of_getElem? (i:=i) (by simpa using ho);have:=List.all_eq_true.1 h2 o hm;have hd' :o.dst=some d:=hd;rw [hd'] at this;simpa using this
section
variable {P:Program} {names:List Tmp} {E:Env} {nt:Nat} {st:St} {a:Act} {w:World} {G:Gh} {I:S4} {N:Nat->Prop} {ops:Array Oper} {j4:List n9}
theorem Cd.start (h:Cd P names E nt st a w G I N)(X:Cx)(hX:X=⟨P,names,ops⟩){S:Nat->Prop}(hS:∀ j,¬ S j){H' :o6}(ext:o6)(hH:H' =st.H++ext)(YF:∀ o,o ∈ ext->o= .dead){L:List b6}(hL:L.length=j4.length)(n7:List Touch) :
  Rg X j4 E nt S ⟨st.T,H',L,n7⟩ a w G I N:=by
 subst hX;subst hH;have get:∀ (id:Nat) o,(st.H++ext)[id]? =some o->st.H[id]? =some o\/o= .dead:=by
  intro id o ho
  rcases p9 id st.H.length with hlt|hge
  ·rw [p7 hlt] at ho;exact Or.inl ho
  ·rw [q8 hge] at ho
   exact Or.inr (YF o (List.mem_of_getElem? ho))
 refine ⟨⟨h.T,fun j hj=>absurd hj (hS j),fun id o ho=> ?_,h.wf,fun id o ho=> ?_⟩,⟨fun j _ _ _ _ hj=>absurd hj (hS j),fun j _ _ _ _ _ _ hj=>absurd hj (hS j)⟩,fun j _ _ hj=>absurd hj (hS j),h.U7,hL,fun id hid=> ?_,?_,h.size,h.idle⟩
 ·rcases get id o ho with h1|rfl
  ·exact h.H id o h1
  ·simp [OR]
 ·rcases get id o ho with h1|rfl
  ·exact h.U6 id o h1
  ·simp [z6.N7]
 ·have:=h.cm id hid;simp;omega
 ·have:=h.Dp;simp;omega
theorem Cd.drew (h:Cd P names E nt st a w G I N)(n:Nat):Cd P names E nt st a { w with drawn:=n } G I N/\W5 E st.H w G I N st.H { w with drawn:=n } G I N:=by
 have hx:Ext G w G { w with drawn:=n }:=(Ext.refl G w).drew n;have hk:∀ pl,aN pl G w G { w with drawn:=n }:=fun _ _ _ h=>⟨h,rfl⟩
 refine ⟨⟨fun s t ht=>VR.mono hx (fun _ _=>rfl) (fun _ h=>h) _ _ _ (Or.inr (hk _)) (h.T s t ht),fun id o ho=>OR.mono (w:=w) hx.sub (fun _ _=>rfl) (fun _ h=>h) id o (fun h=>⟨h,rfl⟩) (fun _=>hk _) (h.H id o ho),h.wf,h.U6,h.U7,h.cm,h.Dp,h.size,h.idle⟩,?_⟩;exact ⟨hx,fun id _=>⟨fun _ h=>⟨h,rfl⟩,fun _=>hk _⟩,fun _ _ _=>rfl,fun _ _ h=>h,fun _ _ h=>h,fun _ o _ h=>Or.inr ⟨o,h,k9 _⟩⟩
theorem Cd.done {X:Cx}(hX:X=⟨P,names,ops⟩){S:Nat->Prop}{r:F0}(h:Rg X j4 E nt S r a w G I N):Cd P names E nt ⟨r.T,r.H⟩ a w G I N:=by
 subst hX;exact ⟨h.ri.T,h.ri.H,h.ri.wf,h.ri.U6,h.U7,h.cm,h.Dp,h.size,h.idle⟩
structure HZ (P:Program)(E:Env):Prop where
 cf:lG P E.cf E.prom
 can:∀ f args H lm r,E.cf f args H lm=some r->U1 P f=true
 strict:E.lim.strict<=E.lim.base
 base:E.lim.base<=E.entry
theorem W5.as6 {H0 ext H:o6}{w0 w:World}{G0 G:Gh}{I0 I:S4}{N0 N:Nat->Prop}(hb:E.lim.base<=H0.length)(h:W5 E (H0++ext) w0 G0 I0 N0 H w G I N):W5 E H0 w0 G0 I0 N0 H w G I N:=by
 refine ⟨h.ext,h.ey,h.inj,h.mono,h.old,fun id o' hid ho=> ?_⟩
 rcases h.hle id o' hid ho with h1|⟨o,h1,h2⟩
 ·exact Or.inl h1
 ·rw [p7 (by omega)] at h1
  exact Or.inr ⟨o,h1,h2⟩
theorem qO (hE:HZ P E)(hn:ia names=true){draw:Bool}(hc:cD P names nt ops j4 draw=true)(h:Cd P names E nt st a w G I N){r:F0}(hr:O9 E j4 draw st.T st.H=some r)(id:Nat)(Q:Exit->Act->World->Prop)
  (hQ:∀ a' w' G' I' N',Rg ⟨P,names,ops⟩ j4 E nt (fun j=>j<j4.length) r a' w' G' I' N' ->W5 E st.H w G I N r.H w' G' I' N' ->Q .normal a' w'):(Code.region id ops draw).wp P Q a w:=by
 have hst:=Su hn hc;simp only [cD,b5] at hc;obtain ⟨_,hc⟩:=hc;unfold O9 at hr;cases draw with
 |false =>
  simp only [b7,if_false] at hr hc;refine wp_region ?_;have hsz:ops.size=j4.length:=by
   have:∀ (is:List n9) (k:Nat),jX ⟨P,names,ops⟩ is k=true->ops.size=k+is.length:=by
    intro is
    induction is with
    |nil=>intro k h;simpa [jX] using h
    |cons i is ih =>
     intro k h;simp only [jX,b5] at h;have:=ih (k+1) h.2;simp only [A2];omega
   simpa using this j4 0 hc
  rw [hsz,List.range_eq_range'];have hR:Rg ⟨P,names,ops⟩ j4 E nt (fun j=>j<0) ⟨st.T,st.H,c9 j4.length .any,[]⟩ a w G I N :=
   h.start _ rfl (fun j=>by simp) [] (by simp) (by simp) (by simp) []
  refine Ch (X:=⟨P,names,ops⟩) hst hE.cf hE.can hE.strict hE.base Q j4 0 (by simp) (by simp) hc _ a w G I N r hR hr ?_;intro a' w' G' I' N' hf;exact hQ a' w' G' I' N' hf.rg hf.since
 |true =>
  simp only [if_true,b5,decide_eq_true_eq] at hr hc;obtain ⟨⟨bc6,Yy⟩,av2⟩:=hc;split at hr
  ·rename_i r' Ge hrun
   split at hr
   ·rename_i hok
    cases hr;refine wp_region_any av2 ?_;obtain ⟨h2,UW⟩:=h.drew (w.drawn+1);have hR:Rg ⟨P,names,ops⟩ j4 E nt (fun j=>(Array.replicate ops.size false).getD j false=true) ⟨st.T,st.H++Y8 j4,c9 j4.length .any,slotsOf j4⟩ a { w with drawn:=w.drawn+1 } G I N :=
     h2.start _ rfl (fun j=>by
      rcases p9 j ops.size with h|h
      ·simp [h]
      ·simp [h]) (Y8 j4) rfl (by
      intro o ho;unfold Y8 at ho;simp at ho;exact ho.2.symm) (by simp) (slotsOf j4)
    have YW:gb j4 ⟨st.T,st.H++Y8 j4,c9 j4.length .any,slotsOf j4⟩:=by
     intro k i s hi ha hd;rw [List.any_eq_true];refine ⟨.slot s,?_,by simp [Touch.R1]⟩;show Touch.slot s ∈ slotsOf j4
     unfold slotsOf;exact List.mem_filterMap.2 ⟨i,List.mem_of_getElem? hi,by simp [ha,hd]⟩
    have hsize:ops.size=j4.length:=by
     have:=lI (X:=⟨P,names,ops⟩) j4 0 Yy;simpa using this
    obtain ⟨hlen,at4⟩:=tV (base:=st.H.length) j4 0 st.H.length _ r Ge (fun k=>Ge.getD k ⟨[],[],0,0⟩) (by simp) (by simp) hrun (fun m _=>by simp);have wv:br j4.length (Array.replicate ops.size false)=List.range' 0 j4.length:=by
     unfold br;rw [List.filter_eq_self.2 ?_,List.range_eq_range'];intro j hj;simp at hj;simp [hsize,hj]
    have hlt:∀ k n,mq j4 st.H.length k=some n->st.H.length<=n/\n<(st.H++Y8 j4).length:=by
     intro k n hk;unfold mq at hk;split at hk
     ·rename_i i hi
      split at hk
      ·rename_i tK
       cases hk;refine ⟨by omega,?_⟩;have h1:((j4.take (k+1)).filter (·.op.A0)).length=((j4.take k).filter (·.op.A0)).length+1:=by
        rw [List.take_add_one,hi];simp [List.filter_append,tK]
       have h2:((j4.take (k+1)).filter (·.op.A0)).length<=(j4.filter (·.op.A0)).length :=
        List.Sublist.length_le (List.Sublist.filter _ (List.take_sublist _ _))
       simp [Y8];omega
      ·cases hk
     ·cases hk
    refine KQ (X:=⟨P,names,ops⟩) (iC:=Gr ops.toList []) (Y4:=mq j4 st.H.length) (lg:=fun k=>Ge.getD k ⟨[],[],0,0⟩) (fin:=r) hst hE.cf hE.can hE.strict hE.base Q Yy (fun k hk=> ?_) (Rq j4 _) (fun k n hk=> ?_) (Lv hlen hok)
     ops.size (Array.replicate ops.size false) _ a _ G I N hR (by simp [hsize]) ?_ (fun k n hk=>(hlt k n hk).2) YW (fun k n hk _ hN=> ?_) (by rw [wv];exact at4) (by rw [wv];simp [hsize]) ?_
    ·rw [List.getD,q9 (by simp only at hk;omega)];rfl
    ·have:=(hlt k n hk).1;have:=h.Dp;omega
    ·intro k o hk
     exfalso
     rcases p9 k ops.size with h|h
     ·simp [h] at hk
     ·simp [h] at hk
    ·have h1:=h.cm n hN;have:=(hlt k n hk).1;omega
    ·intro a' w' G' I' N' hf
     have hb:E.lim.base<=st.H.length:=Nat.le_trans hE.base h.Dp;exact hQ a' w' G' I' N' hf.rg (UW.trans (hf.since.as6 hb))
   ·cases hr
  ·cases hr
end
section
variable {P:Program} {names:List Tmp} {E:Env} {nt:Nat} {st st' :St} {a:Act} {w:World} {G:Gh} {I:S4} {N:Nat->Prop}
theorem tU:∀ (cs:List b6) (k i id sz lo len:Nat),eZ cs k=some (i,id,sz,lo,len)->∃ j,i=k+j/\cs[j]? =some (.E3 id sz lo len)
 |[],_,_,_,_,_,_,h=>by simp [eZ] at h
 |c::cs,k,i,id,sz,lo,len,h=>by
  cases c
  case E3 id' sz' lo' len' =>
   simp only [eZ,Option.some.injEq,Prod.mk.injEq] at h;obtain ⟨rfl,rfl,rfl,rfl,rfl⟩:=h;exact ⟨0,rfl,rfl⟩
  all_goals
   obtain ⟨j,h1,h2⟩:=tU cs (k+1) i id sz lo len (by simpa only [eZ] using h);exact ⟨j+1,by omega,by simpa using h2⟩
theorem GA {pl:Place}{v:b6}{d:Data}{x:Value}(hd:v.data? =some d)(h:VR G I N w pl v x):DR G w d x:=by
 have h2:VR G I N w pl v.G9 x:=h.G9;cases v<;>simp only [b6.data?] at hd<;>first|cases hd|skip
 all_goals simpa only [b6.G9,VR] using h2
theorem ME (b:Nat)(YO:∀ o,iX G b o):∀ (vs:List b6) (xs:List Data) (o:Nat),M9 vs=some xs->(∀ j v,vs[j]? =some v->∃ u,w.cell? (ad b (o+j))=some u/\∀ d,v.data? =some d->DR G w d u)->dR G w b o xs
 |[],xs,o,h,_=>by simp [M9] at h;subst h;simp [dR]
 |v::vs,xs,o,h,hv=>by
  unfold M9 at h;cases hd:v.data? with
  |none=>rw [hd] at h;cases h
  |some d =>
   rw [hd] at h;simp only at h;cases hds:M9 vs with
   |none=>rw [hds] at h;cases h
   |some ds =>
    rw [hds] at h;cases h;obtain ⟨u,h1,h2⟩:=hv 0 v rfl;simp only [dR];refine ⟨YO o,⟨u,by simpa using h1,h2 d hd⟩,ME b YO vs ds (o+1) hds fun j v' hj=> ?_⟩;obtain ⟨u',g1,g2⟩:=hv (j+1) v' (by simpa using hj);exact ⟨u',by rw [show o+1+j=o+(j+1) by omega];exact g1,g2⟩
theorem MR (h:Cd P names E nt st a w G I N){s:Nat}(hr:GK E.lim E.entry s st=some st'):∃ G' N',Cd P names E nt st' a w G' I N' /\W5 E st.H w G I N st'.H w G' I N' :=by
 unfold GK at hr;split at hr
 ·rename_i b hT
  split at hr
  ·rename_i cs hb
   split at hr
   ·rename_i i id sz lo len av7
    split at hr
    ·rename_i vs hvs
     split at hr
     ·rename_i xs hxs
      split at hr
      ·rename_i aK
       cases hr;obtain ⟨hbase,au3,hmay,hbb,hne⟩:=aK;obtain ⟨j,hj,hcj⟩:=tU cs 0 i id sz lo len av7;obtain rfl:i=j:=by omega
       obtain ⟨old,hold,hlen,ax9⟩:∃ old,st.H[id]? =some (.cells old)/\lo+len * sz<=old.length/\vs=(old.drop lo).take (len * sz):=by
        unfold rd at hvs;split at hvs
        ·rename_i l hl
         split at hvs
         ·rename_i hle;cases hvs;exact ⟨l,hl,hle,rfl⟩
         ·cases hvs
        ·cases hvs
       have hO:=h.H id _ hold;simp only [OR] at hO;obtain ⟨hN,c,e,f,g1,g2,g3,g4,g5⟩:=hO;have hlt:(I id).1<w.heap.size:=by
        rcases p9 (I id).1 w.heap.size with h|h
        ·exact h
        ·rw [Array.getElem?_eq_none h] at g1;cases g1
       have QW:=o4 hold;have hx:Ext G w (kU G (I id).1 .jR) w:=by
        refine ⟨rfl,rfl,rfl,k9 _,fun b' o hi=>⟨?_,rfl⟩,fun b' hb' =>⟨?_,rfl⟩,fun _ c _ _ hc=>⟨c,hc,rfl⟩⟩
        ·by_cases he:b' =(I id).1
         ·subst he;unfold iX;rw [yc];trivial
         ·unfold iX at hi ⊢;rw [O1 he];exact hi
        ·have he:b' ≠(I id).1:=by rintro rfl;rw [g2] at hb';rcases hb' with hb' |⟨_,hb'⟩<;>cases hb'
         exact O1 he
       have hkp:∀ q,aN q G w (kU G (I id).1 .jR) w:=fun q b' n hb' =>⟨by rw [O1 (by rintro rfl;rw [g2] at hb';cases hb')];exact hb',rfl⟩
       have Mj:∀ id',id' ≠id->∀ b',G b' = .obj id' ->(kU G (I id).1 .jR) b' = .obj id' /\w.heap[b']? =w.heap[b']? :=fun id' hid b' hb' =>⟨by rw [O1 (by rintro rfl;rw [g2] at hb';cases hb';exact hid rfl)];exact hb',rfl⟩
       have vr:∀ {pl:Place} {v:b6} {u:Value},VR G I N w pl v u->VR (kU G (I id).1 .jR) I (fun i=>N i/\i≠id) w pl (v.kill id) u :=
        fun hv=>VR.mono hx (fun _ _=>rfl) (fun _ h=>h) _ _ _ (Or.inr (hkp _)) (VR.kill id _ _ _ hv)
       have lZ:∀ (id' :Nat) (o' :z6),(((st.H.take E.lim.base++(st.H.drop E.lim.base).map (z6.kill id)).set id .dead).set b (.cells ((J0 id cs).set i (.d (.slice len xs)))))[id']? =some o' ->
         (id' =b/\o' = .cells ((J0 id cs).set i (.d (.slice len xs))))\/(id' ≠b/\id' =id/\o' = .dead)\/(id' ≠b/\id' ≠id/\id' <E.lim.base/\st.H[id']? =some o')\/(id' ≠b/\id' ≠id/\E.lim.base<=id' /\∃ o1,st.H[id']? =some o1/\o' =o1.kill id):=by
        intro id' o' ho'
        by_cases e1:id' =b
        ·subst e1
         rw [E0 (by simp;have:=o4 hb;omega)] at ho';cases ho';exact Or.inl ⟨rfl,rfl⟩
        ·rw [s8 (fun e=>e1 e.symm)] at ho'
         have:=hU (base:=E.lim.base) (o:= .dead) QW (id' :=id') (o' :=o') ho'
         rcases this with ⟨rfl,rfl⟩|⟨hn,hb',ho⟩|⟨hn,hb',o1,ho,rfl⟩
         ·exact Or.inr (Or.inl ⟨e1,rfl,rfl⟩)
         ·exact Or.inr (Or.inr (Or.inl ⟨e1,hn,hb',ho⟩))
         ·exact Or.inr (Or.inr (Or.inr ⟨e1,hn,hb',o1,ho,rfl⟩))
       have lU:A9 ((J0 id cs).set i (.d (.slice len xs)))<=A9 cs:=Nat.le_trans (jW _ _ _) (cB id cs);refine ⟨kU G (I id).1 .jR,fun i=>N i/\i≠id,⟨?_,?_,?_,?_,?_,?_,?_,h.size,h.idle⟩,⟨hx,?_,fun _ _ _=>rfl,?_,fun _ _ hn=>hn.1,?_⟩⟩
       ·intro s' t ht
        simp only [sH];exact vr (h.T s' t ht)
       ·intro id' o' ho'
        rcases lZ id' o' ho' with ⟨rfl,rfl⟩|⟨_,rfl,rfl⟩|⟨e1,e2,e3,e4⟩|⟨e1,e2,e3,o1,e4,rfl⟩
        ·have hk:=OR.kill id (fun e=>hne e.symm) _ (h.H id' _ hb)
         have hk:=OR.mono hx (fun _ _=>rfl) (fun _ h=>h) id' _ (fun hb' =>Mj id' (fun e=>hne e.symm) _ hb') (fun _=>hkp _) hk;simp only [z6.kill,OR] at hk ⊢;obtain ⟨k0,c2,e2,f2,k1,k2,k3,k4,k5⟩:=hk;refine ⟨k0,c2,e2,f2,k1,k2,k3,by simpa using k4,fun i' x' hx' => ?_⟩
         by_cases ei:i' =i
         ·subst ei
          have uB:i' <(J0 id cs).length:=by rw [M4];exact o4 hcj
          rw [E0 uB] at hx';cases hx';have hOb:=h.H id' _ hb;simp only [OR] at hOb;obtain ⟨_,c3,e3,f3,m1,_,_,_,m5⟩:=hOb;rw [k1] at m1;cases m1;obtain ⟨u,u1,u2⟩:=m5 i' _ hcj;refine ⟨u,u1,?_⟩;simp only [VR] at u2 ⊢;obtain ⟨_,cap,rfl,u3,_⟩:=u2;simp only [DR];refine Or.inr ⟨(I id).1,(I id).2+lo,cap,rfl,u3,ME _ (fun o=>by unfold iX;rw [yc];trivial) vs xs _ hxs fun j v hj=> ?_⟩;subst ax9;have hj2:j<len * sz/\old[lo+j]? =some v:=by
           rw [List.getElem?_take] at hj;split at hj
           ·rename_i hjl
            rw [List.getElem?_drop] at hj;exact ⟨hjl,hj⟩
           ·cases hj
          obtain ⟨y,y1,y2⟩:=g5 _ _ hj2.2;refine ⟨y,?_,fun d hd=>DR.mono hx.jR _ _ (GA hd y2)⟩;simp only [World.cell?,g1];rw [I8];simpa using y1
         ·rw [s8 (fun e=>ei e.symm)] at hx'
          exact k5 i' x' hx'
        ·simp [OR]
        ·have MV:=OR.low (n:=E.lim.base) e3 o' ((h.U6 id' o' e4).2 e3) (h.H id' o' e4)
         exact OR.mono hx (fun _ _=>rfl) (fun i hi=>⟨hi.1,by have:=hi.2;omega⟩) id' o' (fun hb' =>Mj id' e2 _ hb') (fun _=>hkp _) MV
        ·exact OR.mono hx (fun _ _=>rfl) (fun _ h=>h) id' _ (fun hb' =>Mj id' e2 _ hb') (fun _=>hkp _) (OR.kill id e2 o1 (h.H id' o1 e4))
       ·intro b' hb'
        rw [O1 (by omega)];exact h.wf b' hb'
       ·intro id' o' ho'
        rcases lZ id' o' ho' with ⟨rfl,rfl⟩|⟨_,rfl,rfl⟩|⟨e1,e2,e3,e4⟩|⟨e1,e2,e3,o1,e4,rfl⟩
        ·obtain ⟨d1,d2⟩:=h.U6 id' _ hb
         simp only [z6.N7] at d1 d2 ⊢;exact ⟨fun hs=>Nat.le_trans lU (d1 hs),fun hs=>Nat.le_trans lU (d2 hs)⟩
        ·exact ⟨fun _=>by simp [z6.N7],fun _=>by simp [z6.N7]⟩
        ·exact h.U6 id' o' e4
        ·obtain ⟨d1,d2⟩:=h.U6 id' o1 e4
         have:=zW id o1;exact ⟨fun hs=>Nat.le_trans this (d1 hs),fun hs=>Nat.le_trans this (d2 hs)⟩
       ·rw [M4];exact h.U7
       ·intro id' hn
        have:=h.cm id' hn.1;simp;omega
       ·have:=h.Dp
        simp;omega
       ·intro id' hm
        have av4 :id' ≠id:=by rintro rfl;rw [hmay] at hm;cases hm
        exact ⟨Mj id' av4,fun off=>hkp _⟩
       ·intro id' hlt' hn
        exact ⟨hn,by omega⟩
       ·intro id' o' hlt' ho'
        rcases lZ id' o' ho' with ⟨rfl,rfl⟩|⟨_,rfl,rfl⟩|⟨e1,e2,e3,e4⟩|⟨e1,e2,e3,o1,e4,rfl⟩
        ·omega
        ·exact Or.inl (by simp [z6.N7])
        ·exact Or.inr ⟨o',e4,k9 _⟩
        ·omega
      ·cases hr
     ·cases hr
    ·cases hr
   ·cases hr
  ·cases hr
 ·cases hr
end
end Go.z7


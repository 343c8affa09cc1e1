/- Texts A24 A25 A26 A27 A28 A29 A30 A30b (made short by a program) -/
import Derived.Test.YtkmclibmmlgogaaGreatB2
import Derived.Orders
set_option linter.unusedVariables false
set_option linter.unusedSimpArgs false
open Bool renaming and_eq_true → b5, false_eq_true → b7, not_eq_true' → j9
open List renaming getElem?_append_left → p4, getElem?_append_right → p9, getElem?_eq_getElem → o7, getElem?_eq_none → q6, getElem?_set_ne → q9, getElem?_set_self → C9, length_cons → y8, mem_cons → B8, replicate → c9
open Nat renaming add_assoc → H9, le_refl → l5, lt_or_ge → p7
open Option renaming map_some → E6
namespace Go.u7
section
variable {X:Cx} {j4:List n8} {E:Env} {nt:Nat} {S:Nat->Prop} {st P3 Y9:E1} {a:Act} {w w' :World} {G G' :Gh} {I I' :Q9} {N N' :Nat->Prop} {D:Nat->Bool}
theorem qw (hR:Rg X j4 E nt S st a w G I N)(hD:∀ j,D j=true->S j){o:Oper}{g:Option (Nat×Bool)}(hc:kO X D o.guard g=true){b:Bool}(hw:u0 st.L g=some b):Region.wanted o (yielded X.ops a.tmps)=b:=by
 unfold Region.wanted;cases hg:o.guard with
 |none =>
  rw [hg] at hc;cases g with
  |none=>simp [u0] at hw;simp [<- hw]
  |some p=>simp [kO] at hc
 |some p =>
  obtain ⟨g0,want⟩:=p;rw [hg] at hc;cases g with
  |none=>simp [kO] at hc
  |some q =>
   obtain ⟨g1,aG4⟩:=q;simp only [kO,b5,beq_iff_eq] at hc;obtain ⟨⟨⟨rfl,rfl⟩,hDg⟩,rL⟩:=hc;cases hd:(X.ops[g0]?).bind (·.dst) with
   |none=>rw [hd] at rL;cases rL
   |some d =>
    rw [hd] at rL;simp only [j9] at rL;have hv:=hR.ri.L g0 (hD g0 hDg) d hd rL;have hy:yielded X.ops a.tmps g0=(match a.tmps[d]? with|some (.bool b)=>some b|_=>none):=by
     unfold yielded;rw [hd];rfl
    simp only [hy];simp only [u0] at hw;split at hw
    ·rename_i c hl
     cases hw;rw [W0 hl] at hv;simp only [VR,DR] at hv;have:a.tmps[d]? =some (.bool c):=by
      cases ht:a.tmps[d]? with
      |none=>simp [ht,undef] at hv
      |some z=>simp [ht] at hv;rw [hv]
     simp only [this];cases c<;>cases want<;>rfl
    ·rename_i hl
     cases hw;rw [W0 hl] at hv;simp only [VR] at hv;obtain ⟨cs,h1,_⟩:=hv;have:(match a.tmps[d]? with|some (.bool b)=>some b|_=>none)=none:=by
      cases ht:a.tmps[d]? with
      |none=>rfl
      |some z =>
       simp [ht] at h1;rw [h1]
     rw [this];rfl
    ·cases hw
structure VX (X:Cx)(j4:List n8)(E:Env)(nt:Nat)(S:Nat->Prop)(st:E1)(w:World)(G:Gh)(I:Q9)(N:Nat->Prop)(k:Nat)(s5:Option Nat)(Y9:E1)(a' :Act)(w' :World)(G' :Gh)(I' :Q9)(N' :Nat->Prop):Prop where
 rg:Rg X j4 E nt (fun j=>S j\/j=k) Y9 a' w' G' I' N'
 since:V5 E st.H w G I N Y9.H w' G' I' N'
 len:st.H.length<=Y9.H.length
 old:∀ id,id<st.H.length->N' id->N id\/s5=some id
theorem Dy (hD:∀ j,D j=true->S j){x:Operand}{y:r8}(hc:X.ck D x y=true):sB X S y:=by
 unfold Cx.ck at hc;split at hc
 ·exact ⟨_,by simpa using hc⟩
 ·simp only [b5,beq_iff_eq,j9] at hc
  exact ⟨hD _ hc.1.1,_,hc.1.2,hc.2⟩
 ·trivial
 ·trivial
 ·trivial
 ·cases hc
theorem Dk (hD:∀ j,D j=true->S j){o:Oper}{n:Option Nat}{y:r8}(hc:ah X.P (X.ck D) o (.load n y)=true):sB X S y:=by
 simp only [ah] at hc;obtain ⟨dst,bt,ty,pos,after,guard⟩:=o;cases bt<;>simp [A0] at hc;exact Dy hD hc.1
theorem Rg.after (hst:Stat X nt)(hR:Rg X j4 E nt S st a w G I N)(hD:∀ j,D j=true->S j){k:Nat}(hk:¬ S k)(Z1:k<st.L.length){o:Oper}(ho:X.ops[k]? =some o){i:n8}(hi:j4[k]? =some i)(hc:nW X D o i=true)
  {s5:Option Nat} (hne:∀ i,s5=some i->E.entry<=i) (htr:Tr N k st P3) (hts:s4 s5 P3 k i.dst=some Y9) {x:Value} {ds:List Deferred} (hds:ds=a.defers\/∃ d,ds=d::a.defers/\Cn X.P E.idle d)
  (hf:Y9.L[k]? =some (.tuple [])\/iK X st a w I i.op x) (hS:ud s5 X E.lim S E.entry st a w G I N P3 k x w' G' I' N') :
  ∃ VY,VX X j4 E nt S st w G I N k s5 Y9 ({ a with defers:=ds }.put o.dst x) w' VY I' N' :=by
 simp only [nW,b5] at hc;obtain ⟨⟨hc1,kj⟩,TC⟩:=hc;have hm:=hS.mid;obtain ⟨G2,e1,e2,e3,e4⟩:=RI.after (l:=E.lim) (a:={ a with defers:=ds }) hst hR.size (by rw [htr.U0];exact hR.U0) hk (by rw [htr.fV];exact Z1) ho kj hm.ri.defers hm.val hts;have hpv:=PV.after (w' :=w') (I' :=I') (x:=x) (ds:=ds) hst hR hk ho hi kj (fun y hy=>Dk hD (by rw [hy] at hc1;exact hc1)) htr hts (fun id hN ht=>by
  obtain ⟨h1,h2⟩:=hm.ko id hN ht;exact ⟨h1,fun b hb=>(h2 b hb).2⟩) hf
 refine ⟨G2,⟨e4,hpv,?_,?_,?_,?_,?_,?_,?_⟩,⟨?_,?_,?_,?_,?_,?_⟩,?_,hS.old⟩
 ·intro j ai y hj hai hop
  have lift:sB X S y->sB X (fun j=>S j\/j=k) y:=by
   intro h;cases y with
   |loc m=>exact ⟨Or.inl h.1,h.2⟩
   |slot s=>exact h
   |const v=>trivial
  rcases hj with hj|rfl
  ·exact lift (hR.cl j ai y hj hai hop)
  ·rw [hi] at hai;cases hai
   exact lift (Dk hD (by rw [hop] at hc1;exact hc1))
 ·rw [Eo hts,htr.U0];exact hR.U0
 ·rw [En hts,htr.fV];exact hR.fV
 ·intro id hid;rw [mg hts];exact hS.bO id hid
 ·rw [mg hts];exact Nat.le_trans hR.CG hm.len
 ·rw [DW];exact hR.size
 ·rw [jE]
  intro d hd
  rcases hds with rfl|⟨d',rfl,hid⟩
  ·exact hR.idle d hd
  ·simp only [B8] at hd
   rcases hd with rfl|hd
   ·exact hid
   ·exact hR.idle d hd
 ·exact hm.ext.trans e1
 ·exact hm.dZ.trans fun id _=>⟨fun b hb=>⟨e3 b id hb,rfl⟩,e2 id⟩
 ·intro id hid hN;exact hm.inj id hid hN
 ·intro id _ hN;exact hm.mono id hN
 ·intro id hid hN
  rcases hS.old id (Nat.lt_of_lt_of_le hid hR.CG) hN with h1|h1
  ·exact h1
  ·have:=hne id h1;omega
 ·intro id o' hb ho';rw [mg hts] at ho';exact hm.hle id o' hb ho'
 ·rw [mg hts];exact hm.len
theorem tj (hst:Stat X nt)(Ck:kK X.P E.cf E.prom)(dx:∀ f args H lm r,E.cf f args H lm=some r->T3 X.P f=true)(hs:E.lim.strict<=E.lim.base)(TB:E.lim.base<=E.entry)(hR:Rg X j4 E nt S st a w G I N)
  (hD:∀ j,D j=true->S j) {k:Nat} (hk:¬ S k) {o:Oper} (ho:X.ops[k]? =some o) {i:n8} (hi:j4[k]? =some i) (hc:nW X D o i=true) {s5:Option Nat} (hid:i.op.y3=true->Cm E.lim st N s5) (hne:∀ i,s5=some i->E.entry<=i/\i<st.H.length)
  {rs:List Nat} (he:x9 E j4 s5 k i st=some (Y9,rs)) (K:Act->World->Prop) (Q:Exit->Act->World->Prop)
  (hK:∀ a' w' G' I' N',VX X j4 E nt S st w G I N k s5 Y9 a' w' G' I' N' ->K a' w'):wpOp X.P X.ops Q k K a w:=by
 have Z1:k<st.L.length:=by rw [hR.fV];exact n9 hi
 have pH :=hc;simp only [nW,b5] at pH;obtain ⟨⟨hc1,kj⟩,TC⟩:=pH;unfold wpOp;simp only [ho];unfold x9 at he;split at he
 ·rename_i hw
  rw [if_pos (qw hR hD TC hw)];split at he
  ·rename_i P3 Zc hW
   split at he
   ·rename_i av7 hts
    cases he;refine Or.inl ?_;have hrun:=Ee (P:=X.P) Ck dx rfl hR.ri hR.pv hR.U0 hR.bO (Nat.le_trans TB hR.CG) hs hD hk Z1 hc1 (s5:=s5) hid hW;refine hrun K Q ?_;rintro a' w' ⟨x,ds,G',I',N',hF,rfl,hds,hS⟩;have htr:Tr N k st P3:=Tr.C5 hR.bO (fun i h=>(hne i h).2) (fun ha=>(hid ha).new) hW;obtain ⟨VY,sP⟩:=Rg.after hst hR hD hk Z1 ho hi hc (fun i h=>(hne i h).1) htr hts hds (Or.inr hF) hS;exact hK _ _ _ _ _ sP
   ·cases he
  ·cases he
 ·rename_i hw
  rw [if_neg (by rw [qw hR hD TC hw];simp)];split at he
  ·rename_i av7 hts
   cases he;have htr:Tr N k st (put st k (.tuple [])):=Tr.put _;have hS:ud s5 X E.lim S E.entry st a w G I N (put st k (.tuple [])) k undef w G I N :=
    ud.jh hR.bO (bX.same hR.ri hk Z1 E.entry (by simp only [VR];exact ⟨#[],rfl,by simp [F1]⟩))
   have hL:Y9.L[k]? =some (.tuple []):=by
    rcases P7 hts with ⟨_,rfl⟩|⟨s,cV,_,_,rfl,_⟩
    ·simp [put,Z1]
    ·simp [C6,put,Z1]
   obtain ⟨VY,sP⟩:=Rg.after hst hR hD hk Z1 ho hi hc (fun i h=>(hne i h).1) htr hts (Or.inl rfl) (Or.inl hL) hS;exact hK _ _ _ _ _ sP
  ·cases he
 ·cases he
def jD (X:Cx):List n8->Nat->Bool
 |[],k=>X.ops.size==k
 |i::is,k=>(match X.ops[k]? with
  |some o=>nW X (fun j=>decide (j<k)) o i
  |none=>false)&&jD X is (k+1)
structure Fin (X:Cx)(j4:List n8)(E:Env)(nt:Nat)(st0:E1)(w:World)(G:Gh)(I:Q9)(N:Nat->Prop)(Y9:E1)(a' :Act)(w' :World)(G' :Gh)(I' :Q9)(N' :Nat->Prop):Prop where
 rg:Rg X j4 E nt (fun j=>j<j4.length) Y9 a' w' G' I' N'
 since:V5 E st0.H w G I N Y9.H w' G' I' N'
theorem Rg.congr {S' :Nat->Prop}(h:Rg X j4 E nt S st a w G I N)(hS:∀ j,S j↔S' j):Rg X j4 E nt S' st a w G I N:=by
 have:S=S' :=funext fun j=>propext (hS j)
 subst this;exact h
theorem Bx (hst:Stat X nt)(Ck:kK X.P E.cf E.prom)(dx:∀ f args H lm r,E.cf f args H lm=some r->T3 X.P f=true)(hs:E.lim.strict<=E.lim.base)(TB:E.lim.base<=E.entry)(Q:Exit->Act->World->Prop) :
  ∀ (is:List n8) (k:Nat),j4.drop k=is->k<=j4.length->jD X is k=true->∀ (st:E1) (a:Act) (w:World) (G:Gh) (I:Q9) (N:Nat->Prop) (Y9:E1),Rg X j4 E nt (fun j=>j<k) st a w G I N->bQ E j4 is k st=some Y9 ->
   (∀ a' w' G' I' N',Fin X j4 E nt st w G I N Y9 a' w' G' I' N' ->Q .normal a' w')->wpOps X.P X.ops Q (List.range' k is.length) a w:=by
 intro is
 induction is with
 |nil =>
  intro k hd hk _ st a w G I N Y9 hR hrun hQ;simp only [bQ] at hrun;cases hrun;have Z1:j4.length=k:=by
   have:=congrArg List.length hd;simp at this;omega
  simp only [List.length_nil,List.range'_zero,wpOps];exact hQ _ _ _ _ _ ⟨by rw [Z1];exact hR,V5.refl _ _ _ _ _ _⟩
 |cons i is ih =>
  intro k hd hk hc st a w G I N Y9 hR hrun hQ;have hi:j4[k]? =some i:=by
   have:(j4.drop k)[0]? =some i:=by rw [hd];rfl
   rw [List.getElem?_drop] at this;simpa using this
  have hd' :j4.drop (k+1)=is:=by
   have:=congrArg (List.drop 1) hd;rw [List.drop_drop] at this;simpa using this
  simp only [jD,b5] at hc;obtain ⟨hc1,kj⟩:=hc;simp only [bQ] at hrun;split at hrun
  ·rename_i P3 rs hstep
   cases ho:X.ops[k]? with
   |none=>rw [ho] at hc1;cases hc1
   |some o =>
    rw [ho] at hc1;simp only [y8,List.range'_succ];rw [wpOps_cons];refine tj hst Ck dx hs TB hR (D:=fun j=>decide (j<k)) (fun j hj=>by simpa using hj) (Nat.lt_irrefl k) ho hi hc1 (s5:=none) (fun _=> ?_) (fun i h=>by cases h) hstep _ _ ?_
    ·exact ⟨(fun hN=>by have:=hR.bO _ hN;simp [newId] at this),(fun i h=>by cases h),by simp only [newId,Option.getD_none];exact Nat.le_trans TB hR.CG,by simp only [newId,Option.getD_none];exact Nat.le_trans hs (Nat.le_trans TB hR.CG)⟩
    ·intro a' w' G' I' N' sP
     refine ih (k+1) hd' (n9 hi) kj P3 a' w' G' I' N' Y9 (sP.rg.congr fun j=>by omega) hrun ?_;intro a'' w'' VY I'' N'' rM;exact hQ _ _ _ _ _ ⟨rM.rg,sP.since.trans rM.since⟩
  ·cases hrun
end
def r8.di:r8->List Nat
 | .loc j=>[j]
 |_=>[]
def r8.slots:r8->List Nat
 | .slot s=>[s]
 |_=>[]
def s9.S2:s9->List r8
 | .M9 x=>[x]
 | .pick c a b=>[c,a,b]
 | .alloc _=>[]
 | .box x=>[x]
 | .build _ parts=>parts.map (·.2.2)
 | .y6 _ _ _ parts _=>parts.map (·.2.2)
 | .load _ x=>[x]
 | .store _ a x=>[a,x]
 | .Y5 x=>[x]
 | .bin _ x y=>[x,y]
 | .un _ x=>[x]
 | .Bl _ x=>[x]
 | .GD _ x=>[x]
 | .o8 _ x y=>[x,y]
 | .Lw _ _ x y=>[x,y]
 | .ki _ x=>[x]
 | .nY x=>[x]
 | .AO x=>[x]
 | .iq x=>[x]
 | .oE x lo hi=>x::(lo.toList++hi.toList)
 | .aE _ x lo hi=>x::(lo.toList++hi.toList)
 | .off _ x=>[x]
 | .B7 _ x i=>[x,i]
 | .fy _ _ x i=>[x,i]
 | .A8 x i=>[x,i]
 | .extract x _=>[x]
 | .len x=>[x]
 | .U0 x=>[x]
 | .Bh x=>[x]
 | .append _ _ _ x y=>[x,y]
 | .eY _ xs=>xs
 | .clear _ _ x=>[x]
 | .X8 _ first caps=>first++caps
 | .call _ xs=>xs
 | .Z3 x xs=>x::xs
 | .makeMap=>[]
 | .lookup _ _ _ m k=>[m,k]
 | .cQ _ m k v=>[m,k,v]
 | .defer x=>[x]
 | .bad=>[]
def fm (j4:List n8)(i:n8):List Nat :=
 (i.op.S2.flatMap r8.di)++(match i.guard with|some (g,_)=>[g]|none=>[]) ++
 (match i.op with
  | .append _ _ _ (.loc j) _=>(match j4[j]? with|some a=>a.op.S2.flatMap r8.di|none=>[])
  |_=>[])
def gV (i:n8):List Nat:=i.op.S2.flatMap r8.slots
theorem S0 {α β:Type}{f g:α->β}{l:List α}(h:∀ x,x ∈ l->f x=g x):l.map f=l.map g:=List.map_congr_left h
theorem gO {ρ ρ' :r8->b6}{ps:List (Nat×Nat×r8)}(h:∀ x,x ∈ ps.map (·.2.2)->ρ' x=ρ x):(ps.map fun (o,s,x)=>(o,s,ρ' x))=ps.map fun (o,s,x)=>(o,s,ρ x):=by
 refine List.map_congr_left ?_;rintro ⟨o,s,x⟩ hm;simp only;rw [h x (List.mem_map.2 ⟨(o,s,x),hm,rfl⟩)]
theorem gE {ρ ρ' :r8->b6}{d:Nat}{o:Option r8}(h:∀ x,x ∈ o.toList->ρ' x=ρ x):Q7 ρ' d o=Q7 ρ d o:=by
 cases o with
 |none=>rfl
 |some x=>simp only [Q7];rw [h x (by simp)]
theorem qd {ρ ρ' :r8->b6}{H:o6}{op:s9}(h:∀ x,x ∈ op.S2->ρ' x=ρ x):k9 ρ' H op=k9 ρ H op:=by
 cases op<;>simp only [s9.S2] at h
 case build=>simp only [k9,gO h]
 case y6 sz len zero parts ob=>cases ob<;>simp only [k9,gO h]
 case eY isMax xs=>simp only [k9,S0 h]
 case X8 f first caps =>
  simp only [k9];rw [S0 (l:=first) fun x hx=>h x (by simp [hx]),S0 (l:=caps) fun x hx=>h x (by simp [hx])]
 case oE x lo hi =>
  have h1:=h x (by simp);have h2:∀ d,Q7 ρ' d lo=Q7 ρ d lo:=fun d=>gE fun y hy=>h y (by simp at hy ⊢;simp [hy])
  have h3:∀ d,Q7 ρ' d hi=Q7 ρ d hi:=fun d=>gE fun y hy=>h y (by simp at hy ⊢;simp [hy])
  simp only [k9,h1,h2,h3]
 case aE sz x lo hi =>
  have h1:=h x (by simp);have h2:∀ d,Q7 ρ' d lo=Q7 ρ d lo:=fun d=>gE fun y hy=>h y (by simp at hy ⊢;simp [hy])
  have h3:∀ d,Q7 ρ' d hi=Q7 ρ d hi:=fun d=>gE fun y hy=>h y (by simp at hy ⊢;simp [hy])
  simp only [k9,h1,h2,h3]
 case load n x=>cases n<;>simp only [k9,h x (by simp)]
 case pick c a b=>simp only [k9,h c (by simp),h a (by simp),h b (by simp)]
 case bin b x y=>simp only [k9,h x (by simp),h y (by simp)]
 case o8 b x y=>simp only [k9,h x (by simp),h y (by simp)]
 case Lw b ks x y=>simp only [k9,h x (by simp),h y (by simp)]
 case B7 s x y=>simp only [k9,h x (by simp),h y (by simp)]
 case fy n s x y=>simp only [k9,h x (by simp),h y (by simp)]
 case A8 x y=>simp only [k9,h x (by simp),h y (by simp)]
 case lookup kk z ok x y=>simp only [k9,h x (by simp),h y (by simp)]
 case Y5 x=>simp only [k9,h x (by simp)]
 case un b x=>simp only [k9,h x (by simp)]
 case Bl b x=>simp only [k9,h x (by simp)]
 case GD b x=>simp only [k9,h x (by simp)]
 case ki k x=>simp only [k9,h x (by simp)]
 case nY x=>simp only [k9,h x (by simp)]
 case AO x=>simp only [k9,h x (by simp)]
 case iq x=>simp only [k9,h x (by simp)]
 case off k x=>simp only [k9,h x (by simp)]
 case extract x i=>simp only [k9,h x (by simp)]
 case len x=>simp only [k9,h x (by simp)]
 case U0 x=>simp only [k9,h x (by simp)]
 case Bh x=>simp only [k9,h x (by simp)]
 all_goals rfl
def N7:Option u5->Option u5->Prop
 |some (.cells l),some (.cells l')=>l.map b6.F2=l'.map b6.F2
 |a,b=>a=b
theorem N7.refl (o:Option u5):N7 o o:=by
 cases o with
 |none=>rfl
 |some o=>cases o<;>simp [N7]
theorem N7.symm {a b:Option u5}(h:N7 a b):N7 b a:=by
 unfold N7 at h ⊢;split at h
 ·exact h.symm
 ·rename_i hne
  split
  ·rename_i l l'
   exact absurd rfl (hne l' l rfl)
  ·exact h.symm
theorem N7.trans {a b c:Option u5}(h:N7 a b)(k:N7 b c):N7 a c:=by
 cases a with
 |none =>
  have:b=none:=by
   cases b with
   |none=>rfl
   |some o=>simp [N7] at h
  subst this;exact k
 |some oa =>
  cases b with
  |none=>simp [N7] at h
  |some ob =>
   cases c with
   |none=>simp [N7] at k
   |some oc =>
    cases oa<;>cases ob<;>cases oc<;>simp_all [N7]
theorem HB (v:b6):v.F2.F2=v.F2:=by cases v<;>rfl
theorem SG {H H' :o6}{id off n:Nat}(h:N7 H'[id]? H[id]?){vs:List b6}(hr:rd H id off n=some vs):∃ vs',rd H' id off n=some vs' /\vs'.map b6.F2=vs.map b6.F2:=by
 unfold rd at hr ⊢;split at hr
 ·rename_i l hl
  split at hr
  ·rename_i hlen
   cases hr;rw [hl] at h;cases h' :H'[id]? with
   |none=>rw [h'] at h;simp [N7] at h
   |some o =>
    rw [h'] at h;cases o with
    |cells l' =>
     have h:l'.map b6.F2=l.map b6.F2:=by simpa [N7] using h
     have XE:l'.length=l.length:=by simpa using congrArg List.length h
     refine ⟨(l'.drop off).take n,by simp [XE,hlen],?_⟩;have:=congrArg (fun x=>(x.drop off).take n) h;simpa [List.map_drop,List.map_take] using this
    |dead=>simp [N7] at h
    |map es=>simp [N7] at h
  ·cases hr
 ·cases hr
theorem DD {ρ:r8->b6}{H H' :o6}{op:s9}{v:b6}{rs:List Nat}(h:k9 ρ H op=some (v,rs))(hr:∀ id,id ∈ rs->N7 H'[id]? H[id]?):k9 ρ H' op=some (v,rs):=by
 cases op
 case load n x =>
  cases n with
  |none =>
   simp only [k9] at h ⊢;split at h
   ·rename_i id off hp
    split at h
    ·rename_i u hu
     cases h;obtain ⟨vs',h1,h2⟩:=SG (hr id (by simp)) hu;obtain ⟨u',rfl⟩:∃ u',vs' =[u']:=by
      have:=congrArg List.length h2;simp at this;exact List.length_eq_one_iff.1 this
     simp at h2;simp only [h1,h2]
    ·cases h
   ·exact h
   ·cases h
  |some n =>
   simp only [k9] at h ⊢;split at h
   ·rename_i id off hp
    split at h
    ·rename_i us hu
     cases h;obtain ⟨vs',h1,h2⟩:=SG (hr id (by simp)) hu;simp only [h1,h2]
    ·cases h
   ·exact h
   ·cases h
 case Bh x =>
  simp only [k9] at h ⊢;split at h
  ·exact h
  ·rename_i id hp
   split at h
   ·rename_i es RU
    cases h;have:=hr id (by simp);rw [RU] at this;have h' :H'[id]? =some (.map es):=by
     cases h' :H'[id]? with
     |none=>rw [h'] at this;simp [N7] at this
     |some o=>rw [h'] at this;cases o<;>simp_all [N7]
    simp only [h']
   ·cases h
  ·cases h
 case lookup kk zero ok m k =>
  simp only [k9] at h ⊢;split at h
  ·rename_i id key hp hq
   split at h
   ·rename_i es RU
    split at h
    ·rename_i r hf
     cases h;have:=hr id (by simp);rw [RU] at this;have h' :H'[id]? =some (.map es):=by
      cases h' :H'[id]? with
      |none=>rw [h'] at this;simp [N7] at this
      |some o=>rw [h'] at this;cases o<;>simp_all [N7]
     simp only [h',hf]
    ·cases h
   ·cases h
  ·exact h
  ·cases h
 case y6 sz len zero parts ob=>cases ob<;>exact h
 all_goals exact h
structure Still (k:Nat)(dst s5:Option Nat)(d:List Touch)(st st' :E1):Prop where
 L:∀ m,m≠k->(st'.L.getD m .any).F2=(st.L.getD m .any).F2
 Gb:∀ m,m≠k->∀ b,st'.L[m]? =some (b6.d (.bool b))↔st.L[m]? =some (b6.d (.bool b))
 Gt:∀ m,m≠k->(st'.L[m]? =some (b6.tuple [])↔st.L[m]? =some (b6.tuple []))
 T:∀ s,dst≠some s->(st'.T.getD s .any).F2=(st.T.getD s .any).F2
 n5:st'.n5=d++st.n5
 H:∀ id:Nat,d.any (Touch.J1 id)=false->s5≠some id->N7 st'.H[id]? st.H[id]?
 Gx:st.H.length<=st'.H.length
 fV:st'.L.length=st.L.length
 U0:st'.T.length=st.T.length
section
variable {k:Nat} {dst s5:Option Nat} {d d1 d2:List Touch} {st P3 st' :E1}
theorem Still.refl (k:Nat)(dst s5:Option Nat)(st:E1):Still k dst s5 [] st st :=
 ⟨fun _ _=>rfl,fun _ _ _=>Iff.rfl,fun _ _=>Iff.rfl,fun _ _=>rfl,rfl,fun _ _ _=>N7.refl _,l5 _,rfl,rfl⟩
theorem Still.trans (h:Still k dst s5 d1 st P3)(g:Still k dst s5 d2 P3 st'):Still k dst s5 (d2++d1) st st' where
 L m hm:=(g.L m hm).trans (h.L m hm)
 Gb m hm b:=(g.Gb m hm b).trans (h.Gb m hm b)
 Gt m hm:=(g.Gt m hm).trans (h.Gt m hm)
 T s hs:=(g.T s hs).trans (h.T s hs)
 n5:=by rw [g.n5,h.n5,List.append_assoc]
 H id hd hn:=by
  simp only [List.any_append,Bool.or_eq_false_iff] at hd;exact (g.H id hd.1 hn).trans (h.H id hd.2 hn)
 Gx:=Nat.le_trans h.Gx g.Gx
 fV:=g.fV.trans h.fV
 U0:=g.U0.trans h.U0
theorem Still.put (v:b6):Still k dst s5 [] st (put st k v) where
 L m hm:=by simp only [u7.put];rw [F3 _ _ _ _ _ (fun e=>hm e.symm)]
 Gb m hm b:=by simp only [u7.put];rw [q9 (fun e=>hm e.symm)]
 Gt m hm:=by simp only [u7.put];rw [q9 (fun e=>hm e.symm)]
 T _ _:=rfl
 n5:=rfl
 H _ _ _:=N7.refl _
 Gx:=l5 _
 fV:=by simp [u7.put]
 U0:=rfl
theorem Still.A5 {j z n:Nat}{c:List Data}(hj:st.L[j]? =some (.own z n c)):Still k dst s5 [] st { st with L:=st.L.set j (.d (.slice n c)) } where
 L m _:=by
  simp only
  by_cases e:j=m
  ·subst e
   rw [K6 _ _ _ _ (n9 hj),W0 hj];rfl
  ·rw [F3 _ _ _ _ _ e]
 Gb m _ b:=by
  simp only
  by_cases e:j=m
  ·subst e
   rw [C9 (n9 hj),hj];simp
  ·rw [q9 e]
 Gt m _:=by
  simp only
  by_cases e:j=m
  ·subst e
   rw [C9 (n9 hj),hj];simp
  ·rw [q9 e]
 T _ _:=rfl
 n5:=rfl
 H _ _ _:=N7.refl _
 Gx:=l5 _
 fV:=by simp
 U0:=rfl
theorem Still.C6 (y:r8):Still k dst s5 [] st (C6 st y).2:=by
 cases y with
 |loc j =>
  simp only [u7.C6];split
  ·rename_i hj
   exact Still.A5 hj
  ·exact Still.refl _ _ _ _
 |slot s=>exact Still.refl _ _ _ _
 |const v=>exact Still.refl _ _ _ _
theorem Still.heap {H' :o6}(h2:∀ id:Nat,d.any (Touch.J1 id)=false->s5≠some id->N7 H'[id]? st.H[id]?)(hl:st.H.length<=H'.length):Still k dst s5 d st { st with H:=H',n5:=d++st.n5 } :=
 ⟨fun _ _=>rfl,fun _ _ _=>Iff.rfl,fun _ _=>Iff.rfl,fun _ _=>rfl,rfl,h2,hl,rfl,rfl⟩
theorem Still.newObj {i:Nat}(o:u5):Still k dst (some i) [] st (I4 st (some i) o) :=
 ⟨fun _ _=>rfl,fun _ _ _=>Iff.rfl,fun _ _=>Iff.rfl,fun _ _=>rfl,rfl,fun id _ hn=>by
  simp only [I4];rw [q9 (fun e=>hn (by rw [e]))];exact N7.refl _,(by simp [I4]),rfl,rfl⟩
theorem Still.U2 {l:F9}{sz len:Nat}{cells:List Data}{op:s9}(h:U2 l st sz op=some (len,cells,st')):∃ d,Still k dst s5 d st st' :=by
 unfold u7.U2 at h;split at h
 ·rename_i s
  split at h
  ·cases h
  ·split at h
   ·rename_i hs
    split at h
    ·cases h
     refine ⟨[.slot s],fun _ _=>rfl,fun _ _ _=>Iff.rfl,fun _ _=>Iff.rfl,fun s' _=> ?_,rfl,fun _ _ _=>N7.refl _,l5 _,rfl,by simp⟩;simp only
     by_cases e:s=s'
     ·subst e
      rw [K6 _ _ _ _ (n9 hs),W0 hs];rfl
     ·rw [F3 _ _ _ _ _ e]
    ·cases h
   ·cases h
 ·split at h
  ·rename_i id off Mw
   split at h
   ·cases h
   ·split at h
    ·rename_i cs hcs
     split at h
     ·rename_i Qh
      split at h
      ·cases h
       refine ⟨[.cell id off],Still.heap (fun id' _ _=> ?_) (by simp)⟩
       by_cases he:id=id'
       ·subst he
        rw [C9 (n9 hcs),hcs];simp only [N7];apply List.ext_getElem?;intro n;simp only [List.getElem?_map]
        by_cases e:off=n
        ·subst e
         rw [C9 (n9 Qh),Qh];rfl
        ·rw [q9 e]
       ·rw [q9 he];exact N7.refl _
      ·cases h
     ·cases h
    ·cases h
  ·cases h
 ·cases h
theorem Still.O4 {l:F9}{j4:List n8}{sz len:Nat}{cells:List Data}{y:r8}(h:O4 l j4 st sz y=some (len,cells,st')):∃ d,Still k dst s5 d st st' :=by
 unfold u7.O4 at h;split at h
 ·split at h
  ·cases h;exact ⟨[],Still.refl _ _ _ _⟩
  ·cases h
 ·cases h
 ·cases h
 ·split at h
  ·rename_i hj
   split at h
   ·cases h
    exact ⟨[],Still.A5 hj⟩
   ·cases h
  ·split at h
   ·exact Still.U2 h
   ·cases h
  ·cases h
theorem Still.A6 {E:Env}{f:FuncId}{args:List b6}(h:A6 E k f args st=some st'):∃ d,Still k dst none d st st' :=by
 unfold u7.A6 at h;split at h
 ·split at h
  ·rename_i v H1 _
   split at h
   ·rename_i hlen
    cases h;refine ⟨[]++[.below H1.length],Still.trans (Still.heap (fun id hd _=> ?_) hlen) (Still.put _)⟩;simp [Touch.J1] at hd;rw [q6 (by omega),q6 (by omega)];exact N7.refl _
   ·cases h
  ·cases h
 ·simp only at h
  generalize G5 st.H E.lim.strict 8 (y9 args)=n at h;generalize (args.headD .any).M3=m at h;split at h
  ·rename_i ak
   split at h
   ·split at h
    ·split at h
     ·rename_i hlen
      cases h;refine ⟨[]++[.below n],Still.trans (Still.heap (fun id hd _=> ?_) (by simp;omega)) (Still.put _)⟩;simp [Touch.J1] at hd;rw [p9 (by omega),List.getElem?_drop,hlen,show n+(id - n)=id from by omega];exact N7.refl _
     ·cases h
    ·cases h
   ·split at h
    ·split at h
     ·cases h
      exact ⟨_,Still.put _⟩
     ·cases h
    ·cases h
   ·split at h
    ·split at h
     ·rename_i H1 _ hlen
      cases h;refine ⟨[]++[.below m],Still.trans (Still.heap (fun id hd _=> ?_) (by simp;omega)) (Still.put _)⟩;simp [Touch.J1] at hd;rw [p9 (by simp;omega),List.getElem?_drop,show m+(id - (List.take m H1).length)=id from by simp;omega];exact N7.refl _
     ·cases h
    ·cases h
  ·cases h
theorem Ov {H H' :o6}{id off:Nat}{vs:List b6}(h:wr H id off vs=some H'):H'.length=H.length:=by
 unfold wr at h;split at h
 ·split at h
  ·cases h;simp
  ·cases h
 ·cases h
theorem Still.O8 {E:Env}{n:Nat}{a:b6}{x:r8}(h:O8 E k n st a x=some st'):∃ d,Still k dst none d st st' :=by
 unfold u7.O8 at h;split at h
 ·rename_i id off
  split at h
  ·split at h
   ·split at h
    ·rename_i H' hw
     cases h;refine ⟨[]++([.obj id]++[]),Still.trans (Still.trans (Still.C6 x) (Still.heap (fun id' hd _=> ?_) (by rw [Ov hw];exact l5 _))) (Still.put _)⟩;rw [qx hw ?_]
     ·exact N7.refl _
     ·rintro rfl
      simp [Touch.J1] at hd
    ·cases h
   ·cases h
  ·cases h
 ·cases h
theorem Still.V9 {E:Env}{sz:Nat}{zero:List b6}{a:b6}(h:V9 E k sz zero st a=some st'):∃ d,Still k dst none d st st' :=by
 unfold u7.V9 at h;split at h
 ·rename_i id z lo len
  split at h
  ·split at h
   ·rename_i H' hw
    cases h;refine ⟨[]++[.obj id],Still.trans (Still.heap (fun id' hd _=> ?_) (by rw [Ov hw];exact l5 _)) (Still.put _)⟩;rw [qx hw ?_]
    ·exact N7.refl _
    ·rintro rfl
     simp [Touch.J1] at hd
   ·cases h
  ·cases h
 ·cases h
  exact ⟨_,Still.put _⟩
 ·cases h
theorem Still.R6 {E:Env}{kk:CK}{m key v:b6}(h:R6 E k kk st m key v=some st'):∃ d,Still k dst none d st st' :=by
 unfold u7.R6 at h;split at h
 ·rename_i id kd
  split at h
  ·split at h
   ·split at h
    ·split at h
     ·cases h
      refine ⟨[]++[.obj id],Still.trans (Still.heap (fun id' hd _=> ?_) (by simp)) (Still.put _)⟩;rw [q9]
      ·exact N7.refl _
      ·rintro rfl
       simp [Touch.J1] at hd
     ·cases h
    ·cases h
   ·cases h
  ·cases h
 ·cases h
theorem Still.E2 {E:Env}{j4:List n8}{op:s9}(hk:D8 st op=false)(hn:s5.isSome=op.y3)(h:E2 E j4 s5 k st op=some st'):∃ d,Still k dst s5 d st st' :=by
 cases op<;>simp only [u7.E2] at h<;>try (cases h;done)
 all_goals (simp only [s9.y3] at hn)
 case alloc zero =>
  obtain ⟨i,rfl⟩:=Option.isSome_iff_exists.1 hn;cases h;exact ⟨_,(Still.newObj _).trans (Still.put _)⟩
 case box x =>
  obtain ⟨i,rfl⟩:=Option.isSome_iff_exists.1 hn;split at h
  ·cases h;exact ⟨_,(Still.newObj _).trans (Still.put _)⟩
  ·cases h
 case makeMap =>
  obtain ⟨i,rfl⟩:=Option.isSome_iff_exists.1 hn;cases h;exact ⟨_,(Still.newObj _).trans (Still.put _)⟩
 case y6 sz len zero parts ob =>
  cases ob
  ·cases h
  ·obtain ⟨i,rfl⟩:=Option.isSome_iff_exists.1 hn
   simp only at h;split at h
   ·split at h
    ·cases h;exact ⟨_,(Still.newObj _).trans (Still.put _)⟩
    ·cases h
   ·cases h
 case store n a x =>
  have:s5=none:=by simpa using hn
  subst this;exact Still.O8 h
 case append sz bytes ob x y =>
  split at h
  ·rename_i hx
   simp [D8,hx] at hk
  ·cases ob with
   |true =>
    obtain ⟨i,rfl⟩:=Option.isSome_iff_exists.1 hn;unfold u7.J5 at h;simp only [if_true] at h;split at h
    ·split at h
     ·split at h
      ·cases h;exact ⟨_,Still.put _⟩
      ·cases h;exact ⟨_,(Still.newObj _).trans (Still.put _)⟩
     ·cases h
    ·cases h
   |false =>
    have:s5=none:=by simpa using hn
    subst this;unfold u7.J5 at h;simp only [b7,if_false] at h;split at h
    ·split at h
     ·split at h
      ·rename_i ht
       split at h
       ·cases h
        obtain ⟨d,hd⟩:=Still.O4 (k:=k) (dst:=dst) (s5:=none) ht;exact ⟨_,hd.trans (Still.put _)⟩
       ·cases h
      ·cases h
     ·cases h
    ·cases h
 case clear sz zero x =>
  have:s5=none:=by simpa using hn
  subst this;exact Still.V9 h
 case call f xs =>
  have:s5=none:=by simpa using hn
  subst this;exact Still.A6 h
 case Z3 x xs =>
  have:s5=none:=by simpa using hn
  subst this;split at h
  ·exact Still.A6 h
  ·cases h
 case cQ =>
  have:s5=none:=by simpa using hn
  subst this;exact Still.R6 h
 case defer x =>
  split at h
  ·split at h
   ·cases h;exact ⟨_,Still.put _⟩
   ·cases h
  ·cases h
theorem Still.F8 {ar5 :Option Nat}(h:s4 ar5 st k dst=some st'):∃ d,Still k dst s5 d st st' :=by
 rcases P7 h with ⟨_,rfl⟩|⟨s,n5,rfl,_,rfl,Bc⟩
 ·exact ⟨_,Still.refl _ _ _ _⟩
 ·have hx:=Still.C6 (k:=k) (dst:=some s) (s5:=s5) (st:=st) (.loc k)
  have key:∀ d,n5=d++st.n5->Still k (some s) s5 d st { (u7.C6 st (.loc k)).2 with T:=st.T.set s (u7.C6 st (.loc k)).1,n5 }:=by
   intro d hd;refine ⟨hx.L,hx.Gb,hx.Gt,fun s' hs=> ?_,hd,fun id _ hn=>hx.H id rfl hn,hx.Gx,hx.fV,by simp⟩;simp only;rw [F3 _ _ _ _ _ (fun e=>hs (by rw [e]))]
  rcases Bc with rfl|⟨rfl,_⟩
  ·exact ⟨[.slot s],key _ rfl⟩
  ·exact ⟨[],key _ rfl⟩
theorem Still.x9 {E:Env}{j4:List n8}{i:n8}{rs:List Nat}(hk:D8 st i.op=false)(hn:s5.isSome=i.op.y3)(h:x9 E j4 s5 k i st=some (st',rs)):∃ d,Still k i.dst s5 d st st' :=by
 unfold u7.x9 at h;split at h
 ·split at h
  ·rename_i P3 Zc hW
   split at h
   ·rename_i Y9 hts
    cases h;have h1:∃ d,Still k i.dst s5 d st P3:=by
     unfold u7.C5 at hW;split at hW
     ·split at hW
      ·rename_i he
       cases hW;exact Still.E2 hk hn he
      ·cases hW
     ·split at hW
      ·cases hW
       exact ⟨_,(Still.C6 _).trans (Still.put _)⟩
      ·split at hW
       ·cases hW
        exact ⟨_,Still.put _⟩
       ·cases hW
    obtain ⟨d1,h1⟩:=h1;obtain ⟨d2,h2⟩:=Still.F8 (s5:=s5) hts;exact ⟨_,h1.trans h2⟩
   ·cases h
  ·cases h
 ·split at h
  ·rename_i hts
   cases h;obtain ⟨d2,h2⟩:=Still.F8 (s5:=s5) hts;exact ⟨_,(Still.put _).trans h2⟩
  ·cases h
 ·cases h
theorem Still.F0 (h:Still k dst s5 d st st'){x:r8}(hl:k ∉ x.di)(ht:∀ s,s ∈ x.slots->dst≠some s):F0 st'.T st'.L x=F0 st.T st.L x:=by
 cases x with
 |loc j =>
  simp only [u7.F0];exact h.L j (fun e=>hl (by simp [r8.di,e]))
 |slot s =>
  simp only [u7.F0];exact h.T s (ht s (by simp [r8.slots]))
 |const v=>rfl
theorem Still.wanted (h:Still k dst s5 d st st'){g:Option (Nat×Bool)}(hg:∀ j b,g=some (j,b)->j≠k):u0 st'.L g=u0 st.L g:=by
 cases g with
 |none=>rfl
 |some p =>
  obtain ⟨j,want⟩:=p;have hj:=hg j want rfl;have h1:=h.Gb j hj;have h2:=h.Gt j hj;simp only [u0];split
  ·rename_i b hb
   rw [(h1 b).1 hb]
  ·rename_i hb
   rw [h2.1 hb]
  ·rename_i n1 n2
   split
   ·rename_i b hb
    exact absurd ((h1 b).2 hb) (n1 b)
   ·rename_i hb
    exact absurd (h2.2 hb) n2
   ·rfl
theorem Still.CV {E:Env}{i:n8}{rs:List Nat}(h:Still k dst s5 d st st'):(cr E i s5 st st' rs).CV=jS s5++d:=by
 simp only [cr,h.n5];simp
theorem Still.reads {E:Env}{i:n8}{rs:List Nat}(h:Still k dst s5 d st st'){ids:List Nat}(hh:J9 (cr E i s5 st st' rs).CV ids=false){id:Nat}(hid:id ∈ ids):N7 st'.H[id]? st.H[id]? :=by
 rw [h.CV] at hh;unfold J9 at hh;have hno:∀ t,t ∈ (jS s5++d:List Touch)->t.J1 id=false:=by
  intro t ht;rw [List.any_eq_false] at hh;have h1:=hh t ht;simp only [Bool.not_eq_true] at h1;rw [List.any_eq_false] at h1;simpa using h1 id hid
 refine h.H id ?_ ?_
 ·rw [List.any_eq_false]
  intro t ht;rw [hno t (by simp [ht])];simp
 ·rintro rfl
  have:=hno (.obj id) (by simp [jS]);simp [Touch.J1] at this
end
section
variable {E:Env} {j4:List n8} {s5:Option Nat} {k q:Nat} {v:b6} {st P3 Y9 st' :E1}
theorem qg {x:r8}(h:q ∉ x.di):F0 (put st q v).T (put st q v).L x=F0 st.T st.L x:=by
 cases x with
 |loc j =>
  simp only [F0,put];rw [F3 _ _ _ _ _ (fun e=>h (by simp [r8.di,e]))]
 |slot s=>rfl
 |const c=>rfl
theorem put_comm (h:q≠k)(u:b6):put (put st q v) k u=put (put st k u) q v:=by
 simp only [put]
 congr 1
 exact List.set_comm _ _ h
theorem bS {l:List b6}{q j:Nat}(h:q≠j)(v:b6):(l.set q v)[j]? =l[j]? :=q9 h
theorem xC {x:r8}(h:q ∉ x.di):C6 (put st q v) x=((C6 st x).1,put (C6 st x).2 q v):=by
 cases x with
 |loc j =>
  have hj:q≠j:=fun e=>h (by simp [r8.di,e])
  simp only [C6,put,bS hj];cases hl:st.L[j]? with
  |none=>simp only [F0,List.getD,bS hj]
  |some a =>
   cases a<;>simp only [F0,List.getD,bS hj];rw [List.set_comm _ _ hj]
 |slot s=>rfl
 |const c=>rfl
theorem eG (o:u5):I4 (put st q v) s5 o=put (I4 st s5 o) q v:=by cases s5<;>rfl
theorem je:newId (put st q v) s5=newId st s5:=rfl
theorem zl {x:r8}(h:q ∉ x.di):Y6 (put st q v) x=Y6 st x:=by
 cases x with
 |loc j =>
  have hj:q≠j:=fun e=>h (by simp [r8.di,e])
  simp only [Y6,put,bS hj]
 |slot s=>rfl
 |const c=>rfl
theorem Ek {l:F9}{sz:Nat}{op:s9}(h:q ∉ op.S2.flatMap r8.di):U2 l (put st q v) sz op=(U2 l st sz op).map fun p=>(p.1,p.2.1,put p.2.2 q v):=by
 unfold U2;split
 ·rename_i s
  have e1:(put st q v).n5=st.n5:=rfl;have e2:(put st q v).T=st.T:=rfl;simp only [e1,e2];split
  ·rfl
  ·split
   ·split
    ·rfl
    ·rfl
   ·rfl
 ·rename_i x
  have hx:q ∉ x.di:=fun e=>h (by simp [s9.S2,e])
  rw [zl hx];have e1:(put st q v).n5=st.n5:=rfl;have e2:(put st q v).H=st.H:=rfl;split
  ·simp only [e1,e2]
   split
   ·rfl
   ·split
    ·split
     ·split
      ·rfl
      ·rfl
     ·rfl
    ·rfl
  ·rfl
 ·rfl
theorem Ej {l:F9}{sz:Nat}{x:r8}(h:q ∉ x.di)(h2:∀ j a,x= .loc j->j4[j]? =some a->q ∉ a.op.S2.flatMap r8.di) :
  O4 l j4 (put st q v) sz x=(O4 l j4 st sz x).map fun p=>(p.1,p.2.1,put p.2.2 q v):=by
 cases x with
 |const c =>
  unfold O4;cases c<;>first|rfl|skip
  simp only;split<;>rfl
 |slot s=>rfl
 |loc j =>
  have hj:q≠j:=fun e=>h (by simp [r8.di,e])
  have e:(put st q v).L[j]? =st.L[j]? :=by simp only [put];exact bS hj v
  simp only [O4];rw [e];cases hl:st.L[j]? with
  |none=>rfl
  |some b =>
   cases b with
   |own z len cells =>
    simp only;split
    ·simp only [put,E6]
     rw [List.set_comm _ _ hj]
    ·rfl
   |d x =>
    cases x with
    |slice n c =>
     simp only;cases ha:j4[j]? with
     |none=>rfl
     |some a=>exact Ek (h2 j a rfl ha)
    |_=>rfl
   |_=>rfl
theorem sE (h:q≠k){f:FuncId}{args:List b6}:A6 E k f args (put st q v)=(A6 E k f args st).map fun s=>put s q v:=by
 have e1:(put st q v).H=st.H:=rfl;have e2:(put st q v).n5=st.n5:=rfl;have key:∀ (H:o6) (t:List Touch) (u:b6),put { put st q v with H:=H,n5:=t } k u=put (put { st with H:=H,n5:=t } k u) q v:=by
  intro H t u;simp only [put]
  congr 1
  exact List.set_comm _ _ h
 unfold A6;simp only [e1,e2];split
 ·split
  ·split
   ·rw [key];rfl
   ·rfl
  ·rfl
 ·split
  ·split
   ·split
    ·split
     ·rw [key];rfl
     ·rfl
    ·rfl
   ·split
    ·split
     ·simp only [E6,put_comm h]
     ·rfl
    ·rfl
   ·split
    ·split
     ·rw [key];rfl
     ·rfl
    ·rfl
  ·rfl
theorem BT (h:q≠k){n:Nat}{a:b6}{x:r8}(hx:q ∉ x.di):O8 E k n (put st q v) a x=(O8 E k n st a x).map fun s=>put s q v:=by
 unfold O8;simp only [xC hx];cases a with
 |ptr id off =>
  simp only;split
  ·split
   ·have e:(put (C6 st x).2 q v).H=(C6 st x).2.H:=rfl
    rw [e];split
    ·simp only [put,E6]
     congr 2
     exact List.set_comm _ _ h
    ·rfl
   ·rfl
  ·rfl
 |_=>rfl
theorem AI (h:q≠k){sz:Nat}{zero:List b6}{a:b6}:V9 E k sz zero (put st q v) a=(V9 E k sz zero st a).map fun s=>put s q v:=by
 have e:(put st q v).H=st.H:=rfl;unfold V9;split
 ·split
  ·rw [e]
   split
   ·simp only [put,E6]
    congr 2
    exact List.set_comm _ _ h
   ·rfl
  ·rfl
 ·simp only [E6,put_comm h]
 ·rfl
theorem yl (h:q≠k){kk:CK}{m key x:b6}:R6 E k kk (put st q v) m key x=(R6 E k kk st m key x).map fun s=>put s q v:=by
 have e:(put st q v).H=st.H:=rfl;unfold R6;split
 ·rw [e]
  split
  ·split
   ·split
    ·split
     ·simp only [put,E6]
      congr 2
      exact List.set_comm _ _ h
     ·rfl
    ·rfl
   ·rfl
  ·rfl
 ·rfl
theorem GF {l:F9}{op:s9}(h:q ∉ op.S2.flatMap r8.di):lH l (put st q v) op=lH l st op:=by
 unfold lH;split
 ·rfl
 ·rename_i x
  have hx:q ∉ x.di:=fun e=>h (by simp [s9.S2,e])
  rw [zl hx];rfl
 ·rfl
theorem KD {l:F9}{x:r8}(h:q ∉ x.di)(h2:∀ j a,x= .loc j->j4[j]? =some a->q ∉ a.op.S2.flatMap r8.di):isNil l j4 (put st q v) x=isNil l j4 st x:=by
 cases x with
 |const c=>cases c<;>rfl
 |slot s=>rfl
 |loc j =>
  have hj:q≠j:=fun e=>h (by simp [r8.di,e])
  have e:(put st q v).L[j]? =st.L[j]? :=by simp only [put];exact bS hj v
  simp only [isNil];rw [e];cases ha:j4[j]? with
  |none=>rfl
  |some a=>simp only [GF (h2 j a rfl ha)]
theorem ya (h:q≠k){sz bytes:Nat}{ob:Bool}{x:r8}{y:b6}(hx:q ∉ x.di)(h2:∀ j a,x= .loc j->j4[j]? =some a->q ∉ a.op.S2.flatMap r8.di) :
  J5 E j4 s5 k sz bytes ob (put st q v) x y=(J5 E j4 s5 k sz bytes ob st x y).map fun s=>put s q v:=by
 have e:(put st q v).H=st.H:=rfl;unfold J5;rw [e,KD hx h2,Ej hx h2];split
 ·split
  ·split
   ·split
    ·simp only [E6,put_comm h]
    ·simp only [eG,je,E6,put_comm h]
   ·rfl
  ·split
   ·cases ht:O4 E.lim j4 st sz x with
    |none=>rfl
    |some p =>
     obtain ⟨len,cells,s1⟩:=p;simp only [E6];split
     ·simp only [E6,put_comm h]
     ·rfl
   ·rfl
 ·rfl
theorem P6 {i:n8}{x:r8}(hx:x ∈ i.op.S2)(h:q ∉ fm j4 i):q ∉ x.di:=by
 intro hq;apply h;unfold fm;rw [List.append_assoc];exact List.mem_append_left _ (List.mem_flatMap.2 ⟨x,hx,hq⟩)
theorem bE {i:n8}{g:Nat}{b:Bool}(hg:i.guard=some (g,b))(h:q ∉ fm j4 i):g≠q:=by
 rintro rfl;apply h;unfold fm;rw [hg];simp
theorem ym {i:n8}{sz bytes:Nat}{ob:Bool}{x y:r8}(hop:i.op= .append sz bytes ob x y)(h:q ∉ fm j4 i):∀ j a,x= .loc j->j4[j]? =some a->q ∉ a.op.S2.flatMap r8.di:=by
 rintro j a rfl ha hq;apply h;unfold fm;rw [hop];simp only [ha];exact List.mem_append_right _ hq
theorem Kk {i:n8}(h:q≠k)(hu:q ∉ fm j4 i)(hk:D8 st i.op=false):E2 E j4 s5 k (put st q v) i.op=(E2 E j4 s5 k st i.op).map fun s=>put s q v:=by
 have hρ:∀ x,x ∈ i.op.S2->F0 (put st q v).T (put st q v).L x=F0 st.T st.L x:=fun x hx=>qg (P6 hx hu)
 cases hop:i.op<;>simp only [hop,s9.S2] at hρ<;>simp only [E2]<;>try rfl
 case alloc zero=>simp only [eG,je,put_comm h,E6]
 case box x =>
  rw [hρ x (by simp)];split
  ·simp only [eG,je,put_comm h,E6]
  ·rfl
 case makeMap=>simp only [eG,je,put_comm h,E6]
 case y6 sz len zero parts ob =>
  cases ob
  ·rfl
  ·have e:(parts.map fun x=>(x.1,x.2.1,F0 (put st q v).T (put st q v).L x.2.2))=(parts.map fun x=>(x.1,x.2.1,F0 st.T st.L x.2.2)):=gO hρ
   simp only [e];cases bg zero (parts.map fun x=>(x.1,x.2.1,F0 st.T st.L x.2.2)) with
   |none=>rfl
   |some cs =>
    simp only;split
    ·simp only [eG,je,put_comm h,E6]
    ·rfl
 case store n a x =>
  rw [hρ a (by simp)];exact BT h (P6 (by simp [hop,s9.S2]) hu)
 case append sz bytes ob x y =>
  rw [hρ x (by simp),hρ y (by simp)];split
  ·rename_i hx
   rw [hop] at hk;simp [D8,hx] at hk
  ·exact ya h (P6 (by simp [hop,s9.S2]) hu) (ym hop hu)
 case clear sz zero x =>
  rw [hρ x (by simp)];exact AI h
 case call f xs =>
  rw [S0 hρ];exact sE h
 case Z3 x xs =>
  rw [hρ x (by simp),S0 (l:=xs) fun y hy=>hρ y (by simp [hy])];split
  ·exact sE h
  ·rfl
 case cQ kk m key x =>
  rw [hρ m (by simp),hρ key (by simp),hρ x (by simp)];exact yl h
 case defer x =>
  rw [hρ x (by simp)];split
  ·split
   ·simp only [put_comm h,E6]
   ·rfl
  ·rfl
theorem xj (h:q≠k){dst:Option Nat}:s4 s5 (put st q v) k dst=(s4 s5 st k dst).map fun s=>put s q v:=by
 have hx:q ∉ (r8.loc k).di:=by simp [r8.di];exact h
 have e1:(put st q v).T=st.T:=rfl;have e2:(put st q v).n5=st.n5:=rfl;cases s5<;>cases dst<;>simp only [s4,F8,W3,xC hx,e1,e2]<;>first|rfl|(split<;>rfl)
theorem wanted_put {g:Option (Nat×Bool)}(h:∀ j b,g=some (j,b)->j≠q):u0 (put st q v).L g=u0 st.L g:=by
 cases g with
 |none=>rfl
 |some p =>
  obtain ⟨j,b⟩:=p;simp only [u0,put];rw [bS (fun e=>h j b rfl e.symm)]
theorem sj {i:n8}(h:q≠k)(hu:q ∉ fm j4 i)(hk:D8 st i.op=false):x9 E j4 s5 k i (put st q v)=(x9 E j4 s5 k i st).map fun p=>(put p.1 q v,p.2):=by
 have hρ:∀ x,x ∈ i.op.S2->F0 (put st q v).T (put st q v).L x=F0 st.T st.L x:=fun x hx=>qg (P6 hx hu)
 have hW:C5 E j4 s5 k i.op (put st q v)=(C5 E j4 s5 k i.op st).map fun p=>(put p.1 q v,p.2):=by
  unfold C5;split
  ·rw [Kk h hu hk]
   cases E2 E j4 s5 k st i.op<;>rfl
  ·cases hop:i.op with
   |M9 x =>
    simp only [xC (P6 (x:=x) (by simp [hop,s9.S2]) hu),put_comm h,E6]
   |_ =>
    simp only;rw [<- hop,qd hρ];have e:(put st q v).H=st.H:=rfl;rw [e];cases hp:k9 (F0 st.T st.L) st.H i.op with
    |none=>rfl
    |some p=>simp only [put_comm h,E6]
 unfold x9;rw [wanted_put (fun j b hg=>bE hg hu),hW];split
 ·cases hp:C5 E j4 s5 k i.op st with
  |none=>rfl
  |some p =>
   obtain ⟨s1,rs⟩:=p;simp only [E6];rw [xj h];cases s4 s5 s1 k i.dst<;>rfl
 ·rw [put_comm h,xj h]
  cases s4 s5 (put st k (.tuple [])) k i.dst<;>rfl
 ·rfl
def V4 (st:E1)(i:Nat)(o:u5):E1:={ st with H:=st.H.set i o }
theorem me {H:o6}{n i:Nat}{o:u5}(h:n<=i):(H.set i o).take n=H.take n:=List.take_set_of_le h
theorem ze (H:o6)(s:Nat):∀ (j m:Nat),m<=G5 H s j m
 |0,m=>by simp [G5]
 |j+1,m=>by
  unfold G5;split
  ·omega
  ·simp only
   split
   ·omega
   ·exact Nat.le_trans (Nat.le_max_left _ _) (ze H s j _)
theorem fR (H:o6)(s i:Nat)(o:u5):∀ (j n:Nat),G5 H s j n<=i->G5 (H.set i o) s j n=G5 H s j n
 |0,n,_=>rfl
 |j+1,n,h=>by
  have hn:n<=i:=Nat.le_trans (ze H s (j+1) n) h;unfold G5 at h ⊢;split
  ·rfl
  ·rename_i aN
   rw [if_neg aN] at h;simp only [me hn] at h ⊢;split
   ·rfl
   ·rename_i hm
    rw [if_neg hm] at h;exact fR H s i o j _ h
theorem sG (H:o6)(s i:Nat)(o:u5)(j n:Nat)(h:G5 (H.set i o) s j n<=i):G5 H s j n=G5 (H.set i o) s j n:=by
 rcases p7 i H.length with hi|hi
 ·have:=fR (H.set i o) s i H[i] j n h
  rw [List.set_set,List.set_getElem_self] at this;exact this
 ·rw [List.set_eq_of_length_le hi]
theorem BU {H:o6}{s n i:Nat}{o:u5}(h:n<=i):B5 (H.set i o) s n=B5 H s n:=by
 unfold B5;rw [me h]
theorem CE {H:o6}{n i:Nat}{o:u5}(h:n<=i):(H.set i o).drop n=(H.drop n).set (i - n) o:=by
 apply List.ext_getElem?;intro j;rw [List.getElem?_drop,List.getElem?_set,List.getElem?_set,List.getElem?_drop]
 by_cases e:i=n+j
 ·subst e
  simp
  by_cases hl:n+j<H.length
  ·simp [hl,show j<H.length - n from by omega]
  ·simp [hl,show ¬ j<H.length - n from by omega]
 ·rw [if_neg e,if_neg (by omega)]
theorem uH {A H:o6}{n i:Nat}{o:u5}(ha:A.length=n)(h:n<=i):A++(H.set i o).drop n=(A++H.drop n).set i o:=by
 rw [CE h,List.set_append,if_neg (by omega),ha]
theorem oU {f:FuncId}{args:List b6}{i:Nat}{o:u5}(hi:i<st.H.length)(hs:(if E.prom f then st.H.length else G5 st.H E.lim.strict 8 (y9 args))<=i) :
  A6 E k f args (V4 st i o)=(A6 E k f args st).map fun s=>V4 s i o:=by
 have e1:(V4 st i o).H=st.H.set i o:=rfl;have e2:(V4 st i o).n5=st.n5:=rfl;unfold A6;simp only [e1,e2]
 by_cases hp:E.prom f=true
 ·rw [if_pos hp] at hs;omega
 ·rw [if_neg hp] at hs
  rw [if_neg hp,if_neg hp,fR _ _ _ _ _ _ hs];generalize G5 st.H E.lim.strict 8 (y9 args)=n at hs;generalize (args.headD .any).M3=mm;simp only [me hs,BU hs,List.length_set];split
  ·rename_i ak
   split
   ·split
    ·split
     ·rename_i hl
      simp only [E6,put,V4];rw [uH hl hs]
     ·rfl
    ·rfl
   ·split
    ·split
     ·rfl
     ·rfl
    ·rfl
   ·split
    ·rename_i v H1 _
     split
     ·rename_i hl
      simp only [E6,put,V4];rw [uH (by simp;omega) (Nat.le_trans hl.2 hs)]
     ·rfl
    ·rfl
  ·rfl
theorem tq {dst:Option Nat}{i:Nat}{o:u5}:s4 s5 (V4 st i o) k dst=(s4 s5 st k dst).map fun s=>V4 s i o:=by
 have hx:C6 (V4 st i o) (.loc k)=((C6 st (.loc k)).1,V4 (C6 st (.loc k)).2 i o):=by
  simp only [C6,V4];cases st.L[k]? with
  |none=>rfl
  |some a=>cases a<;>rfl
 have e1:(V4 st i o).T=st.T:=rfl;have e2:(V4 st i o).n5=st.n5:=rfl;cases s5<;>cases dst<;>simp only [s4,F8,W3,hx,e1,e2]<;>first|rfl|(split<;>rfl)
def AJ (i:n8):Bool:=match i.op with
 | .call .. =>true
 | .Z3 .. =>true
 |_=>false
theorem Hi {i:n8}{m:Nat}{o:u5}(hc:AJ i=true)(hi:m<st.H.length)(hs:K4 E st i.op<=m):x9 E j4 s5 k i (V4 st m o)=(x9 E j4 s5 k i st).map fun p=>(V4 p.1 m o,p.2):=by
 have hW:C5 E j4 s5 k i.op (V4 st m o)=(C5 E j4 s5 k i.op st).map fun p=>(V4 p.1 m o,p.2):=by
  unfold AJ at hc;unfold C5;have e:∀ x,F0 (V4 st m o).T (V4 st m o).L x=F0 st.T st.L x:=fun _=>rfl
  split at hc
  ·rename_i f xs hop
   rw [hop] at hs ⊢;simp only [s9.D5,if_true,E2];have:A6 E k f (xs.map (F0 (V4 st m o).T (V4 st m o).L)) (V4 st m o)=(A6 E k f (xs.map (F0 st.T st.L)) st).map fun s=>V4 s m o:=oU hi hs
   rw [this];cases A6 E k f (xs.map (F0 st.T st.L)) st<;>rfl
  ·rename_i x xs hop
   rw [hop] at hs ⊢;simp only [s9.D5,if_true,E2];rw [e x];simp only [K4] at hs;cases hx:F0 st.T st.L x with
   |func f first caps =>
    rw [hx] at hs;simp only at hs ⊢;have:A6 E k f (first++xs.map (F0 (V4 st m o).T (V4 st m o).L)++caps) (V4 st m o)=(A6 E k f (first++xs.map (F0 st.T st.L)++caps) st).map fun s=>V4 s m o:=oU hi hs
    rw [this];cases A6 E k f (first++xs.map (F0 st.T st.L)++caps) st<;>rfl
   |_=>rfl
  ·cases hc
 unfold x9;have e3:u0 (V4 st m o).L i.guard=u0 st.L i.guard:=rfl;rw [e3,hW];split
 ·cases hp:C5 E j4 s5 k i.op st with
  |none=>rfl
  |some p =>
   obtain ⟨s1,rs⟩:=p;simp only [E6];rw [tq];cases s4 s5 s1 k i.dst<;>rfl
 ·have e4:put (V4 st m o) k (.tuple [])=V4 (put st k (.tuple [])) m o:=rfl
  rw [e4,tq];cases s4 s5 (put st k (.tuple [])) k i.dst<;>rfl
 ·rfl
theorem La {i:n8}{m:Nat}{o:u5}(hs:K4 E (V4 st m o) i.op<=m):K4 E st i.op=K4 E (V4 st m o) i.op:=by
 have e:∀ x,F0 (V4 st m o).T (V4 st m o).L x=F0 st.T st.L x:=fun _=>rfl
 have e1:(V4 st m o).H=st.H.set m o:=rfl;cases hop:i.op<;>rw [hop] at hs<;>simp only [K4] at hs ⊢
 case call f xs =>
  simp only [e1,List.length_set] at hs ⊢
  by_cases hp:E.prom f=true
  ·rw [if_pos hp,if_pos hp]
  ·rw [if_neg hp] at hs ⊢
   rw [if_neg hp];exact sG _ _ _ _ _ _ hs
 case Z3 x xs =>
  simp only [e x,e1,List.length_set] at hs ⊢;split at hs
  ·rename_i f first caps hx
   by_cases hp:E.prom f=true
   ·simp only [hp,if_true]
   ·rw [if_neg hp] at hs ⊢
    rw [if_neg hp];exact sG _ _ _ _ _ _ hs
  ·rfl
def aL (s:E1)(dst:Option Nat)(u:b6):E1:=match dst with
 |none=>s
 |some t=>{ s with T:=s.T.set t u }
theorem GV (s:E1)(dst:Option Nat)(u:b6):(aL s dst u).L=s.L:=by cases dst<;>rfl
theorem Vj (s:E1)(dst:Option Nat)(u:b6):(aL s dst u).H=s.H:=by cases dst<;>rfl
theorem NO (s:E1)(dst:Option Nat)(u:b6):(aL s dst u).n5=s.n5:=by cases dst<;>rfl
theorem zx (s:E1)(dst:Option Nat)(u:b6):(aL s dst u).T.length=s.T.length:=by cases dst<;>simp [aL]
theorem wu {s:E1}{dst:Option Nat}{u:b6}{x:r8}(h:∀ t,dst=some t->t ∉ x.slots):F0 (aL s dst u).T (aL s dst u).L x=F0 s.T s.L x:=by
 cases dst with
 |none=>rfl
 |some t =>
  cases x with
  |loc j=>rfl
  |const c=>rfl
  |slot s' =>
   simp only [F0,aL];rw [F3 _ _ _ _ _ (fun e=>h t rfl (by simp [r8.slots,e]))]
theorem oV {f:FuncId}{args:List b6}{dst:Option Nat}{u:b6}:A6 E k f args (aL st dst u)=(A6 E k f args st).map fun s=>aL s dst u:=by
 cases dst with
 |none=>simp only [aL];cases A6 E k f args st<;>rfl
 |some t =>
  unfold A6;have e1:(aL st (some t) u).H=st.H:=rfl;have e2:(aL st (some t) u).n5=st.n5:=rfl;simp only [e1,e2];split
  ·split
   ·split<;>rfl
   ·rfl
  ·split
   ·split
    ·split
     ·split<;>rfl
     ·rfl
    ·split
     ·split<;>rfl
     ·rfl
    ·split
     ·split<;>rfl
     ·rfl
   ·rfl
theorem tr {dst dst' :Option Nat}{u:b6}(h:∀ s,dst=some s->dst' ≠some s):s4 s5 (aL st dst' u) k dst=(s4 s5 st k dst).map fun s=>aL s dst' u:=by
 cases dst' with
 |none=>simp only [aL];cases s4 s5 st k dst<;>rfl
 |some t =>
  have hx:C6 (aL st (some t) u) (.loc k)=((C6 st (.loc k)).1,aL (C6 st (.loc k)).2 (some t) u):=by
   simp only [C6,aL];cases st.L[k]? with
   |none=>rfl
   |some a=>cases a<;>rfl
  have e2:(aL st (some t) u).n5=st.n5:=rfl;have e3:(aL st (some t) u).T.length=st.T.length:=zx _ _ _;cases dst with
  |none=>cases s5<;>rfl
  |some s =>
   have hne:t≠s:=fun e=>h s rfl (by rw [e])
   have e4:∀ x,(aL st (some t) u).T.set s x=(st.T.set s x).set t u:=fun x=>List.set_comm _ _ hne
   cases s5<;>simp only [s4,F8,W3,hx,e2,e3,e4]<;>split<;>rfl
theorem Hj {i:n8}{dst:Option Nat}{u:b6}(hc:AJ i=true)(hu:∀ t,dst=some t->t ∉ gV i)(hd:∀ s,i.dst=some s->dst≠some s) :
  x9 E j4 s5 k i (aL st dst u)=(x9 E j4 s5 k i st).map fun p=>(aL p.1 dst u,p.2):=by
 have hρ:∀ x,x ∈ i.op.S2->F0 (aL st dst u).T (aL st dst u).L x=F0 st.T st.L x:=by
  intro x hx;refine wu fun t ht hs=>hu t ht ?_
  unfold gV;exact List.mem_flatMap.2 ⟨x,hx,hs⟩
 have hW:C5 E j4 s5 k i.op (aL st dst u)=(C5 E j4 s5 k i.op st).map fun p=>(aL p.1 dst u,p.2):=by
  unfold AJ at hc;unfold C5;split at hc
  ·rename_i f xs hop
   rw [hop] at hρ ⊢;simp only [s9.D5,if_true,E2];rw [S0 (l:=xs) fun y hy=>hρ y (by simp [s9.S2,hy]),oV];cases A6 E k f (xs.map (F0 st.T st.L)) st<;>rfl
  ·rename_i x xs hop
   rw [hop] at hρ ⊢;simp only [s9.D5,if_true,E2];rw [hρ x (by simp [s9.S2]),S0 (l:=xs) fun y hy=>hρ y (by simp [s9.S2,hy])];cases hx:F0 st.T st.L x with
   |func f first caps =>
    simp only;rw [oV];cases A6 E k f (first++xs.map (F0 st.T st.L)++caps) st<;>rfl
   |_=>rfl
  ·cases hc
 unfold x9;rw [GV,hW];split
 ·cases hp:C5 E j4 s5 k i.op st with
  |none=>rfl
  |some p =>
   obtain ⟨s1,rs⟩:=p;simp only [E6];rw [tr hd];cases s4 s5 s1 k i.dst<;>rfl
 ·have e4:put (aL st dst u) k (.tuple [])=aL (put st k (.tuple [])) dst u:=by cases dst<;>rfl
  rw [e4,tr hd];cases s4 s5 (put st k (.tuple [])) k i.dst<;>rfl
 ·rfl
end
def AK (i:n8):Bool:= !i.op.D5&&i.dst.isNone&&(match i.op with
 | .M9 (.loc _)=>false
 |_=>true)
def tO (i:n8):Bool:=match i.op with
 | .alloc _=>true
 | .box _=>true
 | .makeMap=>true
 | .y6 _ _ _ _ b=>b
 |_=>false
section
variable {E:Env} {j4:List n8} {s5:Option Nat} {k q:Nat} {st P3 Y9 st' :E1}
theorem iT {i:n8}(h:AK i=true)(st:E1):D8 st i.op=false:=by
 simp only [AK,b5,j9] at h;cases hop:i.op<;>rw [hop] at h<;>simp_all [s9.D5,D8]
theorem mP {i:n8}(h:AK i=true)(st:E1):K4 E st i.op=0:=by
 simp only [AK,b5,j9] at h;cases hop:i.op<;>rw [hop] at h<;>simp_all [s9.D5,K4]
theorem cm {i:n8}(h:tO i=true)(st:E1):D8 st i.op=false:=by
 unfold tO at h;cases hop:i.op<;>rw [hop] at h<;>simp_all [D8]
theorem cn {i:n8}(h:tO i=true)(st:E1):K4 E st i.op=0:=by
 unfold tO at h;cases hop:i.op<;>rw [hop] at h<;>simp_all [K4]
theorem dR {i:n8}(h:tO i=true):i.op.y3=true:=by
 unfold tO at h;cases hop:i.op<;>rw [hop] at h<;>simp_all [s9.y3]
theorem fG {i:n8}(h:AJ i=true)(st:E1):D8 st i.op=false:=by
 unfold AJ at h;cases hop:i.op<;>rw [hop] at h<;>simp_all [D8]
theorem eN {s:E1}{dst:Option Nat}(h:dst.isNone=true):s4 s5 s k dst=some s:=by
 cases dst with
 |none=>cases s5<;>rfl
 |some _=>simp at h
theorem FO {i:n8}(hP:AK i=true){rs:List Nat}(h:x9 E j4 s5 k i st=some (st',rs)) :
  ∃ v,st' =put st k v/\∀ s2:E1,(∀ x,x ∈ i.op.S2->F0 s2.T s2.L x=F0 st.T st.L x)->u0 s2.L i.guard=u0 st.L i.guard->(∀ id,id ∈ rs->N7 s2.H[id]? st.H[id]?) ->
   x9 E j4 s5 k i s2=some (put s2 k v,rs):=by
 simp only [AK,b5,j9] at hP;obtain ⟨⟨h1,h2⟩,h3⟩:=hP;unfold x9 at h;split at h
 ·rename_i hw
  split at h
  ·rename_i s1 Zc hW
   rw [eN h2] at h;cases h;unfold C5 at hW;rw [h1] at hW;simp only [b7,if_false] at hW;have other:∀ {v:b6},(∀ x,i.op≠ .M9 x)->k9 (F0 st.T st.L) st.H i.op=some (v,rs)->st' =put st k v->∃ v,st' =put st k v/\∀ s2:E1,(∀ x,x ∈ i.op.S2->F0 s2.T s2.L x=F0 st.T st.L x)->u0 s2.L i.guard=u0 st.L i.guard->(∀ id,id ∈ rs->N7 s2.H[id]? st.H[id]?) ->
     x9 E j4 s5 k i s2=some (put s2 k v,rs):=by
    intro v hm hp e;refine ⟨v,e,fun s2 hρ Qq hr=> ?_⟩;unfold x9;rw [Qq,hw];simp only;have:C5 E j4 s5 k i.op s2=some (put s2 k v,rs):=by
     unfold C5;rw [h1];simp only [b7,if_false];have hp2:k9 (F0 s2.T s2.L) s2.H i.op=some (v,rs):=DD (by rw [qd hρ];exact hp) hr;obtain ⟨op,hop⟩:∃ op,i.op=op:=⟨_,rfl⟩;rw [hop] at hp2 ⊢;cases op with
     |M9 x=>exact absurd hop (hm x)
     |_=>simp only [hp2]
    rw [this];simp only [eN h2]
   split at hW
   ·rename_i x hop
    cases hW;refine ⟨(C6 st x).1,?_,fun s2 hρ Qq hr=> ?_⟩
    ·cases x with
     |loc j=>rw [hop] at h3;simp at h3
     |slot s=>rfl
     |const c=>rfl
    ·unfold x9
     rw [Qq,hw];simp only [hop];have e1:C6 s2 x=((C6 st x).1,s2):=by
      cases x with
      |loc j=>rw [hop] at h3;simp at h3
      |slot s =>
       have:=hρ (.slot s) (by simp [hop,s9.S2]);simp only [C6,this]
      |const c=>rfl
     simp only [C5,s9.D5,b7,if_false,e1,eN h2]
   ·rename_i hne
    split at hW
    ·rename_i v rs2 hp
     cases hW;exact other hne hp rfl
    ·cases hW
  ·cases h
 ·rename_i hw
  rw [eN h2] at h;cases h;refine ⟨.tuple [],rfl,fun s2 hρ Qq hr=> ?_⟩;unfold x9;rw [Qq,hw];simp only [eN h2]
 ·cases h
def lU (s:E1)(n:Nat):Option u5->E1
 |some o=>V4 s n o
 |none=>s
inductive NF (k n:Nat) (dst:Option Nat):(E1->E1)->Prop where
 |mk (o:Option u5) (v u:b6):NF k n dst (fun s=>aL (put (lU s n o) k v) dst u)
structure Alike (i:n8)(st s2:E1):Prop where
 T:s2.T.length=st.T.length
 L:s2.L.length=st.L.length
 n5:∀ s,i.dst=some s->s2.n5.any (Touch.Q1 s)=true
theorem El {s:E1}{v:b6}{dst:Option Nat}(hv:∀ z n c,v≠ .own z n c){s' :E1}(h:W3 (put s k v) k dst=some s') :
  ∃ u,s' =aL (put s k v) dst u/\∀ s2:E1,s2.T.length=s.T.length->s2.L.length=s.L.length->(∀ t,dst=some t->s2.n5.any (Touch.Q1 t)=true)->W3 (put s2 k v) k dst=some (aL (put s2 k v) dst u):=by
 cases dst with
 |none=>cases h;exact ⟨.any,rfl,fun s2 _ _ _=>rfl⟩
 |some t =>
  have hx:∀ s:E1,C6 (put s k v) (.loc k)=((if k<s.L.length then v.F2 else .any),put s k v):=by
   intro s;simp only [C6,put]
   by_cases hk:k<s.L.length
   ·rw [C9 hk]
    cases v<;>simp [F0,List.getD,hk,b6.F2]<;>first|rfl|exact absurd rfl (hv _ _ _)
   ·rw [q6 (by simpa using hk)]
    simp [F0,List.getD,hk,b6.F2]
  simp only [W3,hx] at h;split at h
  ·rename_i hc
   simp only [b5,decide_eq_true_eq] at hc;cases h;refine ⟨_,rfl,fun s2 h1 h2 h3=> ?_⟩;simp only [W3,hx];have:(decide (t<(put s2 k v).T.length)&&(put s2 k v).n5.any (Touch.Q1 t))=true:=by
    simp only [b5,decide_eq_true_eq];refine ⟨?_,h3 t rfl⟩;have:=hc.1;simp only [put] at this ⊢;omega
   rw [if_pos this,h2];rfl
  ·cases h
theorem BA (s:E1)(n:Nat)(o:Option u5):(lU s n o).T=s.T:=by cases o<;>rfl
theorem wF (s:E1)(n:Nat)(o:Option u5):(lU s n o).L=s.L:=by cases o<;>rfl
theorem DU (s:E1)(n:Nat)(o:Option u5):(lU s n o).n5=s.n5:=by cases o<;>rfl
theorem AA {i:n8}{n:Nat}(hN:tO i=true){rs:List Nat}(h:x9 E j4 (some n) k i st=some (st',rs)) :
  rs=[]/\∃ f,NF k n i.dst f/\st' =f st/\∀ s2:E1,(∀ x,x ∈ i.op.S2->F0 s2.T s2.L x=F0 st.T st.L x)->u0 s2.L i.guard=u0 st.L i.guard->Alike i st s2->x9 E j4 (some n) k i s2=some (f s2,[]):=by
 unfold tO at hN;have h3:=hN;have Xr:i.op.D5=true:=by
  cases hop:i.op<;>rw [hop] at h3<;>simp_all [s9.D5]
 have slot:∀ (o:Option u5) (v:b6),(∀ z n c,v≠ .own z n c)->(∀ s2:E1,(∀ x,x ∈ i.op.S2->F0 s2.T s2.L x=F0 st.T st.L x)->u0 s2.L i.guard=u0 st.L i.guard->x9 E j4 (some n) k i s2=(W3 (put (lU s2 n o) k v) k i.dst).map fun s=>(s,[])) ->
   rs=[]/\∃ f,NF k n i.dst f/\st' =f st/\∀ s2:E1,(∀ x,x ∈ i.op.S2->F0 s2.T s2.L x=F0 st.T st.L x)->u0 s2.L i.guard=u0 st.L i.guard->Alike i st s2->x9 E j4 (some n) k i s2=some (f s2,[]):=by
  intro o v hv hs;rw [hs st (fun _ _=>rfl) rfl] at h;cases ht:W3 (put (lU st n o) k v) k i.dst with
  |none=>rw [ht] at h;cases h
  |some s' =>
   rw [ht] at h;simp only [E6,Option.some.injEq,Prod.mk.injEq] at h;obtain ⟨rfl,rfl⟩:=h;obtain ⟨u,h4,h5⟩:=El hv ht;refine ⟨rfl,_,NF.mk o v u,h4,fun s2 hρ hw ha=> ?_⟩;rw [hs s2 hρ hw,h5 (lU s2 n o) (by rw [BA,BA];exact ha.T) (by rw [wF,wF];exact ha.L) (fun t ht=>by rw [DU];exact ha.n5 t ht)];rfl
 obtain ⟨wd,hw⟩:∃ wd,u0 st.L i.guard=wd:=⟨_,rfl⟩;cases wd with
 |none=>unfold x9 at h;rw [hw] at h;cases h
 |some b =>
  cases b with
  |false =>
   refine slot none (.tuple []) (by simp) fun s2 hρ Qq=> ?_
   unfold x9;rw [Qq,hw];simp only [s4,lU];cases W3 (put s2 k (.tuple [])) k i.dst<;>rfl
  |true =>
   have key:∀ (o:u5) (v:b6),(∀ z n c,v≠ .own z n c)->(∀ s2:E1,(∀ x,x ∈ i.op.S2->F0 s2.T s2.L x=F0 st.T st.L x)->E2 E j4 (some n) k s2 i.op=some (put (V4 s2 n o) k v)) ->
     rs=[]/\∃ f,NF k n i.dst f/\st' =f st/\∀ s2:E1,(∀ x,x ∈ i.op.S2->F0 s2.T s2.L x=F0 st.T st.L x)->u0 s2.L i.guard=u0 st.L i.guard->Alike i st s2->x9 E j4 (some n) k i s2=some (f s2,[]):=by
    intro o v hv h5;refine slot (some o) v hv fun s2 hρ Qq=> ?_
    unfold x9;rw [Qq,hw];simp only;have:C5 E j4 (some n) k i.op s2=some (put (V4 s2 n o) k v,[]):=by
     unfold C5;rw [Xr];simp only [if_true,h5 s2 hρ]
    rw [this];simp only [s4,lU];cases W3 (put (V4 s2 n o) k v) k i.dst<;>rfl
   obtain ⟨op,hop⟩:∃ op,i.op=op:=⟨_,rfl⟩;have he:∃ s1,E2 E j4 (some n) k st i.op=some s1:=by
    unfold x9 at h;rw [hw] at h;simp only at h;split at h
    ·rename_i s1 Zc hW
     unfold C5 at hW;rw [Xr] at hW;simp only [if_true] at hW;split at hW
     ·rename_i s3 he;exact ⟨s3,he⟩
     ·cases hW
    ·cases h
   obtain ⟨s1,he⟩:=he;cases op<;>rw [hop] at h3<;>simp at h3<;>(try (cases h3;done))<;>rw [hop] at he<;>simp only [E2] at he
   ·rename_i zero
    refine key (.cells zero) (.ptr n 0) (by simp) (fun s2 _=> ?_);rw [hop];rfl
   ·rename_i x
    split at he
    ·rename_i l hl
     refine key (.cells l) (.ptr n 0) (by simp) (fun s2 hρ=> ?_);rw [hop];simp only [E2];rw [hρ x (by simp [hop,s9.S2]),hl];rfl
    ·cases he
   ·rename_i sz len zero parts ob
    subst h3;simp only at he;split at he
    ·rename_i cs hcs
     split at he
     ·rename_i hl
      refine key (.cells cs) (.D0 n sz 0 len) (by simp) (fun s2 hρ=> ?_);rw [hop];simp only [E2];have e:(parts.map fun x=>(x.1,x.2.1,F0 s2.T s2.L x.2.2))=(parts.map fun x=>(x.1,x.2.1,F0 st.T st.L x.2.2)):=gO (fun x hx=>hρ x (by simp only [hop,s9.S2];exact hx));have oq :bg zero (parts.map fun x=>(x.1,x.2.1,F0 st.T st.L x.2.2))=some cs:=hcs;simp only [e,oq,if_pos hl];rfl
     ·cases he
    ·cases he
   ·refine key (.map []) (.map n) (by simp) (fun s2 _=> ?_)
    rw [hop];rfl
end
def Bm (j4:List n8)(j:Nat)(a:n8)(i:Nat)(b:n8):Bool :=
 !(fm j4 b).contains j&& !(fm j4 a).contains i &&
 (match b.dst with|some s=> !(gV a).contains s&&a.dst != some s|none=>true)&&(match a.dst with|some s=> !(gV b).contains s|none=>true) &&
 ((AK a&&(AK b||a.cz.contains i))||(AK b&&b.cz.contains j)||(tO a&&tO b)||(tO a&&AJ b&&a.cz.contains i)||(AJ a&&tO b&&b.cz.contains j))
def Pw (E:Env)(j4:List n8)(X1:Nat->Option Nat)(lg:Nat->iL)(k:Nat)(st st' :E1):Prop :=
 ∃ i,j4[k]? =some i/\gS E j4 (X1 k) k i st=some (st',lg k)
structure Kd (j4:List n8)(X1:Nat->Option Nat):Prop where
 alloc:∀ (k:Nat) i,j4[k]? =some i->(X1 k).isSome=i.op.y3
 inj:∀ j k n,X1 j=some n->X1 k=some n->j=k
def Hy (j4:List n8)(lg:Nat->iL):Prop :=
 ∀ (k:Nat) i e,j4[k]? =some i->e ∈ i.cz->J9 (lg e).CV (lg k).reads=false/\(i.op.y3=true->(lg e).Bz<=(lg k).id)
section
variable {E:Env} {j4:List n8} {s5:Option Nat} {k q:Nat} {v:b6} {st P3 Y9 st' :E1}
theorem fN {i:n8}{l:iL}:gS E j4 s5 k i st=some (st',l)↔(D8 st i.op&&j4.any fun a=>a.cz.contains k)=false/\∃ rs,x9 E j4 s5 k i st=some (st',rs)/\l=cr E i s5 st st' rs:=by
 unfold gS;constructor
 ·intro h
  split at h
  ·cases h
  ·rename_i hk
   refine ⟨by simpa using hk,?_⟩;split at h
   ·rename_i s rs hs
    cases h;exact ⟨rs,hs,rfl⟩
   ·cases h
 ·rintro ⟨hk,rs,hs,rfl⟩
  rw [if_neg (by rw [hk];simp),hs]
theorem bA {i:n8}{l:iL}(h:D8 st i.op=false/\∃ rs,x9 E j4 s5 k i st=some (st',rs)/\l=cr E i s5 st st' rs):gS E j4 s5 k i st=some (st',l) :=
 fN.2 ⟨by rw [h.1];rfl,h.2⟩
theorem Ie {j:Nat}{i b:n8}{q:Nat}(h:(D8 st i.op&&j4.any fun a=>a.cz.contains j)=false)(hb:j4[q]? =some b)(hu:j ∈ b.cz):D8 st i.op=false:=by
 have:(j4.any fun a=>a.cz.contains j)=true:=List.any_eq_true.2 ⟨b,List.mem_of_getElem? hb,by simpa using hu⟩;rw [this,Bool.and_true] at h;exact h
theorem nJ {s2:E1}{op:s9}(h:∀ x,x ∈ op.S2->F0 s2.T s2.L x=F0 st.T st.L x):D8 s2 op=D8 st op:=by
 cases op<;>simp only [D8];rename_i x y;rw [h x (by simp [s9.S2])]
theorem oD {s2:E1}{op:s9}(h:∀ x,x ∈ op.S2->F0 s2.T s2.L x=F0 st.T st.L x)(hH:s2.H=st.H):K4 E s2 op=K4 E st op:=by
 cases op<;>simp only [K4,s9.S2] at h ⊢
 case call f xs=>rw [hH,S0 h]
 case Z3 x xs=>rw [hH,h x (by simp),S0 (l:=xs) fun y hy=>h y (by simp [hy])]
theorem gP {i:n8}(hu:q ∉ fm j4 i):∀ x,x ∈ i.op.S2->F0 (put st q v).T (put st q v).L x=F0 st.T st.L x :=
 fun _ hx=>qg (P6 hx hu)
theorem NF.F0 {n:Nat}{dst:Option Nat}{f:E1->E1}(hf:NF k n dst f){x:r8}(h:k ∉ x.di)(ht:∀ t,dst=some t->t ∉ x.slots)(s:E1):F0 (f s).T (f s).L x=F0 s.T s.L x:=by
 cases hf with
 |mk o v u =>
  simp only;rw [wu ht,qg h,BA,wF]
theorem NF.wanted {n:Nat}{dst:Option Nat}{f:E1->E1}(hf:NF k n dst f){g:Option (Nat×Bool)}(h:∀ j b,g=some (j,b)->j≠k)(s:E1):u0 (f s).L g=u0 s.L g:=by
 cases hf with
 |mk o v u =>
  simp only;rw [GV,wanted_put h,wF]
theorem NF.n5 {n:Nat}{dst:Option Nat}{f:E1->E1}(hf:NF k n dst f)(s:E1):(f s).n5=s.n5:=by
 cases hf with
 |mk o v u =>
  simp only;rw [NO];exact DU _ _ _
theorem NF.U0 {n:Nat}{dst:Option Nat}{f:E1->E1}(hf:NF k n dst f)(s:E1):(f s).T.length=s.T.length:=by
 cases hf with
 |mk o v u =>
  simp only;rw [zx];show (lU s n o).T.length=_
  rw [BA]
theorem NF.fV {n:Nat}{dst:Option Nat}{f:E1->E1}(hf:NF k n dst f)(s:E1):(f s).L.length=s.L.length:=by
 cases hf with
 |mk o v u =>
  simp only;rw [GV];simp [put,wF]
theorem NF.comm {n m j i:Nat}{d e:Option Nat}{f g:E1->E1}(hf:NF j n d f)(hg:NF i m e g)(hji:j≠i)(hnm:n≠m)(hde:∀ s,e=some s->d≠some s)(s:E1):f (g s)=g (f s):=by
 cases hf with
 |mk o v u =>
  cases hg with
  |mk o' v' u' =>
   have kX:∀ (l:List u5) (a b:u5),(l.set m b).set n a=(l.set n a).set m b:=fun l a b=>List.set_comm _ _ (fun e=>hnm e.symm)
   have hL:∀ (l:List b6) (a b:b6),(l.set i b).set j a=(l.set j a).set i b:=fun l a b=>List.set_comm _ _ (fun e=>hji e.symm)
   cases o<;>cases o' <;>cases d<;>cases e<;>simp only [aL,lU,V4,put,hL,kX]
   all_goals (
    rename_i t1 t2;have hT:∀ (l:List b6) (a b:b6),(l.set t2 b).set t1 a=(l.set t1 a).set t2 b:=fun l a b=>List.set_comm _ _ (fun e=>hde t2 rfl (by rw [e]))
    rw [hT])
theorem GU {i:n8}{m:Nat}{o:u5}(hs:K4 E st i.op<=m):K4 E (V4 st m o) i.op=K4 E st i.op:=by
 have e:∀ x,F0 (V4 st m o).T (V4 st m o).L x=F0 st.T st.L x:=fun _=>rfl
 have e1:(V4 st m o).H=st.H.set m o:=rfl;have e2:∀ xs,List.map (F0 (V4 st m o).T (V4 st m o).L) xs=List.map (F0 st.T st.L) xs:=fun _=>rfl
 cases hop:i.op<;>rw [hop] at hs<;>simp only [K4] at hs ⊢
 case call f xs =>
  simp only [e1,e2,List.length_set]
  by_cases hp:E.prom f=true
  ·rw [if_pos hp,if_pos hp]
  ·rw [if_neg hp] at hs ⊢
   rw [if_neg hp];exact fR _ _ _ _ _ _ hs
 case Z3 x xs =>
  simp only [e x,e1,e2,List.length_set];split at hs
  ·rename_i f first caps hx
   by_cases hp:E.prom f=true
   ·simp only [hp,if_true]
   ·rw [if_neg hp] at hs ⊢
    rw [if_neg hp];exact fR _ _ _ _ _ _ hs
  ·rfl
theorem NF.Bz {n j:Nat}{dst:Option Nat}{f:E1->E1}(hf:NF j n dst f){i:n8}(hu:j ∉ fm j4 i)(ht:∀ t,dst=some t->t ∉ gV i) :
  ∃ o:Option u5,K4 E (f st) i.op=K4 E (lU st n o) i.op:=by
 cases hf with
 |mk o v u =>
  refine ⟨o,?_⟩;refine oD (fun x hx=> ?_) ?_
  ·simp only
   rw [wu (fun t h1 h2=>ht t h1 ?_),qg (P6 hx hu)];unfold gV;exact List.mem_flatMap.2 ⟨x,hx,h2⟩
  ·simp only [Vj]
   rfl
theorem VW {i:n8}{n j:Nat}{dst:Option Nat}{f:E1->E1}(hf:NF j n dst f)(hC:AJ i=true)(hjk:j≠k)(hu:j ∉ fm j4 i)(ht:∀ t,dst=some t->t ∉ gV i)(hd:∀ s,i.dst=some s->dst≠some s)(hn:n<st.H.length)(hs:K4 E st i.op<=n) :
  x9 E j4 s5 k i (f st)=(x9 E j4 s5 k i st).map (fun p=>(f p.1,p.2))/\K4 E (f st) i.op=K4 E st i.op:=by
 refine ⟨?_,?_⟩
 ·cases hf with
  |mk o v u =>
   have h1:=Hj (E:=E) (j4:=j4) (s5:=s5) (k:=k) (st:=put (lU st n o) j v) (u:=u) hC ht hd;have h2:=sj (E:=E) (s5:=s5) (v:=v) (st:=lU st n o) hjk hu (fG hC _);have h3:x9 E j4 s5 k i (lU st n o)=(x9 E j4 s5 k i st).map (fun p=>(lU p.1 n o,p.2)):=by
    cases o with
    |none=>simp only [lU];cases x9 E j4 s5 k i st<;>rfl
    |some o=>exact Hi hC hn hs
   simp only;rw [h1,h2,h3];cases x9 E j4 s5 k i st<;>rfl
 ·obtain ⟨o,ho⟩:=hf.Bz (E:=E) (st:=st) hu ht
  rw [ho];cases o with
  |none=>rfl
  |some o=>exact GU hs
theorem JZ {i:n8}{n j:Nat}{dst:Option Nat}{f:E1->E1}(hf:NF j n dst f)(hu:j ∉ fm j4 i)(ht:∀ t,dst=some t->t ∉ gV i)(hs:K4 E (f st) i.op<=n):K4 E st i.op=K4 E (f st) i.op:=by
 obtain ⟨o,ho⟩:=hf.Bz (E:=E) (st:=st) hu ht;rw [ho] at hs ⊢;cases o with
 |none=>rfl
 |some o=>exact La hs
theorem pT {i:n8}{s s2 s' s2' :E1}{rs:List Nat}(h1:s2.n5=s.n5)(h2:s2'.n5=s'.n5)(h3:K4 E s2 i.op=K4 E s i.op):cr E i s5 s2 s2' rs=cr E i s5 s s' rs:=by
 simp only [cr,h1,h2,h3]
theorem fK {i:n8}{s s2 s' s2' :E1}{rs:List Nat}(h1:s2'.n5.take (s2'.n5.length - s2.n5.length)=s'.n5.take (s'.n5.length - s.n5.length))(h3:K4 E s2 i.op=K4 E s i.op):cr E i s5 s2 s2' rs=cr E i s5 s s' rs:=by
 simp only [cr,h1,h3]
theorem Still.Bv {i b:n8}{d:List Touch}{tV:Option Nat}{kb:Nat}(h:Still kb b.dst tV d st st')(hl:kb ∉ fm j4 i)(ht:∀ s,b.dst=some s->s ∉ gV i):∀ x,x ∈ i.op.S2->u7.F0 st'.T st'.L x=u7.F0 st.T st.L x:=by
 intro x hx;refine h.F0 (P6 hx hl) fun s hs e=>ht s e ?_
 unfold gV;exact List.mem_flatMap.2 ⟨x,hx,hs⟩
theorem Still.nc {i b:n8}{d:List Touch}{tV:Option Nat}{kb:Nat}(h:Still kb b.dst tV d st st')(hl:kb ∉ fm j4 i):u0 st'.L i.guard=u0 st.L i.guard :=
 h.wanted fun _ _ hg=>bE hg hl
def fO (j4:List n8)(st:E1):Prop:=∀ (k:Nat) i s,j4[k]? =some i->i.op.y3=true->i.dst=some s->st.n5.any (Touch.Q1 s)=true
theorem Still.marked {kb:Nat}{dst tV:Option Nat}{d:List Touch}(h:Still kb dst tV d st st')(hm:fO j4 st):fO j4 st' :=by
 intro k i s hi ha hd;rw [h.n5,List.any_append,hm k i s hi ha hd];simp
theorem si {i:n8}{rs:List Nat}(hn:s5.isSome=i.op.y3)(h:x9 E j4 s5 k i st=some (st',rs)):st.H.length<=st'.H.length/\∃ d,st'.n5=d++st.n5:=by
 cases hk:D8 st i.op with
 |false =>
  obtain ⟨d,hd⟩:=Still.x9 hk hn h;exact ⟨hd.Gx,d,hd.n5⟩
 |true =>
  have slot:∀ {s s2:E1} {dst:Option Nat},s4 s5 s k dst=some s2->s.H.length=s2.H.length/\∃ d,s2.n5=d++s.n5:=by
   intro s s2 dst h;have hx:(C6 s (.loc k)).2.H=s.H/\(C6 s (.loc k)).2.n5=s.n5:=by
    simp only [C6];split<;>exact ⟨rfl,rfl⟩
   cases dst with
   |none=>cases s5<;>simp only [s4,F8,W3,Option.some.injEq] at h<;>subst h<;>exact ⟨rfl,[],rfl⟩
   |some t =>
    cases s5<;>simp only [s4,F8,W3] at h
    ·split at h
     ·cases h;exact ⟨by simp only [hx.1],[_],rfl⟩
     ·cases h
    ·split at h
     ·cases h;exact ⟨by simp only [hx.1],[],by simp only [hx.2];rfl⟩
     ·cases h
  have au8:∀ {v:b6} {s2:E1},s4 s5 (put st k v) k i.dst=some s2->st.H.length<=s2.H.length/\∃ d,s2.n5=d++st.n5:=by
   intro v s2 h;obtain ⟨h1,d,h2⟩:=slot h;exact ⟨Nat.le_of_eq h1,d,h2⟩
  simp only [x9] at h;split at h
  ·split at h
   ·rename_i s1 Zc h1
    split at h
    ·rename_i s2 h2
     cases h;obtain ⟨e1,d,e2⟩:=slot h2;have hw:st.H.length=s1.H.length/\∃ d,s1.n5=d++st.n5:=by
      cases hop:i.op<;>rw [hop] at hk h1<;>simp only [D8,b7] at hk;rename_i sz bytes ob x y;simp only [C5,s9.D5,if_true] at h1;split at h1
      ·rename_i s3 h3
       cases h1;simp only [E2] at h3;split at hk
       ·rename_i id z lo len hr
        rw [hr] at h3;simp only at h3;split at h3
        ·simp only [V8] at h3
         split at h3
         ·split at h3
          ·split at h3
           ·cases h3
            refine ⟨by simp [put];omega,[_],rfl⟩
           ·cases h3
          ·cases h3
         ·cases h3
        ·cases h3
       ·cases hk
      ·cases h1
     obtain ⟨e3,d2,e4⟩:=hw;exact ⟨by omega,d++d2,by rw [e2,e4,List.append_assoc]⟩
    ·cases h
   ·cases h
  ·split at h
   ·rename_i s2 h2
    cases h;exact au8 h2
   ·cases h
  ·cases h
theorem fO.ext (hm:fO j4 st)(h:∃ d,st'.n5=d++st.n5):fO j4 st' :=by
 obtain ⟨d,h⟩:=h;intro k i s hi ha hd;rw [h,List.any_append,hm k i s hi ha hd];simp
theorem swap {X1:Nat->Option Nat}{lg:Nat->iL}(hn:Kd j4 X1)(Qm:Hy j4 lg){j i:Nat}{a b:n8}(hp:Bm j4 j a i b=true)(ha:j4[j]? =some a)(hb:j4[i]? =some b)(hji:j≠i)
  (hin:∀ k n,X1 k=some n->n<st.H.length) (vB:fO j4 st) (h1:Pw E j4 X1 lg j st P3) (h2:Pw E j4 X1 lg i P3 Y9):∃ Zr,Pw E j4 X1 lg i st Zr /\Pw E j4 X1 lg j Zr Y9:=by
 obtain ⟨a',VI,h1⟩:=h1;rw [ha] at VI;cases VI;obtain ⟨b',hb',h2⟩:=h2;rw [hb] at hb';cases hb';obtain ⟨ka0,rsa,sa,la⟩:=fN.1 h1;obtain ⟨kb0,rsb,sb,lb⟩:=fN.1 h2;simp only [Bm,b5,j9,List.contains_eq_mem,decide_eq_false_iff_not] at hp;obtain ⟨⟨⟨⟨u1,u2⟩,t1⟩,t2⟩,nh⟩:=hp;have t1' :∀ s,b.dst=some s->s ∉ gV a:=by
  intro s hs;rw [hs] at t1;simp at t1;exact t1.1
 have t3:∀ s,b.dst=some s->a.dst≠some s:=by
  intro s hs;rw [hs] at t1;simp at t1;exact t1.2
 have t4:∀ s,a.dst=some s->b.dst≠some s:=fun s hs h=>t3 s h hs
 have Zt :∀ s,a.dst=some s->s ∉ gV b:=by
  intro s hs;rw [hs] at t2;simpa using t2
 have MQ:=hn.alloc j a ha;have tV:=hn.alloc i b hb;simp only [Bool.or_eq_true,b5,decide_eq_true_eq] at nh;have ka:D8 st a.op=false:=by
  rcases nh with (((h|h)|h)|h)|h
  ·exact iT h.1 _
  ·exact Ie ka0 hb h.2
  ·exact cm h.1 _
  ·exact cm h.1.1 _
  ·exact fG h.1.1 _
 have kb:D8 P3 b.op=false:=by
  rcases nh with (((h|h)|h)|h)|h
  ·rcases h.2 with h2|h2
   ·exact iT h2 _
   ·exact Ie kb0 ha h2
  ·exact iT h.1 _
  ·exact cm h.2 _
  ·exact fG h.1.2 _
  ·exact cm h.1.2 _
 obtain ⟨da,Vm⟩:=Still.x9 ka MQ sa
 rcases nh with (((nh|nh)|nh)|nh)|nh
 ·
  obtain ⟨hPa,nh⟩:=nh;obtain ⟨v,rfl,Ta⟩:=FO hPa sa;have kb' :D8 st b.op=false:=by rw [<- nJ (gP u1)];exact kb
  have hs:=sj (E:=E) (s5:=X1 i) (v:=v) hji u1 kb';rw [hs] at sb;cases LD:x9 E j4 (X1 i) i b st with
  |none=>rw [LD] at sb;cases sb
  |some p =>
   obtain ⟨s',rs'⟩:=p;rw [LD] at sb;simp only [E6,Option.some.injEq,Prod.mk.injEq] at sb;obtain ⟨rfl,rfl⟩:=sb;have lb' :lg i=cr E b (X1 i) st s' rs' :=by rw [lb];exact pT rfl rfl (oD (gP u1) rfl)
   obtain ⟨db,Rt⟩:=Still.x9 kb' tV LD;refine ⟨s',⟨b,hb,bA ⟨kb',rs',LD,lb'⟩⟩,a,ha,bA ⟨iT hPa _,rsa,?_,?_⟩⟩
   ·refine Ta s' (Rt.Bv u2 t1') (Rt.nc u2) fun id hid=> ?_
    rcases nh with VH|hun
    ·obtain ⟨u,rfl,_⟩:=FO VH LD
     exact N7.refl _
    ·have:=(Qm j a i ha hun).1
     rw [lb',la] at this;exact Rt.reads (E:=E) (i:=b) (rs:=rs') this hid
   ·rw [la]
    refine (fK ?_ ?_).symm
    ·simp [put]
    ·rw [mP hPa,mP hPa]
 ·
  obtain ⟨VH,hun⟩:=nh;obtain ⟨v,rfl,Tb⟩:=FO VH sb;have Zk:x9 E j4 (X1 i) i b st=some (put st i v,rsb):=by
   refine Tb st (fun x hx=>(Vm.Bv u1 Zt x hx).symm) (Vm.nc u1).symm fun id hid=> ?_
   have:=(Qm i b j hb hun).1;rw [la,lb] at this;exact (Vm.reads (E:=E) (i:=a) (rs:=rsa) this hid).symm
  refine ⟨put st i v,⟨b,hb,bA ⟨iT VH _,rsb,Zk,?_⟩⟩,a,ha,bA ⟨by rw [nJ (gP u2)];exact ka,rsa,?_,?_⟩⟩
  ·rw [lb]
   refine (fK ?_ ?_)
   ·simp [put]
   ·rw [mP VH,mP VH]
  ·rw [sj (fun e=>hji e.symm) u2 ka,sa]
   rfl
  ·rw [la]
   exact (pT (s:=st) (s2:=put st i v) (s' :=P3) (s2' :=put P3 i v) rfl rfl (oD (gP u2) rfl)).symm
 ·
  obtain ⟨Lx,Lz⟩:=nh;rw [dR Lx] at MQ;rw [dR Lz] at tV;obtain ⟨n,Sa⟩:=Option.isSome_iff_exists.1 MQ;obtain ⟨m,Gq⟩:=Option.isSome_iff_exists.1 tV;rw [Sa] at sa;rw [Gq] at sb;obtain ⟨rfl,f,hf,rfl,Ta⟩:=AA Lx sa;obtain ⟨rfl,g,hg,rfl,Tb⟩:=AA Lz sb;have hnm:n≠m:=by
   rintro rfl;exact hji (hn.inj j i n Sa Gq)
  have ut:∀ {c:n8} {x:r8} {t:Nat},x ∈ c.op.S2->t ∉ gV c->t ∉ x.slots:=by
   intro c x t hx ht h;apply ht;unfold gV;exact List.mem_flatMap.2 ⟨x,hx,h⟩
  have Zk:x9 E j4 (some m) i b st=some (g st,[]) :=
   Tb st (fun x hx=>(hf.F0 (P6 hx u1) (fun t ht=>ut hx (Zt t ht)) st).symm) (hf.wanted (fun _ _ h=>bE h u1) st).symm ⟨(hf.U0 st).symm,(hf.fV st).symm,fun s hs=>vB i b s hb (dR Lz) hs⟩
  have sa0:x9 E j4 (some n) j a (g st)=some (f (g st),[]) :=
   Ta (g st) (fun x hx=>hg.F0 (P6 hx u2) (fun t ht=>ut hx (t1' t ht)) st) (hg.wanted (fun _ _ h=>bE h u2) st) ⟨hg.U0 st,hg.fV st,fun s hs=>by rw [hg.n5];exact vB j a s ha (dR Lx) hs⟩
  refine ⟨g st,⟨b,hb,bA ⟨cm Lz _,[],by rw [Gq];exact Zk,?_⟩⟩,a,ha,bA ⟨cm Lx _,[],by rw [Sa,sa0,hf.comm hg hji hnm t3],?_⟩⟩
  ·rw [lb]
   refine fK ?_ ?_
   ·simp [hf.n5,hg.n5]
   ·rw [cn Lz,cn Lz]
  ·rw [la]
   refine (fK ?_ ?_)
   ·simp [hf.n5,hg.n5]
   ·rw [cn Lx,cn Lx]
 ·
  obtain ⟨⟨Lx,hCb⟩,hun⟩:=nh;have sO:=dR Lx;rw [sO] at MQ;obtain ⟨n,Sa⟩:=Option.isSome_iff_exists.1 MQ;rw [Sa] at sa;obtain ⟨rfl,f,hf,rfl,Ta⟩:=AA Lx sa;have Qo:K4 E (f st) b.op<=n:=by
   have:=(Qm j a i ha hun).2 sO;rw [lb,la] at this;simpa [cr,Sa] using this
  have XQ:=JZ hf u1 Zt Qo;obtain ⟨hs1,vA⟩:=VW (E:=E) (j4:=j4) (s5:=X1 i) hf hCb hji u1 Zt t3 (hin j n Sa) (by rw [XQ];exact Qo);rw [hs1] at sb;cases LD:x9 E j4 (X1 i) i b st with
  |none=>rw [LD] at sb;cases sb
  |some p =>
   obtain ⟨s',rs'⟩:=p;rw [LD] at sb;simp only [E6,Option.some.injEq,Prod.mk.injEq] at sb;obtain ⟨rfl,rfl⟩:=sb;obtain ⟨db,Rt⟩:=Still.x9 (fG hCb st) tV LD;refine ⟨s',⟨b,hb,bA ⟨fG hCb _,rs',LD,?_⟩⟩,a,ha,bA ⟨cm Lx _,[],?_,?_⟩⟩
   ·rw [lb]
    exact pT (hf.n5 _) (hf.n5 _) vA
   ·rw [Sa]
    exact Ta s' (Rt.Bv u2 t1') (Rt.nc u2) ⟨Rt.U0,Rt.fV,fun s hs=>Rt.marked vB j a s ha sO hs⟩
   ·rw [la]
    refine fK ?_ ?_
    ·simp [hf.n5]
    ·rw [cn Lx,cn Lx]
 ·
  obtain ⟨⟨hCa,Lz⟩,hun⟩:=nh;have sO:=dR Lz;rw [sO] at tV;obtain ⟨m,Gq⟩:=Option.isSome_iff_exists.1 tV;rw [Gq] at sb;obtain ⟨rfl,g,hg,rfl,Tb⟩:=AA Lz sb;have Qo:K4 E st a.op<=m:=by
   have:=(Qm i b j hb hun).2 sO;rw [lb,la] at this;simpa [cr,Gq] using this
  obtain ⟨hs1,vA⟩:=VW (E:=E) (j4:=j4) (s5:=X1 j) hg hCa (fun e=>hji e.symm) u2 t1' t4 (hin i m Gq) Qo;have Zk:x9 E j4 (some m) i b st=some (g st,[]) :=
   Tb st (fun x hx=>(Vm.Bv u1 Zt x hx).symm) (Vm.nc u1).symm ⟨Vm.U0.symm,Vm.fV.symm,fun s hs=>vB i b s hb sO hs⟩
  refine ⟨g st,⟨b,hb,bA ⟨cm Lz _,[],by rw [Gq];exact Zk,?_⟩⟩,a,ha,bA ⟨fG hCa _,rsa,?_,?_⟩⟩
  ·rw [lb]
   refine fK ?_ ?_
   ·simp [hg.n5]
   ·rw [cn Lz,cn Lz]
  ·rw [hs1,sa];rfl
  ·rw [la]
   exact (pT (hg.n5 _) (hg.n5 _) vA).symm
end
inductive oN (E:Env) (j4:List n8) (X1:Nat->Option Nat) (lg:Nat->iL):List Nat->E1->E1->Prop where
 |nil (st:E1):oN E j4 X1 lg [] st st
 |cons {k:Nat} {ks:List Nat} {st P3 Y9:E1}:Pw E j4 X1 lg k st P3->oN E j4 X1 lg ks P3 Y9->oN E j4 X1 lg (k::ks) st Y9
section
variable {E:Env} {j4:List n8} {X1:Nat->Option Nat} {lg:Nat->iL} {st P3 Y9 fin:E1}
theorem Pw.len (hn:Kd j4 X1){k:Nat}(h:Pw E j4 X1 lg k st P3):st.H.length<=P3.H.length:=by
 obtain ⟨i,hi,h⟩:=h;obtain ⟨hk,rs,hs,_⟩:=fN.1 h;exact (si (hn.alloc k i hi) hs).1
theorem Pw.marked (hn:Kd j4 X1){k:Nat}(h:Pw E j4 X1 lg k st P3)(hm:fO j4 st):fO j4 P3:=by
 obtain ⟨i,hi,h⟩:=h;obtain ⟨hk,rs,hs,_⟩:=fN.1 h;exact hm.ext (si (hn.alloc k i hi) hs).2
theorem oN.front (hn:Kd j4 X1)(Qm:Hy j4 lg){i:Nat}{b:n8}(hb:j4[i]? =some b){rest:List Nat} :
  ∀ (js:List Nat) (st:E1),(∀ j,j ∈ js->j≠i/\∃ a,j4[j]? =some a/\Bm j4 j a i b=true)->(∀ k n,X1 k=some n->n<st.H.length)->fO j4 st->oN E j4 X1 lg (js++i::rest) st fin ->
   ∃ st',Pw E j4 X1 lg i st st' /\oN E j4 X1 lg (js++rest) st' fin
 |[],st,_,_,_,h=>by
  cases h with
  |cons h1 h2=>exact ⟨_,h1,h2⟩
 |j::js,st,hj,hin,vB,h=>by
  cases h with
  |cons h1 h2 =>
   obtain ⟨s2,g1,g2⟩:=oN.front hn Qm hb js _ (fun j' hj' =>hj j' (by simp [hj'])) (fun k n hk=>Nat.lt_of_lt_of_le (hin k n hk) (h1.len hn)) (h1.marked hn vB) h2;obtain ⟨hne,a,ha,hp⟩:=hj j (by simp);obtain ⟨s1,e1,e2⟩:=swap hn Qm hp ha hb hne hin vB h1 g1;exact ⟨s1,e1,oN.cons e2 g2⟩
end
def direct (o:Oper):List Nat:=(o.after.toList.filter (Region.binds .any)).map (·.on)
def FP:List Oper->List (List Nat)->List (List Nat)
 |[],acc=>acc
 |o::os,acc=>FP os (acc++[((direct o).flatMap fun e=>e::acc.getD e []).eraseDups])
def zh (gT:List (List Nat))(k:Nat)(o:Oper):Bool :=
 (gT.getD k []).all fun j=>(direct o).contains j||(direct o).any fun e=>(gT.getD e []).contains j
def uU (j4:List n8)(gT:List (List Nat))(i:Nat)(b:n8):Bool :=
 (List.range i).all fun j=>(gT.getD i []).contains j||(match j4[j]? with
  |some a=>Bm j4 j a i b
  |none=>false)
def kL (X:Cx)(j4:List n8)(gT:List (List Nat)):List n8->Nat->Bool
 |[],k=>X.ops.size==k
 |i::is,k=>(match X.ops[k]? with
  |some o=>zh gT k o&&(direct o).all (fun e=>decide (e<k))&&nW X (fun j=>(gT.getD k []).contains j) o i&&uU j4 gT k i
  |none=>false)&&kL X j4 gT is (k+1)
theorem uS {X:Cx}{j4:List n8}{gT:List (List Nat)}:∀ (is:List n8) (k:Nat),j4.drop k=is->kL X j4 gT is k=true->∀ (m:Nat) b,k<=m->j4[m]? =some b ->
  ∃ o,X.ops[m]? =some o/\zh gT m o=true/\(∀ e,e ∈ direct o->e<m)/\nW X (fun j=>(gT.getD m []).contains j) o b=true/\uU j4 gT m b=true
 |[],k,hd,_,m,b,hkm,hb=>by
  have:j4.length<=k:=by
   have:=congrArg List.length hd;simp at this;omega
  have:=n9 hb;omega
 |i::is,k,hd,h,m,b,hkm,hb=>by
  simp only [kL,b5] at h
  by_cases e:m=k
  ·subst e
   have hi:j4[m]? =some i:=by
    have:(j4.drop m)[0]? =some i:=by rw [hd];rfl
    rw [List.getElem?_drop] at this;simpa using this
   rw [hi] at hb;cases hb;cases ho:X.ops[m]? with
   |none=>rw [ho] at h;exact absurd h.1 (by simp)
   |some o =>
    rw [ho] at h;simp only [b5] at h;exact ⟨o,rfl,h.1.1.1.1,fun e he=>by simpa using List.all_eq_true.1 h.1.1.1.2 e he,h.1.1.2,h.1.2⟩
  ·have hd' :j4.drop (k+1)=is:=by
    have:=congrArg (List.drop 1) hd;rw [List.drop_drop] at this;simpa using this
   exact uS is (k+1) hd' h.2 m b (by omega) hb
theorem kM {X:Cx}{j4:List n8}{gT:List (List Nat)}:∀ (is:List n8) (k:Nat),kL X j4 gT is k=true->X.ops.size=k+is.length
 |[],k,h=>by simpa [kL] using h
 |i::is,k,h=>by
  simp only [kL,b5] at h;have:=kM is (k+1) h.2;simp only [y8];omega
def LI (X:Cx)(S:Nat->Prop):Prop:=∀ (k:Nat) o,S k->X.ops[k]? =some o->∀ e,e ∈ direct o->S e
theorem FQ {X:Cx}{gT:List (List Nat)}{S:Nat->Prop}(hc:LI X S)(hok:∀ (k:Nat) o,X.ops[k]? =some o->zh gT k o=true/\∀ e,e ∈ direct o->e<k)(hout:∀ k,X.ops.size<=k->gT.getD k []=[]) :
  ∀ (n k:Nat),k<=n->∀ o,X.ops[k]? =some o->(∀ e,e ∈ direct o->S e)->∀ j,j ∈ gT.getD k []->S j:=by
 intro n
 induction n with
 |zero =>
  intro k hk o ho hd j hj;obtain ⟨h1,h2⟩:=hok k o ho;unfold zh at h1;have:=List.all_eq_true.1 h1 j hj;simp only [Bool.or_eq_true,List.contains_eq_mem,decide_eq_true_eq,List.any_eq_true] at this
  rcases this with h|⟨e,he,_⟩
  ·exact hd j h
  ·have:=h2 e he;omega
 |succ n ih =>
  intro k hk o ho hd j hj;obtain ⟨h1,h2⟩:=hok k o ho;unfold zh at h1;have:=List.all_eq_true.1 h1 j hj;simp only [Bool.or_eq_true,List.contains_eq_mem,decide_eq_true_eq,List.any_eq_true] at this
  rcases this with h|⟨e,he,hej⟩
  ·exact hd j h
  ·have hlt:=h2 e he
   cases hoe:X.ops[e]? with
   |none =>
    have:X.ops.size<=e:=by
     rcases p7 e X.ops.size with h|h
     ·simp [h] at hoe
     ·exact h
    rw [hout e this] at hej;simp at hej
   |some oe=>exact ih e (by omega) oe hoe (hc e oe (hd e he) hoe) j hej
def aO (n:Nat)(listed:Array Bool):List Nat:=(List.range n).filter fun j=> !listed.getD j false
theorem DL {n i:Nat}{listed:Array Bool}(hi:i<n)(hu:listed.getD i false=false)(hs:listed.size=n) :
  ∃ js rest,aO n listed=js++i::rest/\aO n (listed.setIfInBounds i true)=js++rest/\∀ j,j ∈ js->j<i/\listed.getD j false=false:=by
 refine ⟨(List.range i).filter fun j=> !listed.getD j false,(List.range' (i+1) (n - i - 1)).filter fun j=> !listed.getD j false,?_,?_,?_⟩
 ·unfold aO
  have:List.range n=List.range i++i::List.range' (i+1) (n - i - 1):=by
   have h:=List.range'_append_1 (s:=0) (m:=i) (n:=n - i - 1+1);rw [Nat.zero_add] at h;rw [List.range_eq_range',List.range_eq_range',<- List.range'_succ,h]
   congr 1;omega
  rw [this,List.filter_append,List.filter_cons];simp [hu]
 ·unfold aO
  have:List.range n=List.range i++i::List.range' (i+1) (n - i - 1):=by
   have h:=List.range'_append_1 (s:=0) (m:=i) (n:=n - i - 1+1);rw [Nat.zero_add] at h;rw [List.range_eq_range',List.range_eq_range',<- List.range'_succ,h]
   congr 1;omega
  rw [this,List.filter_append,List.filter_cons];have e1:(!(listed.setIfInBounds i true).getD i false)=false:=by simp [hs,hi]
  rw [e1];simp only [b7,if_false]
  congr 1
  ·refine List.filter_congr fun j hj=> ?_
   have:i≠j:=by simp at hj;omega
   simp [Array.getElem?_setIfInBounds_ne this]
  ·refine List.filter_congr fun j hj=> ?_
   have:i≠j:=by simp at hj;omega
   simp [Array.getElem?_setIfInBounds_ne this]
 ·intro j hj
  simpa using hj
section
variable {X:Cx} {j4:List n8} {E:Env} {nt:Nat} {X1:Nat->Option Nat} {lg:Nat->iL} {fin:E1} {gT:List (List Nat)}
theorem Kg (hst:Stat X nt)(Ck:kK X.P E.cf E.prom)(dx:∀ f args H lm r,E.cf f args H lm=some r->T3 X.P f=true)(hs:E.lim.strict<=E.lim.base)(TB:E.lim.base<=E.entry)(Q:Exit->Act->World->Prop)
  (AZ:kL X j4 gT j4 0=true) (hout:∀ k,X.ops.size<=k->gT.getD k []=[]) (hn:Kd j4 X1) (hne:∀ k n,X1 k=some n->E.entry<=n) (Qm:Hy j4 lg) :
  ∀ (fuel:Nat) (listed:Array Bool) (st:E1) (a:Act) (w:World) (G:Gh) (I:Q9) (N:Nat->Prop),Rg X j4 E nt (fun j=>listed.getD j false=true) st a w G I N->listed.size=j4.length->LI X (fun j=>listed.getD j false=true) ->
   (∀ k n,X1 k=some n->n<st.H.length)->fO j4 st->(∀ k n,X1 k=some n->listed.getD k false=false->¬ N n)->oN E j4 X1 lg (aO j4.length listed) st fin->(aO j4.length listed).length<=fuel ->
   (∀ a' w' G' I' N',Fin X j4 E nt st w G I N fin a' w' G' I' N' ->Q .normal a' w')->wpAny X.P .any X.ops Q fuel listed a w:=by
 have hsize:X.ops.size=j4.length:=by have:=kM j4 0 AZ;omega
 have CQ:=fun (m:Nat) b hb=>uS j4 0 (by simp) AZ m b (Nat.zero_le _) hb
 have Mu:∀ (k:Nat) o,X.ops[k]? =some o->zh gT k o=true/\∀ e,e ∈ direct o->e<k:=by
  intro k o ho;have hk:k<j4.length:=by
   rw [<- hsize];exact (Array.getElem?_eq_some_iff.1 ho).1
  obtain ⟨o',h1,h2,h3,_⟩:=CQ k j4[k] (o7 hk);rw [ho] at h1;cases h1;exact ⟨h2,h3⟩
 have sP:∀ (listed:Array Bool),listed.size=j4.length->Region.ready .any X.ops listed=[]->aO j4.length listed=[]:=by
  intro listed hls hr;cases vv:aO j4.length listed with
  |nil=>rfl
  |cons i rest =>
   exfalso;have hi:i<j4.length/\listed.getD i false=false/\∀ j,j<i->listed.getD j false=true:=by
    have hm:i ∈ aO j4.length listed:=by rw [vv];simp
    unfold aO at hm;simp only [List.mem_filter,List.mem_range,j9] at hm;refine ⟨hm.1,hm.2,fun j hj=> ?_⟩;cases hlj:listed.getD j false with
    |true=>rfl
    |false =>
     have hjm:j ∈ aO j4.length listed:=by
      unfold aO;simp only [List.mem_filter,List.mem_range,j9];exact ⟨by omega,hlj⟩
     have HU:(aO j4.length listed).Pairwise (·<·):=List.Pairwise.filter _ List.pairwise_lt_range;rw [vv] at HU hjm
     rcases B8.1 hjm with h|h
     ·omega
     ·have:=(List.pairwise_cons.1 HU).1 j h
      omega
   obtain ⟨o,ho,_,hlt,_⟩:=CQ i j4[i] (o7 hi.1);have:i ∈ Region.ready .any X.ops listed:=by
    rw [mem_ready];refine ⟨?_,o,ho,fun e he hb=> ?_⟩
    ·have yh:i<listed.size:=by omega
     have:=hi.2.1;simp [yh] at this ⊢;exact this
    ·have:e.on ∈ direct o:=by
      unfold direct;refine List.mem_map.2 ⟨e,List.mem_filter.2 ⟨by simpa using he,hb⟩,rfl⟩
     exact hi.2.2 _ (hlt _ this)
   rw [hr] at this;cases this
 have hend:∀ (listed:Array Bool) (st:E1) (a:Act) (w:World) (G:Gh) (I:Q9) (N:Nat->Prop),Rg X j4 E nt (fun j=>listed.getD j false=true) st a w G I N->listed.size=j4.length->oN E j4 X1 lg (aO j4.length listed) st fin->aO j4.length listed=[] ->
   Fin X j4 E nt st w G I N fin a w G I N:=by
  intro listed st a w G I N hR hls hrun vv;rw [vv] at hrun;cases hrun;refine ⟨hR.congr fun j=> ?_,V5.refl _ _ _ _ _ _⟩;constructor
  ·intro h
   rcases p7 j listed.size with h' |h'
   ·omega
   ·simp [Array.getElem?_eq_none h'] at h
  ·intro h
   cases hlj:listed.getD j false with
   |true=>rfl
   |false =>
    have hjm:j ∈ aO j4.length listed:=by
     unfold aO;simp only [List.mem_filter,List.mem_range,j9];exact ⟨h,hlj⟩
    rw [vv] at hjm;cases hjm
 intro fuel
 induction fuel with
 |zero =>
  intro listed st a w G I N hR hls hcl hin vB hfr hrun hfl hQ;have vv:aO j4.length listed=[]:=List.length_eq_zero_iff.1 (by omega);refine ⟨?_,hQ _ _ _ _ _ (hend listed st a w G I N hR hls hrun vv)⟩;cases hr:Region.ready .any X.ops listed with
  |nil=>rfl
  |cons i rest =>
   exfalso;have:i ∈ Region.ready .any X.ops listed:=by rw [hr];simp
   obtain ⟨h0,o,ho,_⟩:=mem_ready.1 this;have hi:i<j4.length:=by rw [<- hsize];exact (Array.getElem?_eq_some_iff.1 ho).1
   have yh:i<listed.size:=by omega
   have:i ∈ aO j4.length listed:=by
    unfold aO;simp only [List.mem_filter,List.mem_range,j9];refine ⟨hi,?_⟩;simp [yh] at h0 ⊢;exact h0
   rw [vv] at this;cases this
 |succ fuel ih =>
  intro listed st a w G I N hR hls hcl hin vB hfr hrun hfl hQ;refine ⟨fun hr=>hQ _ _ _ _ _ (hend listed st a w G I N hR hls hrun (sP listed hls hr)),fun i hi=> ?_⟩;obtain ⟨h0,o,ho,hall⟩:=mem_ready.1 hi;have hia:i<j4.length:=by rw [<- hsize];exact (Array.getElem?_eq_some_iff.1 ho).1
  have yh:i<listed.size:=by omega
  have hun:listed.getD i false=false:=by
   simp [yh] at h0 ⊢;exact h0
  obtain ⟨b,hb⟩:∃ b,j4[i]? =some b:=⟨_,o7 hia⟩;obtain ⟨o',ho',hoa,hlt,hci,dc⟩:=CQ i b hb;rw [ho] at ho';cases ho';have Xq:∀ e,e ∈ direct o->listed.getD e false=true:=by
   intro e he;unfold direct at he;obtain ⟨ed,hed,rfl⟩:=List.mem_map.1 he;rw [List.mem_filter] at hed;exact hall ed (by simpa using hed.1) hed.2
  have Xh:=FQ hcl Mu hout i i (l5 _) o ho Xq;obtain ⟨js,rest,VL,Sf,hjs⟩:=DL hia hun hls;rw [VL] at hrun;obtain ⟨P3,ao5,XN⟩:=oN.front hn Qm hb js st (fun j hj=>by
   obtain ⟨hji,hju⟩:=hjs j hj;refine ⟨by omega,?_⟩;unfold uU at dc;have:=List.all_eq_true.1 dc j (List.mem_range.2 hji);simp only [Bool.or_eq_true,List.contains_eq_mem,decide_eq_true_eq] at this
   rcases this with h|h
   ·have:=Xh j h
    rw [hju] at this;cases this
   ·cases hja:j4[j]? with
    |none=>rw [hja] at h;cases h
    |some a' =>rw [hja] at h;exact ⟨a',rfl,h⟩) hin vB hrun
  obtain ⟨b',hb',hD⟩:=ao5;rw [hb] at hb';cases hb';obtain ⟨hk,rs,hstep,aR8⟩:=fN.1 hD;have hstill:=(si (hn.alloc i b hb) hstep).2;refine tj hst Ck dx hs TB hR (D:=fun j=>(gT.getD i []).contains j) (fun j hj=>Xh j (by simpa using hj)) (by rw [hun];simp) ho hb hci (s5:=X1 i) (fun sO=> ?_) (fun n hni=>⟨hne i n hni,hin i n hni⟩) hstep _ _ ?_
  ·have:=hn.alloc i b hb
   rw [sO] at this;obtain ⟨n,hni⟩:=Option.isSome_iff_exists.1 this;rw [hni];have h1:=hne i n hni;exact ⟨hfr i n hni hun,(fun m hm=>by cases hm;exact hin i n hni),by simp only [newId,Option.getD_some];omega,by simp only [newId,Option.getD_some];omega⟩
  ·intro a' w' G' I' N' hdn
   have kX:∀ j,(listed.setIfInBounds i true).getD j false=true↔(listed.getD j false=true\/j=i):=by
    intro j
    by_cases e:j=i
    ·subst e;simp [yh]
    ·rw [Go.getD_set_ne false (fun h=>e h.symm)]
     simp [e]
   refine ih (listed.setIfInBounds i true) P3 a' w' G' I' N' (hdn.rg.congr fun j=>(kX j).symm) (by simp [hls]) ?_ (fun k n hk=>Nat.lt_of_lt_of_le (hin k n hk) hdn.len) (vB.ext hstill) ?_ (by rw [Sf];exact XN) ?_ ?_
   ·intro k ok hk hok e he
    rw [kX] at hk ⊢
    rcases hk with hk|rfl
    ·exact Or.inl (hcl k ok hk hok e he)
    ·rw [ho] at hok;cases hok
     exact Or.inl (Xq e he)
   ·intro k n hk hku hN
    have XB :listed.getD k false=false/\k≠i:=by
     have:=kX k;rw [hku] at this;simp at this;exact ⟨by simpa using this.1,this.2⟩
    rcases hdn.old n (hin k n hk) hN with h|h
    ·exact hfr k n hk XB.1 h
    ·exact XB.2 (hn.inj k i n hk h)
   ·rw [Sf]
    rw [VL] at hfl;simp at hfl ⊢;omega
   ·intro a'' w'' VY I'' N'' hf
    exact hQ _ _ _ _ _ ⟨hf.rg,hdn.since.trans hf.since⟩
def lG (j4:List n8)(base:Nat)(k:Nat):Option Nat :=
 match j4[k]? with
 |some i=>if i.op.y3 then some (base+((j4.take k).filter (·.op.y3)).length) else none
 |none=>none
theorem Qz (j4:List n8)(base:Nat):Kd j4 (lG j4 base):=by
 refine ⟨fun k i hi=> ?_,fun j k n hj hk=> ?_⟩
 ·simp only [lG,hi]
  split
  ·rename_i h;simp [h]
  ·rename_i h;simp [h]
 ·have key:∀ a b n,a<b->lG j4 base a=some n->lG j4 base b=some n->False:=by
   intro a b n hab ha hb;unfold lG at ha hb;split at ha
   ·rename_i i hi
    split at ha
    ·rename_i sO
     split at hb
     ·split at hb
      ·cases ha
       simp only [Option.some.injEq] at hb;have h1:((j4.take (a+1)).filter (·.op.y3)).length=((j4.take a).filter (·.op.y3)).length+1:=by
        rw [List.take_add_one,hi];simp [List.filter_append,sO]
       have h2:((j4.take (a+1)).filter (·.op.y3)).length<=((j4.take b).filter (·.op.y3)).length:=by
        refine List.Sublist.length_le (List.Sublist.filter _ ?_);exact List.take_sublist_take_left (by omega)
       omega
      ·cases hb
     ·cases hb
    ·cases ha
   ·cases ha
  rcases Nat.lt_trichotomy j k with h|h|h
  ·exact (key j k n h hj hk).elim
  ·exact h
  ·exact (key k j n h hk hj).elim
theorem tf {base:Nat}:∀ (is:List n8) (k:Nat) (na:Nat) (st Y9:E1) (FC:List iL) (XZ:Nat->iL),j4.drop k=is->na=base+((j4.take k).filter (·.op.y3)).length->O3 E j4 is k na st=some (Y9,FC) ->
  (∀ m,m<is.length->XZ (k+m)=FC.getD m ⟨[],[],0,0⟩)->FC.length=is.length/\oN E j4 (lG j4 base) XZ (List.range' k is.length) st Y9
 |[],k,na,st,Y9,FC,XZ,hd,hna,h,hl=>by
  simp only [O3] at h;cases h;exact ⟨rfl,oN.nil _⟩
 |i::is,k,na,st,Y9,FC,XZ,hd,hna,h,hl=>by
  have hi:j4[k]? =some i:=by
   have:(j4.drop k)[0]? =some i:=by rw [hd];rfl
   rw [List.getElem?_drop] at this;simpa using this
  have hd' :j4.drop (k+1)=is:=by
   have:=congrArg (List.drop 1) hd;rw [List.drop_drop] at this;simpa using this
  simp only [O3] at h;split at h
  ·rename_i P3 l hstep
   split at h
   ·rename_i Vl lg3 hrun
    cases h;have an3 :(if i.op.y3=true then na+1 else na)=base+((j4.take (k+1)).filter (·.op.y3)).length:=by
     rw [List.take_add_one,hi];cases sO:i.op.y3
     ·simp [List.filter_append,sO,hna]
     ·simp [List.filter_append,sO,hna];omega
    obtain ⟨g1,g2⟩:=tf is (k+1) _ P3 Y9 lg3 XZ hd' an3 hrun (fun m hm=>by
     have:=hl (m+1) (by simp;omega);rw [show k+(m+1)=k+1+m from by omega] at this;simpa using this)
    refine ⟨by simp [g1],?_⟩;simp only [y8,List.range'_succ];refine oN.cons ⟨i,hi,?_⟩ g2;have h0:=hl 0 (by simp);simp only [Nat.add_zero,List.getD_cons_zero] at h0;rw [h0];have:lG j4 base k=if i.op.y3=true then some na else none:=by
     simp only [lG,hi,hna]
    rw [this];exact hstep
   ·cases h
  ·cases h
theorem KL {FC:List iL}(hlen:FC.length=j4.length)(h:sY j4 FC=true):Hy j4 (fun k=>FC.getD k ⟨[],[],0,0⟩):=by
 intro k i e hi he;unfold sY at h;have hk:=n9 hi;have hz:(i,FC.getD k ⟨[],[],0,0⟩) ∈ j4.zip FC:=by
  refine List.mem_of_getElem? (i:=k) ?_;rw [List.getElem?_zip_eq_some];refine ⟨hi,?_⟩;rw [List.getD,o7 (by omega)];rfl
 have h1:=List.all_eq_true.1 h _ hz;simp only at h1;have h2:=List.all_eq_true.1 h1 e he;split at h2
 ·rename_i le hle
  simp only [b5,j9,Bool.or_eq_true,decide_eq_true_eq] at h2;have e1:FC.getD e ⟨[],[],0,0⟩=le:=by simp [List.getD,hle]
  simp only [e1];refine ⟨h2.1,fun sO=> ?_⟩
  rcases h2.2 with h3|h3
  ·rw [sO] at h3;cases h3
  ·exact h3
 ·cases h2
end
structure Cd (P:Program)(names:List Tmp)(E:Env)(nt:Nat)(st:St)(a:Act)(w:World)(G:Gh)(I:Q9)(N:Nat->Prop):Prop where
 T:∀ (s:Nat) t,names[s]? =some t->VR G I N w (.slot s) (st.T.getD s .any) (a.tmps.getD t undef)
 H:HR G I N w st.H
 wf:WF G w
 T9:Ka E.lim st.H
 U0:st.T.length=names.length
 bO:∀ id,N id->id<st.H.length
 CG:E.entry<=st.H.length
 size:a.tmps.size=nt
 idle:∀ d,d ∈ a.defers->Cn P E.idle d
def od (names:List Tmp):List (Option Tmp)->Bool
 |[]=>true
 |none::r=>od names r
 |some d::r=>(names.contains d|| !r.contains (some d))&&od names r
def gL:List Tmp->Bool
 |[]=>true
 |x::xs=> !xs.contains x&&gL xs
theorem nL:∀ (l:List Tmp),gL l=true->∀ (s s' :Nat) t,l[s]? =some t->l[s']? =some t->s=s'
 |[],_,s,s',t,h,_=>by simp at h
 |x::xs,hok,s,s',t,h,h' =>by
  simp only [gL,b5,j9,List.contains_eq_mem,decide_eq_false_iff_not] at hok;cases s with
  |zero =>
   simp at h;subst h;cases s' with
   |zero=>rfl
   |succ s' =>exact absurd (List.mem_of_getElem? (by simpa using h')) hok.1
  |succ s =>
   cases s' with
   |zero =>
    simp at h';subst h';exact absurd (List.mem_of_getElem? (by simpa using h)) hok.1
   |succ s' =>rw [nL xs hok.2 s s' t (by simpa using h) (by simpa using h')]
theorem pz (names:List Tmp):∀ (l:List (Option Tmp)),od names l=true->∀ (i j:Nat) d,l[i]? =some (some d)->l[j]? =some (some d)->names.contains d=false->i=j
 |[],_,i,j,d,h,_,_=>by simp at h
 |x::xs,hok,i,j,d,h,h',hn=>by
  have pM:od names xs=true:=by
   cases x with
   |none=>exact hok
   |some d' =>simp only [od,b5] at hok;exact hok.2
  have hnot:x=some d->some d ∉ xs:=by
   rintro rfl;simp only [od,b5,Bool.or_eq_true,j9,List.contains_eq_mem,decide_eq_false_iff_not] at hok
   rcases hok.1 with h1|h1
   ·simp at hn;simp at h1;exact absurd h1 hn
   ·exact h1
  cases i with
  |zero =>
   simp at h;cases j with
   |zero=>rfl
   |succ j=>exact absurd (List.mem_of_getElem? (by simpa using h')) (hnot h)
  |succ i =>
   cases j with
   |zero =>
    simp at h';exact absurd (List.mem_of_getElem? (by simpa using h)) (hnot h')
   |succ j=>rw [pz names xs pM i j d (by simpa using h) (by simpa using h') hn]
def cj (P:Program)(names:List Tmp)(nt:Nat)(ops:Array Oper)(j4:List n8)(draw:Bool):Bool :=
 od names (ops.toList.map (·.dst))&&(ops.toList.all fun o=>match o.dst with|some d=>decide (d<nt)|none=>true) &&
 (if draw then
   let gT:=FP ops.toList []
   decide (gT.length<=ops.size)&&kL ⟨P,names,ops⟩ j4 gT j4 0&&P.follows .mixedOrders
  else jD ⟨P,names,ops⟩ j4 0)
theorem Ru {P:Program}{names:List Tmp}{nt:Nat}{ops:Array Oper}{j4:List n8}{draw:Bool}(hn:gL names=true)(h:cj P names nt ops j4 draw=true):Stat ⟨P,names,ops⟩ nt:=by
 simp only [cj,b5] at h;obtain ⟨⟨h1,h2⟩,_⟩:=h;have get:∀ (i:Nat) d,(ops[i]?).bind (·.dst)=some d->(ops.toList.map (·.dst))[i]? =some (some d):=by
  intro i d hd;rw [List.getElem?_map];cases ho:ops[i]? with
  |none=>rw [ho] at hd;cases hd
  |some o =>
   rw [ho] at hd;have:ops.toList[i]? =some o:=by simpa using ho
   rw [this];simpa using hd
 refine ⟨fun i j d hi hj hc=>pz names _ h1 i j d (get i d hi) (get j d hj) hc,fun i d hd=> ?_,fun s s' t=>nL names hn s s' t⟩;cases ho:ops[i]? with
 |none=>simp only [ho] at hd;cases hd
 |some o =>
  simp only [ho] at hd;have hm:o ∈ ops.toList:=List.mem_of_getElem? (i:=i) (by simpa using ho);have:=List.all_eq_true.1 h2 o hm;have hd' :o.dst=some d:=hd;rw [hd'] at this;simpa using this
section
variable {P:Program} {names:List Tmp} {E:Env} {nt:Nat} {st:St} {a:Act} {w:World} {G:Gh} {I:Q9} {N:Nat->Prop} {ops:Array Oper} {j4:List n8}
theorem Cd.start (h:Cd P names E nt st a w G I N)(X:Cx)(hX:X=⟨P,names,ops⟩){S:Nat->Prop}(hS:∀ j,¬ S j){H' :o6}(ext:o6)(hH:H' =st.H++ext)(Xp:∀ o,o ∈ ext->o= .dead){L:List b6}(hL:L.length=j4.length)(n5:List Touch) :
  Rg X j4 E nt S ⟨st.T,H',L,n5⟩ a w G I N:=by
 subst hX;subst hH;have get:∀ (id:Nat) o,(st.H++ext)[id]? =some o->st.H[id]? =some o\/o= .dead:=by
  intro id o ho
  rcases p7 id st.H.length with hlt|hge
  ·rw [p4 hlt] at ho;exact Or.inl ho
  ·rw [p9 hge] at ho
   exact Or.inr (Xp o (List.mem_of_getElem? ho))
 refine ⟨⟨h.T,fun j hj=>absurd hj (hS j),fun id o ho=> ?_,h.wf,fun id o ho=> ?_⟩,⟨fun j _ _ _ _ hj=>absurd hj (hS j),fun j _ _ _ _ _ _ hj=>absurd hj (hS j)⟩,fun j _ _ hj=>absurd hj (hS j),h.U0,hL,fun id hid=> ?_,?_,h.size,h.idle⟩
 ·rcases get id o ho with h1|rfl
  ·exact h.H id o h1
  ·simp [OR]
 ·rcases get id o ho with h1|rfl
  ·exact h.T9 id o h1
  ·simp [u5.M3]
 ·have:=h.bO id hid;simp;omega
 ·have:=h.CG;simp;omega
theorem Cd.drew (h:Cd P names E nt st a w G I N)(n:Nat):Cd P names E nt st a { w with drawn:=n } G I N/\V5 E st.H w G I N st.H { w with drawn:=n } G I N:=by
 have hx:Ext G w G { w with drawn:=n }:=(Ext.refl G w).drew n;have hk:∀ pl,ay pl G w G { w with drawn:=n }:=fun _ _ _ h=>⟨h,rfl⟩
 refine ⟨⟨fun s t ht=>VR.mono hx (fun _ _=>rfl) (fun _ h=>h) _ _ _ (Or.inr (hk _)) (h.T s t ht),fun id o ho=>OR.mono (w:=w) hx.sub (fun _ _=>rfl) (fun _ h=>h) id o (fun h=>⟨h,rfl⟩) (fun _=>hk _) (h.H id o ho),h.wf,h.T9,h.U0,h.bO,h.CG,h.size,h.idle⟩,?_⟩;exact ⟨hx,fun id _=>⟨fun _ h=>⟨h,rfl⟩,fun _=>hk _⟩,fun _ _ _=>rfl,fun _ _ h=>h,fun _ _ h=>h,fun _ o _ h=>Or.inr ⟨o,h,l5 _⟩⟩
theorem Cd.done {X:Cx}(hX:X=⟨P,names,ops⟩){S:Nat->Prop}{r:E1}(h:Rg X j4 E nt S r a w G I N):Cd P names E nt ⟨r.T,r.H⟩ a w G I N:=by
 subst hX;exact ⟨h.ri.T,h.ri.H,h.ri.wf,h.ri.T9,h.U0,h.bO,h.CG,h.size,h.idle⟩
structure Hx (P:Program)(E:Env):Prop where
 cf:kK P E.cf E.prom
 can:∀ f args H lm r,E.cf f args H lm=some r->T3 P f=true
 strict:E.lim.strict<=E.lim.base
 base:E.lim.base<=E.entry
theorem V5.ak5 {H0 ext H:o6}{w0 w:World}{G0 G:Gh}{I0 I:Q9}{N0 N:Nat->Prop}(hb:E.lim.base<=H0.length)(h:V5 E (H0++ext) w0 G0 I0 N0 H w G I N):V5 E H0 w0 G0 I0 N0 H w G I N:=by
 refine ⟨h.ext,h.dZ,h.inj,h.mono,h.old,fun id o' hid ho=> ?_⟩
 rcases h.hle id o' hid ho with h1|⟨o,h1,h2⟩
 ·exact Or.inl h1
 ·rw [p4 (by omega)] at h1
  exact Or.inr ⟨o,h1,h2⟩
theorem qf (hE:Hx P E)(hn:gL names=true){draw:Bool}(hc:cj P names nt ops j4 draw=true)(h:Cd P names E nt st a w G I N){r:E1}(hr:O0 E j4 draw st.T st.H=some r)(id:Nat)(Q:Exit->Act->World->Prop)
  (hQ:∀ a' w' G' I' N',Rg ⟨P,names,ops⟩ j4 E nt (fun j=>j<j4.length) r a' w' G' I' N' ->V5 E st.H w G I N r.H w' G' I' N' ->Q .normal a' w'):(Code.region id ops draw).wp P Q a w:=by
 have hst:=Ru hn hc;simp only [cj,b5] at hc;obtain ⟨_,hc⟩:=hc;unfold O0 at hr;cases draw with
 |false =>
  simp only [b7,if_false] at hr hc;refine wp_region ?_;have hsz:ops.size=j4.length:=by
   have:∀ (is:List n8) (k:Nat),jD ⟨P,names,ops⟩ is k=true->ops.size=k+is.length:=by
    intro is
    induction is with
    |nil=>intro k h;simpa [jD] using h
    |cons i is ih =>
     intro k h;simp only [jD,b5] at h;have:=ih (k+1) h.2;simp only [y8];omega
   simpa using this j4 0 hc
  rw [hsz,List.range_eq_range'];have hR:Rg ⟨P,names,ops⟩ j4 E nt (fun j=>j<0) ⟨st.T,st.H,c9 j4.length .any,[]⟩ a w G I N :=
   h.start _ rfl (fun j=>by simp) [] (by simp) (by simp) (by simp) []
  refine Bx (X:=⟨P,names,ops⟩) hst hE.cf hE.can hE.strict hE.base Q j4 0 (by simp) (by simp) hc _ a w G I N r hR hr ?_;intro a' w' G' I' N' hf;exact hQ a' w' G' I' N' hf.rg hf.since
 |true =>
  simp only [if_true,b5,decide_eq_true_eq] at hr hc;obtain ⟨⟨aS9,Xi⟩,an2⟩:=hc;split at hr
  ·rename_i r' FC hrun
   split at hr
   ·rename_i hok
    cases hr;refine wp_region_any an2 ?_;obtain ⟨h2,TP⟩:=h.drew (w.drawn+1);have hR:Rg ⟨P,names,ops⟩ j4 E nt (fun j=>(Array.replicate ops.size false).getD j false=true) ⟨st.T,st.H++X5 j4,c9 j4.length .any,slotsOf j4⟩ a { w with drawn:=w.drawn+1 } G I N :=
     h2.start _ rfl (fun j=>by
      rcases p7 j ops.size with h|h
      ·simp [h]
      ·simp [h]) (X5 j4) rfl (by
      intro o ho;unfold X5 at ho;simp at ho;exact ho.2.symm) (by simp) (slotsOf j4)
    have XG:fO j4 ⟨st.T,st.H++X5 j4,c9 j4.length .any,slotsOf j4⟩:=by
     intro k i s hi ha hd;rw [List.any_eq_true];refine ⟨.slot s,?_,by simp [Touch.Q1]⟩;show Touch.slot s ∈ slotsOf j4
     unfold slotsOf;exact List.mem_filterMap.2 ⟨i,List.mem_of_getElem? hi,by simp [ha,hd]⟩
    have hsize:ops.size=j4.length:=by
     have:=kM (X:=⟨P,names,ops⟩) j4 0 Xi;simpa using this
    obtain ⟨hlen,al4⟩:=tf (base:=st.H.length) j4 0 st.H.length _ r FC (fun k=>FC.getD k ⟨[],[],0,0⟩) (by simp) (by simp) hrun (fun m _=>by simp);have vv:aO j4.length (Array.replicate ops.size false)=List.range' 0 j4.length:=by
     unfold aO;rw [List.filter_eq_self.2 ?_,List.range_eq_range'];intro j hj;simp at hj;simp [hsize,hj]
    have hlt:∀ k n,lG j4 st.H.length k=some n->st.H.length<=n/\n<(st.H++X5 j4).length:=by
     intro k n hk;unfold lG at hk;split at hk
     ·rename_i i hi
      split at hk
      ·rename_i sO
       cases hk;refine ⟨by omega,?_⟩;have h1:((j4.take (k+1)).filter (·.op.y3)).length=((j4.take k).filter (·.op.y3)).length+1:=by
        rw [List.take_add_one,hi];simp [List.filter_append,sO]
       have h2:((j4.take (k+1)).filter (·.op.y3)).length<=(j4.filter (·.op.y3)).length :=
        List.Sublist.length_le (List.Sublist.filter _ (List.take_sublist _ _))
       simp [X5];omega
      ·cases hk
     ·cases hk
    refine Kg (X:=⟨P,names,ops⟩) (gT:=FP ops.toList []) (X1:=lG j4 st.H.length) (lg:=fun k=>FC.getD k ⟨[],[],0,0⟩) (fin:=r) hst hE.cf hE.can hE.strict hE.base Q Xi (fun k hk=> ?_) (Qz j4 _) (fun k n hk=> ?_) (KL hlen hok)
     ops.size (Array.replicate ops.size false) _ a _ G I N hR (by simp [hsize]) ?_ (fun k n hk=>(hlt k n hk).2) XG (fun k n hk _ hN=> ?_) (by rw [vv];exact al4) (by rw [vv];simp [hsize]) ?_
    ·rw [List.getD,q6 (by simp only at hk;omega)];rfl
    ·have:=(hlt k n hk).1;have:=h.CG;omega
    ·intro k o hk
     exfalso
     rcases p7 k ops.size with h|h
     ·simp [h] at hk
     ·simp [h] at hk
    ·have h1:=h.bO n hN;have:=(hlt k n hk).1;omega
    ·intro a' w' G' I' N' hf
     have hb:E.lim.base<=st.H.length:=Nat.le_trans hE.base h.CG;exact hQ a' w' G' I' N' hf.rg (TP.trans (hf.since.ak5 hb))
   ·cases hr
  ·cases hr
end
section
variable {P:Program} {names:List Tmp} {E:Env} {nt:Nat} {st st' :St} {a:Act} {w:World} {G:Gh} {I:Q9} {N:Nat->Prop}
theorem tc:∀ (cs:List b6) (k i id sz lo len:Nat),eM cs k=some (i,id,sz,lo,len)->∃ j,i=k+j/\cs[j]? =some (.D0 id sz lo len)
 |[],_,_,_,_,_,_,h=>by simp [eM] at h
 |c::cs,k,i,id,sz,lo,len,h=>by
  cases c
  case D0 id' sz' lo' len' =>
   simp only [eM,Option.some.injEq,Prod.mk.injEq] at h;obtain ⟨rfl,rfl,rfl,rfl,rfl⟩:=h;exact ⟨0,rfl,rfl⟩
  all_goals
   obtain ⟨j,h1,h2⟩:=tc cs (k+1) i id sz lo len (by simpa only [eM] using h);exact ⟨j+1,by omega,by simpa using h2⟩
theorem FZ {pl:Place}{v:b6}{d:Data}{x:Value}(hd:v.data? =some d)(h:VR G I N w pl v x):DR G w d x:=by
 have h2:VR G I N w pl v.F2 x:=h.F2;cases v<;>simp only [b6.data?] at hd<;>first|cases hd|skip
 all_goals simpa only [b6.F2,VR] using h2
theorem Ma (b:Nat)(Xy:∀ o,iH G b o):∀ (vs:List b6) (xs:List Data) (o:Nat),L7 vs=some xs->(∀ j v,vs[j]? =some v->∃ u,w.cell? (ad b (o+j))=some u/\∀ d,v.data? =some d->DR G w d u)->dw G w b o xs
 |[],xs,o,h,_=>by simp [L7] at h;subst h;simp [dw]
 |v::vs,xs,o,h,hv=>by
  unfold L7 at h;cases hd:v.data? with
  |none=>rw [hd] at h;cases h
  |some d =>
   rw [hd] at h;simp only at h;cases hds:L7 vs with
   |none=>rw [hds] at h;cases h
   |some ds =>
    rw [hds] at h;cases h;obtain ⟨u,h1,h2⟩:=hv 0 v rfl;simp only [dw];refine ⟨Xy o,⟨u,by simpa using h1,h2 d hd⟩,Ma b Xy vs ds (o+1) hds fun j v' hj=> ?_⟩;obtain ⟨u',g1,g2⟩:=hv (j+1) v' (by simpa using hj);exact ⟨u',by rw [show o+1+j=o+(j+1) by omega];exact g1,g2⟩
theorem Mo (h:Cd P names E nt st a w G I N){s:Nat}(hr:Gj E.lim E.entry s st=some st'):∃ G' N',Cd P names E nt st' a w G' I N' /\V5 E st.H w G I N st'.H w G' I N' :=by
 unfold Gj at hr;split at hr
 ·rename_i b hT
  split at hr
  ·rename_i cs hb
   split at hr
   ·rename_i i id sz lo len an7
    split at hr
    ·rename_i vs hvs
     split at hr
     ·rename_i xs hxs
      split at hr
      ·rename_i ak
       cases hr;obtain ⟨hbase,am4,hmay,ZX,hne⟩:=ak;obtain ⟨j,hj,hcj⟩:=tc cs 0 i id sz lo len an7;obtain rfl:i=j:=by omega
       obtain ⟨old,hold,hlen,aq0⟩:∃ old,st.H[id]? =some (.cells old)/\lo+len * sz<=old.length/\vs=(old.drop lo).take (len * sz):=by
        unfold rd at hvs;split at hvs
        ·rename_i l hl
         split at hvs
         ·rename_i hle;cases hvs;exact ⟨l,hl,hle,rfl⟩
         ·cases hvs
        ·cases hvs
       have hO:=h.H id _ hold;simp only [OR] at hO;obtain ⟨hN,c,e,f,g1,g2,g3,g4,g5⟩:=hO;have hlt:(I id).1<w.heap.size:=by
        rcases p7 (I id).1 w.heap.size with h|h
        ·exact h
        ·rw [Array.getElem?_eq_none h] at g1;cases g1
       have Qk:=n9 hold;have hx:Ext G w (kz G (I id).1 .jz) w:=by
        refine ⟨rfl,rfl,rfl,l5 _,fun b' o hi=>⟨?_,rfl⟩,fun b' hb' =>⟨?_,rfl⟩,fun _ c _ _ hc=>⟨c,hc,rfl⟩⟩
        ·by_cases he:b' =(I id).1
         ·subst he;unfold iH;rw [xw];trivial
         ·unfold iH at hi ⊢;rw [M6 he];exact hi
        ·have he:b' ≠(I id).1:=by rintro rfl;rw [g2] at hb';rcases hb' with hb' |⟨_,hb'⟩<;>cases hb'
         exact M6 he
       have hkp:∀ q,ay q G w (kz G (I id).1 .jz) w:=fun q b' n hb' =>⟨by rw [M6 (by rintro rfl;rw [g2] at hb';cases hb')];exact hb',rfl⟩
       have LB:∀ id',id' ≠id->∀ b',G b' = .obj id' ->(kz G (I id).1 .jz) b' = .obj id' /\w.heap[b']? =w.heap[b']? :=fun id' hid b' hb' =>⟨by rw [M6 (by rintro rfl;rw [g2] at hb';cases hb';exact hid rfl)];exact hb',rfl⟩
       have vr:∀ {pl:Place} {v:b6} {u:Value},VR G I N w pl v u->VR (kz G (I id).1 .jz) I (fun i=>N i/\i≠id) w pl (v.kill id) u :=
        fun hv=>VR.mono hx (fun _ _=>rfl) (fun _ h=>h) _ _ _ (Or.inr (hkp _)) (VR.kill id _ _ _ hv)
       have kX:∀ (id' :Nat) (o' :u5),(((st.H.take E.lim.base++(st.H.drop E.lim.base).map (u5.kill id)).set id .dead).set b (.cells ((H7 id cs).set i (.d (.slice len xs)))))[id']? =some o' ->
         (id' =b/\o' = .cells ((H7 id cs).set i (.d (.slice len xs))))\/(id' ≠b/\id' =id/\o' = .dead)\/(id' ≠b/\id' ≠id/\id' <E.lim.base/\st.H[id']? =some o')\/(id' ≠b/\id' ≠id/\E.lim.base<=id' /\∃ o1,st.H[id']? =some o1/\o' =o1.kill id):=by
        intro id' o' ho'
        by_cases e1:id' =b
        ·subst e1
         rw [C9 (by simp;have:=n9 hb;omega)] at ho';cases ho';exact Or.inl ⟨rfl,rfl⟩
        ·rw [q9 (fun e=>e1 e.symm)] at ho'
         have:=gJ (base:=E.lim.base) (o:= .dead) Qk (id' :=id') (o' :=o') ho'
         rcases this with ⟨rfl,rfl⟩|⟨hn,hb',ho⟩|⟨hn,hb',o1,ho,rfl⟩
         ·exact Or.inr (Or.inl ⟨e1,rfl,rfl⟩)
         ·exact Or.inr (Or.inr (Or.inl ⟨e1,hn,hb',ho⟩))
         ·exact Or.inr (Or.inr (Or.inr ⟨e1,hn,hb',o1,ho,rfl⟩))
       have kT:y9 ((H7 id cs).set i (.d (.slice len xs)))<=y9 cs:=Nat.le_trans (jC _ _ _) (bZ id cs);refine ⟨kz G (I id).1 .jz,fun i=>N i/\i≠id,⟨?_,?_,?_,?_,?_,?_,?_,h.size,h.idle⟩,⟨hx,?_,fun _ _ _=>rfl,?_,fun _ _ hn=>hn.1,?_⟩⟩
       ·intro s' t ht
        simp only [rI];exact vr (h.T s' t ht)
       ·intro id' o' ho'
        rcases kX id' o' ho' with ⟨rfl,rfl⟩|⟨_,rfl,rfl⟩|⟨e1,e2,e3,e4⟩|⟨e1,e2,e3,o1,e4,rfl⟩
        ·have hk:=OR.kill id (fun e=>hne e.symm) _ (h.H id' _ hb)
         have hk:=OR.mono hx (fun _ _=>rfl) (fun _ h=>h) id' _ (fun hb' =>LB id' (fun e=>hne e.symm) _ hb') (fun _=>hkp _) hk;simp only [u5.kill,OR] at hk ⊢;obtain ⟨k0,c2,e2,f2,k1,k2,k3,k4,k5⟩:=hk;refine ⟨k0,c2,e2,f2,k1,k2,k3,by simpa using k4,fun i' x' hx' => ?_⟩
         by_cases ei:i' =i
         ·subst ei
          have yh:i' <(H7 id cs).length:=by rw [L4];exact n9 hcj
          rw [C9 yh] at hx';cases hx';have hOb:=h.H id' _ hb;simp only [OR] at hOb;obtain ⟨_,c3,e3,f3,m1,_,_,_,m5⟩:=hOb;rw [k1] at m1;cases m1;obtain ⟨u,u1,u2⟩:=m5 i' _ hcj;refine ⟨u,u1,?_⟩;simp only [VR] at u2 ⊢;obtain ⟨_,cap,rfl,u3,_⟩:=u2;simp only [DR];refine Or.inr ⟨(I id).1,(I id).2+lo,cap,rfl,u3,Ma _ (fun o=>by unfold iH;rw [xw];trivial) vs xs _ hxs fun j v hj=> ?_⟩;subst aq0;have hj2:j<len * sz/\old[lo+j]? =some v:=by
           rw [List.getElem?_take] at hj;split at hj
           ·rename_i hjl
            rw [List.getElem?_drop] at hj;exact ⟨hjl,hj⟩
           ·cases hj
          obtain ⟨y,y1,y2⟩:=g5 _ _ hj2.2;refine ⟨y,?_,fun d hd=>DR.mono hx.jz _ _ (FZ hd y2)⟩;simp only [World.cell?,g1];rw [H9];simpa using y1
         ·rw [q9 (fun e=>ei e.symm)] at hx'
          exact k5 i' x' hx'
        ·simp [OR]
        ·have Mr:=OR.low (n:=E.lim.base) e3 o' ((h.T9 id' o' e4).2 e3) (h.H id' o' e4)
         exact OR.mono hx (fun _ _=>rfl) (fun i hi=>⟨hi.1,by have:=hi.2;omega⟩) id' o' (fun hb' =>LB id' e2 _ hb') (fun _=>hkp _) Mr
        ·exact OR.mono hx (fun _ _=>rfl) (fun _ h=>h) id' _ (fun hb' =>LB id' e2 _ hb') (fun _=>hkp _) (OR.kill id e2 o1 (h.H id' o1 e4))
       ·intro b' hb'
        rw [M6 (by omega)];exact h.wf b' hb'
       ·intro id' o' ho'
        rcases kX id' o' ho' with ⟨rfl,rfl⟩|⟨_,rfl,rfl⟩|⟨e1,e2,e3,e4⟩|⟨e1,e2,e3,o1,e4,rfl⟩
        ·obtain ⟨d1,d2⟩:=h.T9 id' _ hb
         simp only [u5.M3] at d1 d2 ⊢;exact ⟨fun hs=>Nat.le_trans kT (d1 hs),fun hs=>Nat.le_trans kT (d2 hs)⟩
        ·exact ⟨fun _=>by simp [u5.M3],fun _=>by simp [u5.M3]⟩
        ·exact h.T9 id' o' e4
        ·obtain ⟨d1,d2⟩:=h.T9 id' o1 e4
         have:=zg id o1;exact ⟨fun hs=>Nat.le_trans this (d1 hs),fun hs=>Nat.le_trans this (d2 hs)⟩
       ·rw [L4];exact h.U0
       ·intro id' hn
        have:=h.bO id' hn.1;simp;omega
       ·have:=h.CG
        simp;omega
       ·intro id' hm
        have an4 :id' ≠id:=by rintro rfl;rw [hmay] at hm;cases hm
        exact ⟨LB id' an4,fun off=>hkp _⟩
       ·intro id' hlt' hn
        exact ⟨hn,by omega⟩
       ·intro id' o' hlt' ho'
        rcases kX id' o' ho' with ⟨rfl,rfl⟩|⟨_,rfl,rfl⟩|⟨e1,e2,e3,e4⟩|⟨e1,e2,e3,o1,e4,rfl⟩
        ·omega
        ·exact Or.inl (by simp [u5.M3])
        ·exact Or.inr ⟨o',e4,l5 _⟩
        ·omega
      ·cases hr
     ·cases hr
    ·cases hr
   ·cases hr
  ·cases hr
 ·cases hr
end
end Go.u7


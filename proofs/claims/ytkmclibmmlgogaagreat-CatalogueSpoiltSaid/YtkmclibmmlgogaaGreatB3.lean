/- Texts A24 A25 A26 A27 A28 A29 A30 A30b (made short by a program) -/
import Derived.Test.YtkmclibmmlgogaaGreatB2
import Derived.Orders
set_option linter.unusedVariables false
set_option linter.unusedSimpArgs false
open Bool renaming and_eq_true → b5, false_eq_true → b7, not_eq_true' → j5
open List renaming getElem?_append_left → x9, getElem?_append_right → s7, getElem?_eq_getElem → s9, getElem?_eq_none → A8, getElem?_set_ne → A1, length_cons → B7, mem_cons → C6, replicate → c9, set_cons_succ → u0
open Nat renaming add_assoc → H9, le_refl → n5, lt_or_ge → u9
namespace Go.y3
section
variable {X:Cx} {j4:List n8} {E:Env} {nt:Nat} {S:Nat->Prop} {st S4 aB:E5} {a:Act} {w w' :World} {G G' :Gh} {I I' :T0} {N N' :Nat->Prop} {D:Nat->Bool}
theorem rX (hR:Rg X j4 E nt S st a w G I N)(hD:∀ j,D j=true->S j){o:Oper}{g:Option (Nat×Bool)}(hc:mc X D o.guard g=true){b:Bool}(hw:y4 st.L g=some b):Region.wanted o (yielded X.ops a.tmps)=b:=by
 unfold Region.wanted;cases hg:o.guard with
 |none =>
  grind [y4,mc]
 |some p =>
  obtain ⟨g0,want⟩:=p;rw [hg] at hc;cases g with
  |none=>simp [mc] at hc
  |some q =>
   obtain ⟨g1,bd1⟩:=q;simp only [mc,b5,beq_iff_eq] at hc;obtain ⟨⟨⟨rfl,rfl⟩,hDg⟩,xw⟩:=hc;cases hd:(X.ops[g0]?).bind (·.dst) with
   |none=>simp_all
   |some d =>
    rw [hd] at xw;simp only [j5] at xw;have hv:=hR.ri.L g0 (hD g0 hDg) d hd xw;have hy:yielded X.ops a.tmps g0=(match a.tmps[d]? with|some (.bool b)=>some b|_=>none):=by
     grind [yielded]
    simp [y4] at hw;split at hw
    ·cases hw
     simp_all [VR,DR,bool,undef]<;>grind
    all_goals (simp_all [VR,bool]<;>grind)
structure ZI (X:Cx)(j4:List n8)(E:Env)(nt:Nat)(S:Nat->Prop)(st:E5)(w:World)(G:Gh)(I:T0)(N:Nat->Prop)(k:Nat)(u5:Option Nat)(aB:E5)(a' :Act)(w' :World)(G' :Gh)(I' :T0)(N' :Nat->Prop):Prop where
 rg:Rg X j4 E nt (fun j=>S j\/j=k) aB a' w' G' I' N'
 since:W6 E st.H w G I N aB.H w' G' I' N'
 len:st.H.length<=aB.H.length
 old:∀ id,id<st.H.length->N' id->N id\/u5=some id
theorem Fe (hD:∀ j,D j=true->S j){x:Operand}{y:q7}(hc:X.ck D x y=true):tY X S y:=by
 unfold Cx.ck at hc;split at hc
 ·exact ⟨_,by simpa using hc⟩
 ·simp only [b5,beq_iff_eq,j5] at hc
  exact ⟨hD _ hc.1.1,_,hc.1.2,hc.2⟩
 ·trivial
 ·trivial
 ·trivial
 ·cases hc
theorem EP (hD:∀ j,D j=true->S j){o:Oper}{n:Option Nat}{y:q7}(hc:aM X.P (X.ck D) o (.load n y)=true):tY X S y:=by
 simp [aM] at hc;obtain ⟨dst,ct,ty,pos,after,guard⟩:=o;cases ct<;>simp [A7] at hc
 grind [Fe]
theorem Rg.after (hst:Stat X nt)(hR:Rg X j4 E nt S st a w G I N)(hD:∀ j,D j=true->S j){k:Nat}(hk:¬ S k)(aV:k<st.L.length){o:Oper}(ho:X.ops[k]? =some o){i:n8}(hi:j4[k]? =some i)(hc:pE X D o i=true)
  {u5:Option Nat} (hne:∀ i,u5=some i->E.entry<=i) (htr:Tr N k st S4) (hts:q8 u5 S4 k i.dst=some aB) {x:Value} {ds:List Deferred} (hds:ds=a.defers\/∃ d,ds=d::a.defers/\DT X.P E.idle d)
  (hf:aB.L[k]? =some (.tuple [])\/jt X st a w I i.op x) (hS:vF u5 X E.lim S E.entry st a w G I N S4 k x w' G' I' N') :
  ∃ ZJ,ZI X j4 E nt S st w G I N k u5 aB ({ a with defers:=ds }.put o.dst x) w' ZJ I' N' :=by
 simp [pE,b5] at hc;obtain ⟨⟨hc1,mE⟩,Zm⟩:=hc;have hm:=hS.mid;obtain ⟨G2,e1,e2,e3,e4⟩:=RI.after (l:=E.lim) (a:={ a with defers:=ds }) hst hR.size (by rw [htr.U9];exact hR.U9) hk (by rw [htr.gN];exact aV) ho mE hm.ri.defers hm.val hts;have hpv:=PV.after (w' :=w') (I' :=I') (x:=x) (ds:=ds) hst hR hk ho hi mE (fun y hy=>EP hD (by simp_all<;>omega)) htr hts (fun id hN ht=>by
  obtain ⟨h1,h2⟩:=hm.ko id hN ht;simp_all) hf
 refine ⟨G2,⟨e4,hpv,?_,?_,?_,?_,?_,?_,?_⟩,⟨?_,?_,?_,?_,?_,?_⟩,?_,hS.old⟩
 ·intro j ai y hj hai hop
  have lift:tY X S y->tY X (fun j=>S j\/j=k) y:=by
   intro h;cases y with
   |loc m=>exact ⟨Or.inl h.1,h.2⟩
   |slot s=>exact h
   |const v=>trivial
  rcases hj with hj|rfl
  ·exact lift (hR.cl j ai y hj hai hop)
  grind [EP]
 ·rw [Ga hts,htr.U9];exact hR.U9
 ·rw [FZ hts,htr.gN];exact hR.gN
 ·intro id hid;rw [nr hts];exact hS.cE id hid
 ·rw [nr hts];exact Nat.le_trans hR.Eo hm.len
 ·rw [FF];exact hR.size
 ·rw [kB]
  intro d hd
  rcases hds with rfl|⟨d',rfl,hid⟩
  ·exact hR.idle d hd
  ·simp [C6] at hd
   rcases hd with rfl|hd
   ·exact hid
   ·exact hR.idle d hd
 ·exact hm.ext.trans e1
 ·exact hm.eE.trans fun id _=>⟨fun b hb=>⟨e3 b id hb,rfl⟩,e2 id⟩
 ·intro id hid hN;exact hm.inj id hid hN
 ·intro id _ hN;exact hm.mono id hN
 ·intro id hid hN
  rcases hS.old id (Nat.lt_of_lt_of_le hid hR.Eo) hN with h1|h1
  all_goals grind
 ·intro id o' hb ho';rw [nr hts] at ho';exact hm.hle id o' hb ho'
 ·rw [nr hts];exact hm.len
theorem uD (hst:Stat X nt)(JJ:lV X.P E.cf E.prom)(iG:∀ f args H lm r,E.cf f args H lm=some r->U2 X.P f=true)(hs:E.lim.strict<=E.lim.base)(WJ:E.lim.base<=E.entry)(hR:Rg X j4 E nt S st a w G I N)
  (hD:∀ j,D j=true->S j) {k:Nat} (hk:¬ S k) {o:Oper} (ho:X.ops[k]? =some o) {i:n8} (hi:j4[k]? =some i) (hc:pE X D o i=true) {u5:Option Nat} (hid:i.op.z8=true->DS E.lim st N u5) (hne:∀ i,u5=some i->E.entry<=i/\i<st.H.length)
  {rs:List Nat} (he:y6 E j4 u5 k i st=some (aB,rs)) (K:Act->World->Prop) (Q:Exit->Act->World->Prop)
  (hK:∀ a' w' G' I' N',ZI X j4 E nt S st w G I N k u5 aB a' w' G' I' N' ->K a' w'):wpOp X.P X.ops Q k K a w:=by
 have aV:k<st.L.length:=by rw [hR.gN];grind
 have uk :=hc;simp [pE,b5] at uk;obtain ⟨⟨hc1,mE⟩,Zm⟩:=uk;unfold wpOp;simp [ho];unfold y6 at he;split at he
 ·rename_i hw
  rw [if_pos (rX hR hD Zm hw)];split at he
  ·rename_i S4 ZA hW
   split at he
   ·rename_i aQ4 hts
    refine Or.inl ?_;have hrun:=FO (P:=X.P) JJ iG rfl hR.ri hR.pv hR.U9 hR.cE (Nat.le_trans WJ hR.Eo) hs hD hk aV hc1 (u5:=u5) hid hW;refine hrun K Q ?_;rintro a' w' ⟨x,ds,G',I',N',hF,rfl,hds,hS⟩;have htr:Tr N k st S4:=Tr.D6 hR.cE (fun i h=>(hne i h).2) (fun ha=>(hid ha).new) hW;obtain ⟨ZJ,xu⟩:=Rg.after hst hR hD hk aV ho hi hc (fun i h=>(hne i h).1) htr hts hds (Or.inr hF) hS
    grind
   ·cases he
  ·cases he
 ·rw [if_neg (by grind [rX])]
  split at he
  ·rename_i aQ4 hts
   cases he;have htr:Tr N k st (put st k (.tuple [])):=Tr.put _;have hS:vF u5 X E.lim S E.entry st a w G I N (put st k (.tuple [])) k undef w G I N :=
    vF.jP hR.cE (cK.same hR.ri hk aV E.entry (by exact ⟨#[],rfl,by simp [I7]⟩))
   have hL:aB.L[k]? =some (.tuple []):=by
    grind [R6,put,D7]
   obtain ⟨ZJ,xu⟩:=Rg.after hst hR hD hk aV ho hi hc (fun i h=>(hne i h).1) htr hts (Or.inl rfl) (Or.inl hL) hS;exact hK _ _ _ _ _ xu
  ·cases he
 ·cases he
def kA (X:Cx):List n8->Nat->Bool
 |[],k=>X.ops.size==k
 |i::is,k=>(match X.ops[k]? with
  |some o=>pE X (fun j=>decide (j<k)) o i
  |none=>false)&&kA X is (k+1)
structure Fin (X:Cx)(j4:List n8)(E:Env)(nt:Nat)(st0:E5)(w:World)(G:Gh)(I:T0)(N:Nat->Prop)(aB:E5)(a' :Act)(w' :World)(G' :Gh)(I' :T0)(N' :Nat->Prop):Prop where
 rg:Rg X j4 E nt (fun j=>j<j4.length) aB a' w' G' I' N'
 since:W6 E st0.H w G I N aB.H w' G' I' N'
theorem Rg.congr {S' :Nat->Prop}(h:Rg X j4 E nt S st a w G I N)(hS:∀ j,S j↔S' j):Rg X j4 E nt S' st a w G I N:=by
 have:S=S' :=funext fun j=>propext (hS j)
 simp_all
theorem Dh (hst:Stat X nt)(JJ:lV X.P E.cf E.prom)(iG:∀ f args H lm r,E.cf f args H lm=some r->U2 X.P f=true)(hs:E.lim.strict<=E.lim.base)(WJ:E.lim.base<=E.entry)(Q:Exit->Act->World->Prop) :
  ∀ (is:List n8) (k:Nat),j4.drop k=is->k<=j4.length->kA X is k=true->∀ (st:E5) (a:Act) (w:World) (G:Gh) (I:T0) (N:Nat->Prop) (aB:E5),Rg X j4 E nt (fun j=>j<k) st a w G I N->dH E j4 is k st=some aB ->
   (∀ a' w' G' I' N',Fin X j4 E nt st w G I N aB a' w' G' I' N' ->Q .normal a' w')->wpOps X.P X.ops Q (List.range' k is.length) a w:=by
 intro is
 induction is with
 |nil =>
  intro k hd hk _ st a w G I N aB hR hrun hQ;cases hrun;have aV:j4.length=k:=by
   simp_all [List.length]<;>omega
  exact hQ _ _ _ _ _ ⟨by simp_all,W6.refl _ _ _ _ _ _⟩
 |cons i is ih =>
  intro k hd hk hc st a w G I N aB hR hrun hQ;have hi:j4[k]? =some i:=by
   have:(j4.drop k)[0]? =some i:=by rw [hd];rfl
   grind
  have hd' :j4.drop (k+1)=is:=by
   have:=congrArg (List.drop 1) hd
   grind [List.drop_drop]
  simp [kA,b5] at hc;obtain ⟨hc1,mE⟩:=hc;simp [dH] at hrun;split at hrun
  ·rename_i S4 rs hstep
   cases ho:X.ops[k]? with
   |none=>simp_all
   |some o =>
    rw [ho] at hc1;simp [B7];refine uD hst JJ iG hs WJ hR (D:=fun j=>decide (j<k)) (fun j hj=>by simp_all) (Nat.lt_irrefl k) ho hi hc1 (u5:=none) (fun _=> ?_) (fun i h=>by cases h) hstep _ _ ?_
    ·exact ⟨(fun hN=>by have:=hR.cE _ hN;grind [newId]),(fun i h=>by cases h),by exact Nat.le_trans WJ hR.Eo,by exact Nat.le_trans hs (Nat.le_trans WJ hR.Eo)⟩
    ·intro a' w' G' I' N' xu
     refine ih (k+1) hd' (p6 hi) mE S4 a' w' G' I' N' aB (xu.rg.congr fun j=>by omega) hrun ?_;intro a'' w'' ZJ I'' N'' tv;exact hQ _ _ _ _ _ ⟨tv.rg,xu.since.trans tv.since⟩
  ·cases hrun
end
def q7.dY:q7->List Nat
 | .loc j=>[j]
 |_=>[]
def q7.slots:q7->List Nat
 | .slot s=>[s]
 |_=>[]
def q9.R8:q9->List q7
 | .O3 x=>[x]
 | .pick c a b=>[c,a,b]
 | .alloc _=>[]
 | .box x=>[x]
 | .build _ parts=>parts.map (·.2.2)
 | .p8 _ _ _ parts _=>parts.map (·.2.2)
 | .load _ x=>[x]
 | .store _ a x=>[a,x]
 | .X6 x=>[x]
 | .bin _ x y=>[x,y]
 | .un _ x=>[x]
 | .CR _ x=>[x]
 | .Ix _ x=>[x]
 | .o9 _ x y=>[x,y]
 | .NQ _ _ x y=>[x,y]
 | .kY _ x=>[x]
 | .pG x=>[x]
 | .Cv x=>[x]
 | .je x=>[x]
 | .qe x lo hi=>x::(lo.toList++hi.toList)
 | .aN _ x lo hi=>x::(lo.toList++hi.toList)
 | .off _ x=>[x]
 | .C4 _ x i=>[x,i]
 | .gb _ _ x i=>[x,i]
 | .C0 x i=>[x,i]
 | .extract x _=>[x]
 | .len x=>[x]
 | .U9 x=>[x]
 | .CL x=>[x]
 | .append _ _ _ x y=>[x,y]
 | .fM _ xs=>xs
 | .clear _ _ x=>[x]
 | .Y8 _ first caps=>first++caps
 | .call _ xs=>xs
 | .aO x xs=>x::xs
 | .makeMap=>[]
 | .lookup _ _ _ m k=>[m,k]
 | .dD _ m k v=>[m,k,v]
 | .defer x=>[x]
 | .bad=>[]
def fT (j4:List n8)(i:n8):List Nat :=
 (i.op.R8.flatMap q7.dY)++(match i.guard with|some (g,_)=>[g]|none=>[]) ++
 (match i.op with
  | .append _ _ _ (.loc j) _=>(match j4[j]? with|some a=>a.op.R8.flatMap q7.dY|none=>[])
  |_=>[])
def fU (i:n8):List Nat:=i.op.R8.flatMap q7.slots
theorem Y7 {α β:Type}{f g:α->β}{l:List α}(h:∀ x,x ∈ l->f x=g x):l.map f=l.map g:=List.map_congr_left h
theorem iM {ρ ρ' :q7->b6}{ps:List (Nat×Nat×q7)}(h:∀ x,x ∈ ps.map (·.2.2)->ρ' x=ρ x):(ps.map fun (o,s,x)=>(o,s,ρ' x))=ps.map fun (o,s,x)=>(o,s,ρ x):=by
 grind [List.map_congr_left]
theorem lX {ρ ρ' :q7->b6}{d:Nat}{o:Option q7}(h:∀ x,x ∈ o.toList->ρ' x=ρ x):U6 ρ' d o=U6 ρ d o:=by
 simp_all [U6]<;>grind
theorem rD {ρ ρ' :q7->b6}{H:o6}{op:q9}(h:∀ x,x ∈ op.R8->ρ' x=ρ x):m6 ρ' H op=m6 ρ H op:=by
 cases op<;>simp only [q9.R8] at h
 case build=>simp [m6,iM h]
 case p8 sz len zero parts ob=>cases ob<;>simp [m6,iM h]
 case fM isMax xs=>grind [m6,Y7]
 case Y8 f first caps =>
  simp_all [m6,Y7]
 case qe x lo hi =>
  grind [U6,lX,m6]
 case aN sz x lo hi =>
  have h2:∀ d,U6 ρ' d lo=U6 ρ d lo:=fun d=>lX fun y hy=>h y (by simp_all)
  have h3:∀ d,U6 ρ' d hi=U6 ρ d hi:=fun d=>lX fun y hy=>h y (by simp_all)
  simp_all [m6]
 case load n x=>cases n<;>simp [m6,h x (by simp)]
 case pick c a b=>simp_all [m6]
 case bin b x y=>simp_all [m6]
 case o9 b x y=>simp_all [m6]
 case NQ b ks x y=>simp_all [m6]
 case C4 s x y=>simp_all [m6]
 case gb n s x y=>simp_all [m6]
 case C0 x y=>simp_all [m6]
 case lookup kk z ok x y=>simp_all [m6]
 case X6 x=>simp_all [m6]
 case un b x=>simp_all [m6]
 case CR b x=>simp_all [m6]
 case Ix b x=>simp_all [m6]
 case kY k x=>simp_all [m6]
 case pG x=>simp_all [m6]
 case Cv x=>simp_all [m6]
 case je x=>simp_all [m6]
 case off k x=>simp_all [m6]
 case extract x i=>simp_all [m6]
 case len x=>simp_all [m6]
 case U9 x=>simp_all [m6]
 case CL x=>simp_all [m6]
 all_goals rfl
def R0:Option y7->Option y7->Prop
 |some (.cells l),some (.cells l')=>l.map b6.G4=l'.map b6.G4
 |a,b=>a=b
theorem R0.refl (o:Option y7):R0 o o:=by
 simp_all [R0]<;>grind
theorem R0.symm {a b:Option y7}(h:R0 a b):R0 b a:=by
 simp_all [R0,absurd]<;>grind
theorem R0.trans {a b c:Option y7}(h:R0 a b)(k:R0 b c):R0 a c:=by
 simp_all [R0]<;>grind
theorem Jt (v:b6):v.G4.G4=v.G4:=by cases v<;>rfl
theorem VP {H H' :o6}{id off n:Nat}(h:R0 H'[id]? H[id]?){vs:List b6}(hr:rd H id off n=some vs):∃ vs',rd H' id off n=some vs' /\vs'.map b6.G4=vs.map b6.G4:=by
 unfold rd at hr ⊢;split at hr
 ·rename_i l hl
  split at hr
  ·cases hr
   rw [hl] at h;cases h' :H'[id]? with
   |none=>simp_all [R0]
   |some o =>
    rw [h'] at h;cases o with
    |cells l' =>
     have h:l'.map b6.G4=l.map b6.G4:=by grind [R0]
     have hll:l'.length=l.length:=by simpa using congrArg List.length h
     simp_all
    |dead=>simp [R0] at h
    |map es=>simp [R0] at h
  ·cases hr
 ·cases hr
theorem Fi {ρ:q7->b6}{H H' :o6}{op:q9}{v:b6}{rs:List Nat}(h:m6 ρ H op=some (v,rs))(hr:∀ id,id ∈ rs->R0 H'[id]? H[id]?):m6 ρ H' op=some (v,rs):=by
 cases op
 case load n x =>
  cases n with
  |none =>
   simp only [m6] at h ⊢;split at h
   ·rename_i id off hp
    split at h
    ·rename_i u hu
     cases h;obtain ⟨vs',h1,h2⟩:=VP (hr id (by simp)) hu;obtain ⟨u',rfl⟩:∃ u',vs' =[u']:=by
      have:=congrArg List.length h2;simp at this;exact List.length_eq_one_iff.1 this
     simp at h2;simp only [h1,h2]
    ·cases h
   ·exact h
   ·cases h
  |some n =>
   simp only [m6] at h ⊢;split at h
   ·rename_i id off hp
    split at h
    ·rename_i us hu
     cases h;obtain ⟨vs',h1,h2⟩:=VP (hr id (by simp)) hu;simp only [h1,h2]
    ·cases h
   ·exact h
   ·cases h
 case CL x =>
  simp only [m6] at h ⊢;split at h
  ·exact h
  ·rename_i id hp
   split at h
   ·rename_i es Zn
    cases h;have:=hr id (by simp);rw [Zn] at this;have h' :H'[id]? =some (.map es):=by
     cases h' :H'[id]? with
     |none=>rw [h'] at this;simp [R0] at this
     |some o=>rw [h'] at this;cases o<;>simp_all [R0]
    simp only [h']
   ·cases h
  ·cases h
 case lookup kk zero ok m k =>
  simp only [m6] at h ⊢;split at h
  ·rename_i id key hp hq
   split at h
   ·rename_i es Zn
    split at h
    ·rename_i hf hft
     cases h;have:=hr id (by simp);rw [Zn] at this;have h' :H'[id]? =some (.map es):=by
      cases h' :H'[id]? with
      |none=>rw [h'] at this;simp [R0] at this
      |some o=>rw [h'] at this;cases o<;>simp_all [R0]
     simp only [h',hf,hft]
    ·cases h
   ·cases h
  ·exact h
  ·cases h
 case p8 sz len zero parts ob=>cases ob<;>exact h
 all_goals exact h
structure Still (k:Nat)(dst u5:Option Nat)(d:List Touch)(st st' :E5):Prop where
 L:∀ m,m≠k->(st'.L.getD m .any).G4=(st.L.getD m .any).G4
 Gb:∀ m,m≠k->∀ b,st'.L[m]? =some (b6.d (.bool b))↔st.L[m]? =some (b6.d (.bool b))
 Gt:∀ m,m≠k->(st'.L[m]? =some (b6.tuple [])↔st.L[m]? =some (b6.tuple []))
 T:∀ s,dst≠some s->(st'.T.getD s .any).G4=(st.T.getD s .any).G4
 n6:st'.n6=d++st.n6
 H:∀ id:Nat,d.any (Touch.K4 id)=false->u5≠some id->R0 st'.H[id]? st.H[id]?
 Iq:st.H.length<=st'.H.length
 gN:st'.L.length=st.L.length
 U9:st'.T.length=st.T.length
section
variable {k:Nat} {dst u5:Option Nat} {d d1 d2:List Touch} {st S4 st' :E5}
theorem Still.refl (k:Nat)(dst u5:Option Nat)(st:E5):Still k dst u5 [] st st :=
 ⟨fun _ _=>rfl,fun _ _ _=>Iff.rfl,fun _ _=>Iff.rfl,fun _ _=>rfl,rfl,fun _ _ _=>R0.refl _,n5 _,rfl,rfl⟩
theorem Still.trans (h:Still k dst u5 d1 st S4)(g:Still k dst u5 d2 S4 st'):Still k dst u5 (d2++d1) st st' where
 L m hm:=(g.L m hm).trans (h.L m hm)
 Gb m hm b:=(g.Gb m hm b).trans (h.Gb m hm b)
 Gt m hm:=(g.Gt m hm).trans (h.Gt m hm)
 T s hs:=(g.T s hs).trans (h.T s hs)
 n6:=by rw [g.n6,h.n6,List.append_assoc]
 H id hd hn:=by
  simp only [List.any_append,Bool.or_eq_false_iff] at hd;exact (g.H id hd.1 hn).trans (h.H id hd.2 hn)
 Iq:=Nat.le_trans h.Iq g.Iq
 gN:=g.gN.trans h.gN
 U9:=g.U9.trans h.U9
theorem Still.put (v:b6):Still k dst u5 [] st (put st k v) where
 L m hm:=by grind [y3.put,O1]
 Gb m hm b:=by grind [y3.put,A1]
 Gt m hm:=by grind [y3.put,A1]
 T _ _:=rfl
 n6:=rfl
 H _ _ _:=R0.refl _
 Iq:=n5 _
 gN:=by simp [y3.put]
 U9:=rfl
theorem Still.B3 {j z n:Nat}{c:List Data}(hj:st.L[j]? =some (.own z n c)):Still k dst u5 [] st { st with L:=st.L.set j (.d (.slice n c)) } where
 L m _:=by
  by_cases e:j=m
  ·subst e
   rw [M6 _ _ _ _ (p6 hj),au hj];rfl
  simp_all
 Gb m _ b:=by
  grind
 Gt m _:=by
  grind
 T _ _:=rfl
 n6:=rfl
 H _ _ _:=R0.refl _
 Iq:=n5 _
 gN:=by simp
 U9:=rfl
theorem Still.D7 (y:q7):Still k dst u5 [] st (D7 st y).2:=by
 cases y with
 |loc j =>
  grind [y3.D7,Still.B3,Still.refl]
 |slot s=>exact Still.refl _ _ _ _
 |const v=>exact Still.refl _ _ _ _
theorem Still.heap {H' :o6}(h2:∀ id:Nat,d.any (Touch.K4 id)=false->u5≠some id->R0 H'[id]? st.H[id]?)(hl:st.H.length<=H'.length):Still k dst u5 d st { st with H:=H',n6:=d++st.n6 } :=
 ⟨fun _ _=>rfl,fun _ _ _=>Iff.rfl,fun _ _=>Iff.rfl,fun _ _=>rfl,rfl,h2,hl,rfl,rfl⟩
theorem Still.newObj {i:Nat}(o:y7):Still k dst (some i) [] st (J7 st (some i) o) :=
 ⟨fun _ _=>rfl,fun _ _ _=>Iff.rfl,fun _ _=>Iff.rfl,fun _ _=>rfl,rfl,fun id _ hn=>by
  simp_all [J7,A1,R0.refl],(by simp [J7]),rfl,rfl⟩
theorem Still.V2 {l:G9}{sz len:Nat}{cells:List Data}{op:q9}(h:V2 l st sz op=some (len,cells,st')):∃ d,Still k dst u5 d st st' :=by
 unfold y3.V2 at h;split at h
 ·rename_i s
  split at h
  ·cases h
  ·split at h
   ·rename_i hs
    split at h
    ·cases h
     refine ⟨[.slot s],fun _ _=>rfl,fun _ _ _=>Iff.rfl,fun _ _=>Iff.rfl,fun s' _=> ?_,rfl,fun _ _ _=>R0.refl _,n5 _,rfl,by simp⟩
     by_cases e:s=s'
     ·subst e
      rw [M6 _ _ _ _ (p6 hs),au hs];rfl
     simp_all
    ·cases h
   ·cases h
 ·split at h
  ·rename_i id off OY
   split at h
   ·cases h
   ·split at h
    ·rename_i cs hcs
     split at h
     ·rename_i Tj
      split at h
      ·cases h
       refine ⟨[.cell id off],Still.heap (fun id' _ _=> ?_) (by simp)⟩
       by_cases he:id=id'
       ·subst he
        rw [List.getElem?_set_self (p6 hcs),hcs];apply List.ext_getElem?;intro n;simp only [List.getElem?_map]
        by_cases e:off=n
        ·subst e
         rw [List.getElem?_set_self (p6 Tj),Tj];rfl
        simp_all
       simp_all [A1,R0.refl]
      ·cases h
     ·cases h
    ·cases h
  ·cases h
 ·cases h
theorem Still.Q1 {l:G9}{j4:List n8}{sz len:Nat}{cells:List Data}{y:q7}(h:Q1 l j4 st sz y=some (len,cells,st')):∃ d,Still k dst u5 d st st' :=by
 unfold y3.Q1 at h;split at h
 ·split at h
  ·cases h;exact ⟨[],Still.refl _ _ _ _⟩
  ·cases h
 ·cases h
 ·cases h
 ·split at h
  ·rename_i hj
   split at h
   ·cases h
    exact ⟨[],Still.B3 hj⟩
   ·cases h
  ·split at h
   ·exact Still.V2 h
   ·cases h
  ·cases h
theorem Still.C7 {E:Env}{f:FuncId}{args:List b6}(h:C7 E k f args st=some st'):∃ d,Still k dst none d st st' :=by
 unfold y3.C7 at h;split at h
 ·split at h
  ·rename_i v H1 _
   split at h
   ·rename_i hlen
    cases h;refine ⟨[]++[.below H1.length],Still.trans (Still.heap (fun id hd _=> ?_) hlen) (Still.put _)⟩
    grind [Touch.K4,A8,R0.refl]
   ·cases h
  ·cases h
 ·simp only at h
  generalize I4 st.H E.lim.strict 8 (A4 args)=n at h;generalize (args.headD .any).N4=m at h;split at h
  ·split at h
   ·split at h
    ·split at h
     ·cases h
      refine ⟨[]++[.below n],Still.trans (Still.heap (fun id hd _=> ?_) (by simp;omega)) (Still.put _)⟩;simp_all [Touch.K4,s7,List.getElem?_drop,R0.refl]
     ·cases h
    ·cases h
   ·split at h
    ·split at h
     ·cases h
      exact ⟨_,Still.put _⟩
     ·cases h
    ·cases h
   ·split at h
    ·split at h
     ·cases h
      refine ⟨[]++[.below m],Still.trans (Still.heap (fun id hd _=> ?_) (by simp;omega)) (Still.put _)⟩;simp_all [Touch.K4,s7,List.getElem?_drop,List.take,R0.refl]
     ·cases h
    ·cases h
  ·cases h
theorem Rr {H H' :o6}{id off:Nat}{vs:List b6}(h:wr H id off vs=some H'):H'.length=H.length:=by
 grind [wr]
theorem Still.Q0 {E:Env}{n:Nat}{a:b6}{x:q7}(h:Q0 E k n st a x=some st'):∃ d,Still k dst none d st st' :=by
 unfold y3.Q0 at h;split at h
 ·rename_i id off
  split at h
  ·split at h
   ·split at h
    ·rename_i H' hw
     cases h;refine ⟨[]++([.obj id]++[]),Still.trans (Still.trans (Still.D7 x) (Still.heap (fun id' hd _=> ?_) (by rw [Rr hw];omega))) (Still.put _)⟩
     grind [rY,R0.refl,Touch.K4]
    ·cases h
   ·cases h
  ·cases h
 ·cases h
theorem Still.X0 {E:Env}{sz:Nat}{zero:List b6}{a:b6}(h:X0 E k sz zero st a=some st'):∃ d,Still k dst none d st st' :=by
 unfold y3.X0 at h;split at h
 ·rename_i id z lo len
  split at h
  ·split at h
   ·rename_i H' hw
    cases h;refine ⟨[]++[.obj id],Still.trans (Still.heap (fun id' hd _=> ?_) (by rw [Rr hw];omega)) (Still.put _)⟩
    grind [rY,R0.refl,Touch.K4]
   ·cases h
  ·cases h
 ·cases h
  exact ⟨_,Still.put _⟩
 ·cases h
theorem Still.T5 {E:Env}{kk:KK}{m key v:b6}(h:T5 E k kk st m key v=some st'):∃ d,Still k dst none d st st' :=by
 unfold y3.T5 at h;split at h
 ·rename_i id kd _
  split at h
  ·split at h
   ·split at h
    ·split at h
     ·cases h
      refine ⟨[]++[.obj id],Still.trans (Still.heap (fun id' hd _=> ?_) (by simp)) (Still.put _)⟩;rw [A1]
      ·exact R0.refl _
      ·rintro rfl
       simp [Touch.K4] at hd
     ·cases h
    ·cases h
   ·cases h
  ·cases h
 ·cases h
theorem Still.E6 {E:Env}{j4:List n8}{op:q9}(hk:F4 st op=false)(hn:u5.isSome=op.z8)(h:E6 E j4 u5 k st op=some st'):∃ d,Still k dst u5 d st st' :=by
 cases op<;>simp [y3.E6] at h<;>try simp_all
 all_goals (simp [q9.z8] at hn)
 case alloc zero =>
  obtain ⟨i,rfl⟩:=Option.isSome_iff_exists.1 hn;cases h;exact ⟨_,(Still.newObj _).trans (Still.put _)⟩
 case box x =>
  obtain ⟨i,rfl⟩:=Option.isSome_iff_exists.1 hn;split at h
  ·cases h;exact ⟨_,(Still.newObj _).trans (Still.put _)⟩
  ·cases h
 case makeMap =>
  obtain ⟨i,rfl⟩:=Option.isSome_iff_exists.1 hn;cases h;exact ⟨_,(Still.newObj _).trans (Still.put _)⟩
 case p8 sz len zero parts ob =>
  cases ob
  ·cases h
  ·obtain ⟨i,rfl⟩:=Option.isSome_iff_exists.1 hn
   simp at h;split at h
   ·split at h
    ·cases h;exact ⟨_,(Still.newObj _).trans (Still.put _)⟩
    ·cases h
   ·cases h
 case store n a x =>
  have:u5=none:=by simp_all
  subst this;exact Still.Q0 h
 case append sz bytes ob x y =>
  split at h
  ·simp_all [F4]
  ·cases ob with
   |true =>
    obtain ⟨i,rfl⟩:=Option.isSome_iff_exists.1 hn;unfold y3.L0 at h;simp [if_true] at h;split at h
    ·split at h
     ·split at h
      ·cases h;exact ⟨_,Still.put _⟩
      ·cases h;exact ⟨_,(Still.newObj _).trans (Still.put _)⟩
     ·cases h
    ·cases h
   |false =>
    have:u5=none:=by simp_all
    subst this;unfold y3.L0 at h;simp [b7,if_false] at h;split at h
    ·split at h
     ·split at h
      ·rename_i ht
       split at h
       ·cases h
        obtain ⟨d,hd⟩:=Still.Q1 (k:=k) (dst:=dst) (u5:=none) ht;exact ⟨_,hd.trans (Still.put _)⟩
       ·cases h
      ·cases h
     ·cases h
    ·cases h
 case clear sz zero x =>
  have:u5=none:=by simp_all
  subst this;exact Still.X0 h
 case call f xs =>
  have:u5=none:=by simp_all
  subst this;exact Still.C7 h
 case aO x xs =>
  have:u5=none:=by simp_all
  subst this;split at h
  ·exact Still.C7 h
  ·cases h
 case dD =>
  have:u5=none:=by simp_all
  subst this;exact Still.T5 h
 case defer x =>
  split at h
  ·split at h
   ·cases h;exact ⟨_,Still.put _⟩
   ·cases h
  ·cases h
theorem Still.F3 {aL9 :Option Nat}(h:q8 aL9 st k dst=some st'):∃ d,Still k dst u5 d st st' :=by
 rcases R6 h with ⟨_,rfl⟩|⟨s,n6,rfl,_,rfl,EG⟩
 ·exact ⟨_,Still.refl _ _ _ _⟩
 ·have hx:=Still.D7 (k:=k) (dst:=some s) (u5:=u5) (st:=st) (.loc k)
  have key:∀ d,n6=d++st.n6->Still k (some s) u5 d st { (y3.D7 st (.loc k)).2 with T:=st.T.set s (y3.D7 st (.loc k)).1,n6 }:=by
   intro d hd;refine ⟨hx.L,hx.Gb,hx.Gt,fun s' hs=> ?_,hd,fun id _ hn=>hx.H id rfl hn,hx.Iq,hx.gN,by simp⟩;simp_all
  rcases EG with rfl|⟨rfl,_⟩
  ·exact ⟨[.slot s],key _ rfl⟩
  ·exact ⟨[],key _ rfl⟩
theorem Still.y6 {E:Env}{j4:List n8}{i:n8}{rs:List Nat}(hk:F4 st i.op=false)(hn:u5.isSome=i.op.z8)(h:y6 E j4 u5 k i st=some (st',rs)):∃ d,Still k i.dst u5 d st st' :=by
 unfold y3.y6 at h;split at h
 ·split at h
  ·rename_i S4 ZA hW
   split at h
   ·rename_i aB hts
    cases h;have h1:∃ d,Still k i.dst u5 d st S4:=by
     unfold y3.D6 at hW;split at hW
     ·split at hW
      ·rename_i he
       cases hW;exact Still.E6 hk hn he
      ·cases hW
     ·split at hW
      ·cases hW
       exact ⟨_,(Still.D7 _).trans (Still.put _)⟩
      ·split at hW
       ·cases hW
        exact ⟨_,Still.put _⟩
       ·cases hW
    obtain ⟨d1,h1⟩:=h1;obtain ⟨d2,h2⟩:=Still.F3 (u5:=u5) hts;exact ⟨_,h1.trans h2⟩
   ·cases h
  ·cases h
 ·split at h
  ·rename_i hts
   cases h;obtain ⟨d2,h2⟩:=Still.F3 (u5:=u5) hts;exact ⟨_,(Still.put _).trans h2⟩
  ·cases h
 ·cases h
theorem Still.F5 (h:Still k dst u5 d st st'){x:q7}(hl:k ∉ x.dY)(ht:∀ s,s ∈ x.slots->dst≠some s):F5 st'.T st'.L x=F5 st.T st.L x:=by
 cases x with
 |loc j =>
  exact h.L j (fun e=>hl (by simp [q7.dY,e]))
 |slot s =>
  exact h.T s (ht s (by simp [q7.slots]))
 |const v=>rfl
theorem Still.wanted (h:Still k dst u5 d st st'){g:Option (Nat×Bool)}(hg:∀ j b,g=some (j,b)->j≠k):y4 st'.L g=y4 st.L g:=by
 cases g with
 |none=>rfl
 |some p =>
  obtain ⟨j,want⟩:=p;have hj:=hg j want rfl;have h1:=h.Gb j hj;have h2:=h.Gt j hj
  grind [y4,absurd]
theorem Still.EB {E:Env}{i:n8}{rs:List Nat}(h:Still k dst u5 d st st'):(cP E i u5 st st' rs).EB=kO u5++d:=by
 simp only [cP,h.n6];simp
theorem Still.reads {E:Env}{i:n8}{rs:List Nat}(h:Still k dst u5 d st st'){ids:List Nat}(hh:J6 (cP E i u5 st st' rs).EB ids=false){id:Nat}(hid:id ∈ ids):R0 st'.H[id]? st.H[id]? :=by
 rw [h.EB] at hh;unfold J6 at hh;have hno:∀ t,t ∈ (kO u5++d:List Touch)->t.K4 id=false:=by
  grind
 refine h.H id ?_ ?_
 all_goals grind [List.any_eq_false,kO,Touch.K4]
end
section
variable {E:Env} {j4:List n8} {u5:Option Nat} {k q:Nat} {v:b6} {st S4 aB st' :E5}
theorem rI {x:q7}(h:q ∉ x.dY):F5 (put st q v).T (put st q v).L x=F5 st.T st.L x:=by
 simp_all [F5,put,q7.dY]<;>grind
theorem put_comm (h:q≠k)(u:b6):put (put st q v) k u=put (put st k u) q v:=by
 simp_all [put,List.set_comm]
theorem kR {l:List b6}{q j:Nat}(h:q≠j)(v:b6):(l.set q v)[j]? =l[j]? :=A1 h
theorem zg {x:q7}(h:q ∉ x.dY):D7 (put st q v) x=((D7 st x).1,put (D7 st x).2 q v):=by
 cases x with
 |loc j =>
  grind [q7.dY,D7,put,kR,F5,List.getD,List.set_comm]
 |slot s=>rfl
 |const c=>rfl
theorem fq (o:y7):J7 (put st q v) u5 o=put (J7 st u5 o) q v:=by cases u5<;>rfl
theorem jL:newId (put st q v) u5=newId st u5:=rfl
theorem AX {x:q7}(h:q ∉ x.dY):Z8 (put st q v) x=Z8 st x:=by
 simp_all [q7.dY,Z8,put]<;>grind
theorem FV {l:G9}{sz:Nat}{op:q9}(h:q ∉ op.R8.flatMap q7.dY):V2 l (put st q v) sz op=(V2 l st sz op).map fun p=>(p.1,p.2.1,put p.2.2 q v):=by
 unfold V2;split
 ·have e1:(put st q v).n6=st.n6:=rfl
  have e2:(put st q v).T=st.T:=rfl;simp [e1,e2];split
  ·rfl
  ·split
   ·split
    all_goals rfl
   ·rfl
 ·rename_i x
  have hx:q ∉ x.dY:=fun e=>h (by simp [q9.R8,e])
  rw [AX hx];have e1:(put st q v).n6=st.n6:=rfl;have e2:(put st q v).H=st.H:=rfl;split
  ·simp [e1,e2]
   split
   ·rfl
   ·split
    ·split
     ·split
      all_goals rfl
     ·rfl
    ·rfl
  ·rfl
 ·rfl
theorem FU {l:G9}{sz:Nat}{x:q7}(h:q ∉ x.dY)(h2:∀ j a,x= .loc j->j4[j]? =some a->q ∉ a.op.R8.flatMap q7.dY) :
  Q1 l j4 (put st q v) sz x=(Q1 l j4 st sz x).map fun p=>(p.1,p.2.1,put p.2.2 q v):=by
 cases x with
 |const c =>
  unfold Q1;cases c<;>first|rfl|skip
  simp_all
 |slot s=>rfl
 |loc j =>
  have hj:q≠j:=fun e=>h (by simp [q7.dY,e])
  have e:(put st q v).L[j]? =st.L[j]? :=by simp_all [put,kR]
  simp [Q1];rw [e];cases hl:st.L[j]? with
  |none=>rfl
  |some b =>
   cases b with
   |own z len cells =>
    grind [put,List.set_comm]
   |d x =>
    cases x with
    |slice n c =>
     cases ha:j4[j]? with
     |none=>rfl
     |some a=>simp_all [FV]
    |_=>rfl
   |_=>rfl
theorem uc (h:q≠k){f:FuncId}{args:List b6}:C7 E k f args (put st q v)=(C7 E k f args st).map fun s=>put s q v:=by
 have e1:(put st q v).H=st.H:=rfl;have e2:(put st q v).n6=st.n6:=rfl;have key:∀ (H:o6) (t:List Touch) (u:b6),put { put st q v with H:=H,n6:=t } k u=put (put { st with H:=H,n6:=t } k u) q v:=by
  simp_all [put,List.set_comm]
 unfold C7;simp [e1];split
 ·split
  all_goals simp_all
 ·split
  ·split
   ·split
    all_goals simp_all
   ·split
    all_goals simp_all
   ·split
    all_goals simp_all
  ·rfl
theorem DA (h:q≠k){n:Nat}{a:b6}{x:q7}(hx:q ∉ x.dY):Q0 E k n (put st q v) a x=(Q0 E k n st a x).map fun s=>put s q v:=by
 unfold Q0;simp [zg hx];cases a with
 |ptr id off =>
  simp only;split
  ·split
   ·have e:(put (D7 st x).2 q v).H=(D7 st x).2.H:=rfl
    split
    all_goals simp_all [put,Option.map_some,List.set_comm]
   ·rfl
  ·rfl
 |_=>rfl
theorem Cp (h:q≠k){sz:Nat}{zero:List b6}{a:b6}:X0 E k sz zero (put st q v) a=(X0 E k sz zero st a).map fun s=>put s q v:=by
 have e:(put st q v).H=st.H:=rfl;unfold X0;split
 ·split
  ·split
   all_goals grind [put,List.set_comm]
  ·rfl
 all_goals grind [put_comm]
theorem Af (h:q≠k){kk:KK}{m key x:b6}:T5 E k kk (put st q v) m key x=(T5 E k kk st m key x).map fun s=>put s q v:=by
 have e:(put st q v).H=st.H:=rfl;unfold T5;split
 ·rw [e]
  split
  ·split
   ·split
    ·split
     ·simp only [put,Option.map_some]
      congr 2
      exact List.set_comm _ _ h
     ·rfl
    ·rfl
   ·rfl
  ·rfl
 ·rfl
theorem Iy {l:G9}{op:q9}(h:q ∉ op.R8.flatMap q7.dY):mP l (put st q v) op=mP l st op:=by
 unfold mP;split
 ·rfl
 ·rename_i x
  have hx:q ∉ x.dY:=fun e=>h (by simp [q9.R8,e])
  rw [AX hx];rfl
 ·rfl
theorem MT {l:G9}{x:q7}(h:q ∉ x.dY)(h2:∀ j a,x= .loc j->j4[j]? =some a->q ∉ a.op.R8.flatMap q7.dY):isNil l j4 (put st q v) x=isNil l j4 st x:=by
 cases x with
 |const c=>cases c<;>rfl
 |slot s=>rfl
 |loc j =>
  grind [q7.dY,put,kR,isNil,Iy]
theorem zW (h:q≠k){sz bytes:Nat}{ob:Bool}{x:q7}{y:b6}(hx:q ∉ x.dY)(h2:∀ j a,x= .loc j->j4[j]? =some a->q ∉ a.op.R8.flatMap q7.dY) :
  L0 E j4 u5 k sz bytes ob (put st q v) x y=(L0 E j4 u5 k sz bytes ob st x y).map fun s=>put s q v:=by
 have e:(put st q v).H=st.H:=rfl;unfold L0;rw [e,MT hx h2,FU hx h2];split
 ·split
  ·grind [put_comm,fq,jL]
  ·split
   all_goals grind [Q1,put_comm]
 ·rfl
theorem R5 {i:n8}{x:q7}(hx:x ∈ i.op.R8)(h:q ∉ fT j4 i):q ∉ x.dY:=by
 simp_all [fT,List.append_assoc,List.mem_append_left,List.mem_flatMap]
theorem cr {i:n8}{g:Nat}{b:Bool}(hg:i.guard=some (g,b))(h:q ∉ fT j4 i):g≠q:=by
 grind [fT]
theorem Ag {i:n8}{sz bytes:Nat}{ob:Bool}{x y:q7}(hop:i.op= .append sz bytes ob x y)(h:q ∉ fT j4 i):∀ j a,x= .loc j->j4[j]? =some a->q ∉ a.op.R8.flatMap q7.dY:=by
 grind [fT,List.mem_append_right]
def DO (st:E5)(op:q9)(v:b6):Prop:=∀ sz Oi ob x y id z lo n,op= .append sz Oi ob x y->F5 st.T st.L x= .D4 id z lo n->v.kill id=v
theorem DO.of {op:q9}(h:F4 st op=false):DO st op v:=fun _ _ _ _ _ _ _ _ _ e hx=>by subst e;simp [F4,hx] at h
theorem AQ (id:Nat):∀ (l:List b6) (j:Nat) (x:b6),G5 id (l.set j x)=(G5 id l).set j (x.kill id)
 |[],_,_=>rfl
 |a::l,0,x=>rfl
 |a::l,j+1,x=>by simp only [u0,G5,AQ id l j x]
theorem zV (h:q≠k){sz bytes id lo len:Nat}{y:b6}(hv:v.kill id=v):S2 E k sz bytes (put st q v) id lo len y=(S2 E k sz bytes st id lo len y).map fun s=>put s q v:=by
 unfold S2;split
 ·have e1:(put st q v).H=st.H:=rfl
  rw [e1];split
  ·split
   ·simp only [Option.map_some,Option.some.injEq]
    rw [<- put_comm h];simp only [put,AQ,hv]
   ·rfl
  ·rfl
 ·rfl
theorem Mz {i:n8}(h:q≠k)(hu:q ∉ fT j4 i)(hk:DO st i.op v):E6 E j4 u5 k (put st q v) i.op=(E6 E j4 u5 k st i.op).map fun s=>put s q v:=by
 have hρ:∀ x,x ∈ i.op.R8->F5 (put st q v).T (put st q v).L x=F5 st.T st.L x:=fun x hx=>rI (R5 hx hu)
 cases hop:i.op<;>simp only [hop,q9.R8] at hρ<;>simp only [E6]<;>try rfl
 case alloc zero=>simp only [fq,jL,put_comm h,Option.map_some]
 case box x =>
  rw [hρ x (by simp)];split
  ·simp only [fq,jL,put_comm h,Option.map_some]
  ·rfl
 case makeMap=>simp only [fq,jL,put_comm h,Option.map_some]
 case p8 sz len zero parts ob =>
  cases ob
  ·rfl
  ·have e:(parts.map fun x=>(x.1,x.2.1,F5 (put st q v).T (put st q v).L x.2.2))=(parts.map fun x=>(x.1,x.2.1,F5 st.T st.L x.2.2)):=iM hρ
   simp only [e];cases bU zero (parts.map fun x=>(x.1,x.2.1,F5 st.T st.L x.2.2)) with
   |none=>rfl
   |some cs =>
    simp only;split
    ·simp only [fq,jL,put_comm h,Option.map_some]
    ·rfl
 case store n a x =>
  rw [hρ a (by simp)];exact DA h (R5 (by simp [hop,q9.R8]) hu)
 case append sz bytes ob x y =>
  rw [hρ x (by simp),hρ y (by simp)];split
  ·rename_i hx
   split
   ·exact zV h (hk _ _ _ _ _ _ _ _ _ hop hx)
   ·rfl
  ·exact zW h (R5 (by simp [hop,q9.R8]) hu) (Ag hop hu)
 case clear sz zero x =>
  rw [hρ x (by simp)];exact Cp h
 case call f xs =>
  rw [Y7 hρ];exact uc h
 case aO x xs =>
  rw [hρ x (by simp),Y7 (l:=xs) fun y hy=>hρ y (by simp [hy])];split
  ·exact uc h
  ·rfl
 case dD kk m key x =>
  rw [hρ m (by simp),hρ key (by simp),hρ x (by simp)];exact Af h
 case defer x =>
  rw [hρ x (by simp)];split
  ·split
   ·simp only [put_comm h,Option.map_some]
   ·rfl
  ·rfl
theorem yQ (h:q≠k){dst:Option Nat}:q8 u5 (put st q v) k dst=(q8 u5 st k dst).map fun s=>put s q v:=by
 have hx:q ∉ (q7.loc k).dY:=by grind [q7.dY]
 have e1:(put st q v).T=st.T:=rfl;have e2:(put st q v).n6=st.n6:=rfl;cases u5<;>cases dst<;>simp [q8,F3,W5,zg hx,e1]<;>first|rfl|(split<;>rfl)
theorem wanted_put {g:Option (Nat×Bool)}(h:∀ j b,g=some (j,b)->j≠q):y4 (put st q v).L g=y4 st.L g:=by
 cases g with
 |none=>rfl
 |some p =>
  grind [y4,put,kR]
theorem jV {i:n8}(h:q≠k)(hu:q ∉ fT j4 i)(hk:DO st i.op v):y6 E j4 u5 k i (put st q v)=(y6 E j4 u5 k i st).map fun p=>(put p.1 q v,p.2):=by
 have hρ:∀ x,x ∈ i.op.R8->F5 (put st q v).T (put st q v).L x=F5 st.T st.L x:=fun x hx=>rI (R5 hx hu)
 have hW:D6 E j4 u5 k i.op (put st q v)=(D6 E j4 u5 k i.op st).map fun p=>(put p.1 q v,p.2):=by
  unfold D6;split
  ·rw [Mz h hu hk]
   cases E6 E j4 u5 k st i.op<;>rfl
  ·cases hop:i.op with
   |O3 x =>
    simp only [zg (R5 (x:=x) (by simp [hop,q9.R8]) hu),put_comm h,Option.map_some]
   |_ =>
    simp only;rw [<- hop,rD hρ];have e:(put st q v).H=st.H:=rfl;rw [e];cases hp:m6 (F5 st.T st.L) st.H i.op with
    |none=>rfl
    |some p=>simp only [put_comm h,Option.map_some]
 unfold y6;rw [wanted_put (fun j b hg=>cr hg hu),hW];split
 ·cases hp:D6 E j4 u5 k i.op st with
  |none=>rfl
  |some p =>
   obtain ⟨s1,rs⟩:=p;simp only [Option.map_some];rw [yQ h];cases q8 u5 s1 k i.dst<;>rfl
 ·rw [put_comm h,yQ h]
  cases q8 u5 (put st k (.tuple [])) k i.dst<;>rfl
 ·rfl
def Z0 (st:E5)(i:Nat)(o:y7):E5:={ st with H:=st.H.set i o }
theorem nq {H:o6}{n i:Nat}{o:y7}(h:n<=i):(H.set i o).take n=H.take n:=List.take_set_of_le h
theorem AS (H:o6)(s:Nat):∀ (j m:Nat),m<=I4 H s j m
 |0,m=>by simp [I4]
 |j+1,m=>by
  unfold I4;split
  ·omega
  ·simp only
   split
   ·omega
   ·exact Nat.le_trans (Nat.le_max_left _ _) (AS H s j _)
theorem gI (H:o6)(s i:Nat)(o:y7):∀ (j n:Nat),I4 H s j n<=i->I4 (H.set i o) s j n=I4 H s j n
 |0,n,_=>rfl
 |j+1,n,h=>by
  have hn:n<=i:=Nat.le_trans (AS H s (j+1) n) h;unfold I4 at h ⊢;split
  ·rfl
  ·rename_i cz
   rw [if_neg cz] at h;simp [nq hn] at h ⊢;split
   ·rfl
   ·rename_i hm
    rw [if_neg hm] at h;exact gI H s i o j _ h
theorem ue (H:o6)(s i:Nat)(o:y7)(j n:Nat)(h:I4 (H.set i o) s j n<=i):I4 H s j n=I4 (H.set i o) s j n:=by
 rcases u9 i H.length with hi|hi
 ·have:=gI (H.set i o) s i H[i] j n h
  simp_all
 ·rw [List.set_eq_of_length_le hi]
theorem DB {H:o6}{s n i:Nat}{o:y7}(h:n<=i):C8 (H.set i o) s n=C8 H s n:=by
 grind [C8,nq]
theorem Em {H:o6}{n i:Nat}{o:y7}(h:n<=i):(H.set i o).drop n=(H.drop n).set (i - n) o:=by
 apply List.ext_getElem?
 grind
theorem wE {A H:o6}{n i:Nat}{o:y7}(ha:A.length=n)(h:n<=i):A++(H.set i o).drop n=(A++H.drop n).set i o:=by
 simp_all [Em,List.set_append,if_neg]
theorem qB {f:FuncId}{args:List b6}{i:Nat}{o:y7}(hi:i<st.H.length)(hs:(if E.prom f then st.H.length else I4 st.H E.lim.strict 8 (A4 args))<=i) :
  C7 E k f args (Z0 st i o)=(C7 E k f args st).map fun s=>Z0 s i o:=by
 have e1:(Z0 st i o).H=st.H.set i o:=rfl;have e2:(Z0 st i o).n6=st.n6:=rfl;unfold C7;simp [e1]
 by_cases hp:E.prom f=true
 ·grind
 ·rw [if_neg hp] at hs
  rw [if_neg hp,if_neg hp,gI _ _ _ _ _ _ hs];simp [nq hs,DB hs,List.length_set];split
  ·split
   ·split
    all_goals simp_all [Option.map_some,put,Z0,wE]
   ·split
    ·split
     all_goals rfl
    ·rfl
   ·split
    all_goals grind [put,Z0,wE,Nat.le_trans]
  ·rfl
theorem uF {dst:Option Nat}{i:Nat}{o:y7}:q8 u5 (Z0 st i o) k dst=(q8 u5 st k dst).map fun s=>Z0 s i o:=by
 have hx:D7 (Z0 st i o) (.loc k)=((D7 st (.loc k)).1,Z0 (D7 st (.loc k)).2 i o):=by
  grind [D7,Z0]
 have e1:(Z0 st i o).T=st.T:=rfl;have e2:(Z0 st i o).n6=st.n6:=rfl;cases u5<;>cases dst<;>simp [q8,F3,W5,hx,e1]<;>first|rfl|(split<;>rfl)
def Cr (i:n8):Bool:=match i.op with
 | .call .. =>true
 | .aO .. =>true
 |_=>false
theorem IY {i:n8}{m:Nat}{o:y7}(hc:Cr i=true)(hi:m<st.H.length)(hs:M3 E st i.op<=m):y6 E j4 u5 k i (Z0 st m o)=(y6 E j4 u5 k i st).map fun p=>(Z0 p.1 m o,p.2):=by
 have hW:D6 E j4 u5 k i.op (Z0 st m o)=(D6 E j4 u5 k i.op st).map fun p=>(Z0 p.1 m o,p.2):=by
  unfold Cr at hc;unfold D6;have e:∀ x,F5 (Z0 st m o).T (Z0 st m o).L x=F5 st.T st.L x:=fun _=>rfl
  split at hc
  ·rename_i f xs hop
   rw [hop] at hs ⊢;simp [q9.E2,E6];have:C7 E k f (xs.map (F5 (Z0 st m o).T (Z0 st m o).L)) (Z0 st m o)=(C7 E k f (xs.map (F5 st.T st.L)) st).map fun s=>Z0 s m o:=qB hi hs
   grind
  ·rename_i x xs hop
   rw [hop] at hs ⊢;simp [q9.E2,E6];rw [e x];simp [M3] at hs;cases hx:F5 st.T st.L x with
   |func f first caps =>
    grind [C7,F5,Z0,qB]
   |_=>rfl
  ·cases hc
 unfold y6;have e3:y4 (Z0 st m o).L i.guard=y4 st.L i.guard:=rfl;rw [e3,hW];split
 ·grind [D6,uF,q8]
 ·have e4:put (Z0 st m o) k (.tuple [])=Z0 (put st k (.tuple [])) m o:=rfl
  grind [uF,q8,put]
 ·rfl
theorem Nt {i:n8}{m:Nat}{o:y7}(hs:M3 E (Z0 st m o) i.op<=m):M3 E st i.op=M3 E (Z0 st m o) i.op:=by
 have e:∀ x,F5 (Z0 st m o).T (Z0 st m o).L x=F5 st.T st.L x:=fun _=>rfl
 have e1:(Z0 st m o).H=st.H.set m o:=rfl;cases hop:i.op<;>rw [hop] at hs<;>simp [M3] at hs ⊢
 case call f xs =>
  by_cases hp:E.prom f=true
  ·simp_all
  ·rw [if_neg hp] at hs ⊢
   rw [if_neg hp];exact ue _ _ _ _ _ _ hs
 case aO x xs =>
  simp [e x,e1] at hs ⊢;split at hs
  ·rename_i f first caps hx
   by_cases hp:E.prom f=true
   ·simp_all
   ·rw [if_neg hp] at hs ⊢
    rw [if_neg hp];exact ue _ _ _ _ _ _ hs
  ·rfl
def bB (s:E5)(dst:Option Nat)(u:b6):E5:=match dst with
 |none=>s
 |some t=>{ s with T:=s.T.set t u }
theorem IN (s:E5)(dst:Option Nat)(u:b6):(bB s dst u).L=s.L:=by cases dst<;>rfl
theorem YQ (s:E5)(dst:Option Nat)(u:b6):(bB s dst u).H=s.H:=by cases dst<;>rfl
theorem QK (s:E5)(dst:Option Nat)(u:b6):(bB s dst u).n6=s.n6:=by cases dst<;>rfl
theorem Be (s:E5)(dst:Option Nat)(u:b6):(bB s dst u).T.length=s.T.length:=by cases dst<;>simp [bB]
theorem yf {s:E5}{dst:Option Nat}{u:b6}{x:q7}(h:∀ t,dst=some t->t ∉ x.slots):F5 (bB s dst u).T (bB s dst u).L x=F5 s.T s.L x:=by
 simp_all [F5,bB,q7.slots]<;>grind
theorem qC {f:FuncId}{args:List b6}{dst:Option Nat}{u:b6}:C7 E k f args (bB st dst u)=(C7 E k f args st).map fun s=>bB s dst u:=by
 cases dst with
 |none=>grind [bB,C7]
 |some t =>
  unfold C7;have e1:(bB st (some t) u).H=st.H:=rfl;have e2:(bB st (some t) u).n6=st.n6:=rfl;simp [e1];split
  ·split
   ·split<;>rfl
   ·rfl
  ·split
   ·split
    ·split
     ·split<;>rfl
     ·rfl
    ·split
     ·split<;>rfl
     ·rfl
    ·split
     ·split<;>rfl
     ·rfl
   ·rfl
theorem uG {dst dst' :Option Nat}{u:b6}(h:∀ s,dst=some s->dst' ≠some s):q8 u5 (bB st dst' u) k dst=(q8 u5 st k dst).map fun s=>bB s dst' u:=by
 cases dst' with
 |none=>simp_all [bB,q8]
 |some t =>
  have hx:D7 (bB st (some t) u) (.loc k)=((D7 st (.loc k)).1,bB (D7 st (.loc k)).2 (some t) u):=by
   simp [D7,bB];cases st.L[k]? with
   |none=>rfl
   |some a=>cases a<;>rfl
  have e2:(bB st (some t) u).n6=st.n6:=rfl;have e3:(bB st (some t) u).T.length=st.T.length:=Be _ _ _;cases dst with
  |none=>cases u5<;>rfl
  |some s =>
   have hne:t≠s:=fun e=>h s rfl (by rw [e])
   have e4:∀ x,(bB st (some t) u).T.set s x=(st.T.set s x).set t u:=fun x=>List.set_comm _ _ hne
   cases u5<;>simp [q8,F3,W5,hx,e2,e3,e4]<;>split<;>rfl
theorem IZ {i:n8}{dst:Option Nat}{u:b6}(hc:Cr i=true)(hu:∀ t,dst=some t->t ∉ fU i)(hd:∀ s,i.dst=some s->dst≠some s) :
  y6 E j4 u5 k i (bB st dst u)=(y6 E j4 u5 k i st).map fun p=>(bB p.1 dst u,p.2):=by
 have hρ:∀ x,x ∈ i.op.R8->F5 (bB st dst u).T (bB st dst u).L x=F5 st.T st.L x:=by
  simp_all [yf,fU,List.mem_flatMap]
 have hW:D6 E j4 u5 k i.op (bB st dst u)=(D6 E j4 u5 k i.op st).map fun p=>(bB p.1 dst u,p.2):=by
  unfold Cr at hc;unfold D6;split at hc
  ·rename_i f xs hop
   rw [hop] at hρ ⊢;simp [q9.E2,E6]
   grind [Y7,q9.R8,qC,C7,F5]
  ·rename_i x xs hop
   rw [hop] at hρ ⊢;simp [q9.E2,E6];rw [hρ x (by simp [q9.R8]),Y7 (l:=xs) fun y hy=>hρ y (by simp [q9.R8,hy])];cases hx:F5 st.T st.L x with
   |func f first caps =>
    grind [qC,C7,F5]
   |_=>rfl
  ·cases hc
 unfold y6;rw [IN,hW];split
 ·grind [D6,uG,q8]
 ·have e4:put (bB st dst u) k (.tuple [])=bB (put st k (.tuple [])) dst u:=by cases dst<;>rfl
  grind [uG,q8,put]
 ·rfl
end
def wX (i:n8):Bool:= !i.op.E2&&i.dst.isNone&&(match i.op with
 | .O3 (.loc _)=>false
 |_=>true)
def vg (i:n8):Bool:=match i.op with
 | .alloc _=>true
 | .box _=>true
 | .makeMap=>true
 | .p8 _ _ _ _ b=>b
 |_=>false
section
variable {E:Env} {j4:List n8} {u5:Option Nat} {k q:Nat} {st S4 aB st' :E5}
theorem gy {i:n8}(h:wX i=true)(st:E5):F4 st i.op=false:=by
 simp only [wX,b5,j5] at h;cases hop:i.op<;>rw [hop] at h<;>simp_all [q9.E2,F4]
theorem nV {i:n8}(h:wX i=true)(st:E5):M3 E st i.op=0:=by
 simp only [wX,b5,j5] at h;cases hop:i.op<;>rw [hop] at h<;>simp_all [q9.E2,M3]
theorem gw {i:n8}(h:vg i=true)(st:E5):F4 st i.op=false:=by
 unfold vg at h;cases hop:i.op<;>rw [hop] at h<;>simp_all [F4]
theorem nU {i:n8}(h:vg i=true)(st:E5):M3 E st i.op=0:=by
 unfold vg at h;cases hop:i.op<;>rw [hop] at h<;>simp_all [M3]
theorem ey {i:n8}(h:vg i=true):i.op.z8=true:=by
 unfold vg at h;cases hop:i.op<;>rw [hop] at h<;>simp_all [q9.z8]
theorem gv {i:n8}(h:Cr i=true)(st:E5):F4 st i.op=false:=by
 unfold Cr at h;cases hop:i.op<;>rw [hop] at h<;>simp_all [F4]
theorem fy {s:E5}{dst:Option Nat}(h:dst.isNone=true):q8 u5 s k dst=some s:=by
 cases dst with
 |none=>cases u5<;>rfl
 |some _=>simp at h
theorem Ch {i:n8}(hP:wX i=true){rs:List Nat}(h:y6 E j4 u5 k i st=some (st',rs)) :
  ∃ v,st' =put st k v/\∀ s2:E5,(∀ x,x ∈ i.op.R8->F5 s2.T s2.L x=F5 st.T st.L x)->y4 s2.L i.guard=y4 st.L i.guard->(∀ id,id ∈ rs->R0 s2.H[id]? st.H[id]?) ->
   y6 E j4 u5 k i s2=some (put s2 k v,rs):=by
 simp only [wX,b5,j5] at hP;obtain ⟨⟨h1,h2⟩,h3⟩:=hP;unfold y6 at h;split at h
 ·rename_i hw
  split at h
  ·rename_i s1 ZA hW
   rw [fy h2] at h;cases h;unfold D6 at hW;rw [h1] at hW;simp only [b7,if_false] at hW;have other:∀ {v:b6},(∀ x,i.op≠ .O3 x)->m6 (F5 st.T st.L) st.H i.op=some (v,rs)->st' =put st k v->∃ v,st' =put st k v/\∀ s2:E5,(∀ x,x ∈ i.op.R8->F5 s2.T s2.L x=F5 st.T st.L x)->y4 s2.L i.guard=y4 st.L i.guard->(∀ id,id ∈ rs->R0 s2.H[id]? st.H[id]?) ->
     y6 E j4 u5 k i s2=some (put s2 k v,rs):=by
    intro v hm hp e;refine ⟨v,e,fun s2 hρ Tu hr=> ?_⟩;unfold y6;rw [Tu,hw];simp only;have:D6 E j4 u5 k i.op s2=some (put s2 k v,rs):=by
     unfold D6;rw [h1];simp only [b7,if_false];have hp2:m6 (F5 s2.T s2.L) s2.H i.op=some (v,rs):=Fi (by rw [rD hρ];exact hp) hr;obtain ⟨op,hop⟩:∃ op,i.op=op:=⟨_,rfl⟩;rw [hop] at hp2 ⊢;cases op with
     |O3 x=>exact absurd hop (hm x)
     |_=>simp only [hp2]
    rw [this];simp only [fy h2]
   split at hW
   ·rename_i x hop
    cases hW;refine ⟨(D7 st x).1,?_,fun s2 hρ Tu hr=> ?_⟩
    ·cases x with
     |loc j=>rw [hop] at h3;simp at h3
     |slot s=>rfl
     |const c=>rfl
    ·unfold y6
     rw [Tu,hw];simp only [hop];have e1:D7 s2 x=((D7 st x).1,s2):=by
      cases x with
      |loc j=>rw [hop] at h3;simp at h3
      |slot s =>
       have:=hρ (.slot s) (by simp [hop,q9.R8]);simp only [D7,this]
      |const c=>rfl
     simp only [D6,q9.E2,b7,if_false,e1,fy h2]
   ·rename_i hne
    split at hW
    ·rename_i v rs2 hp
     cases hW;exact other hne hp rfl
    ·cases hW
  ·cases h
 ·rename_i hw
  rw [fy h2] at h;cases h;refine ⟨.tuple [],rfl,fun s2 hρ Tu hr=> ?_⟩;unfold y6;rw [Tu,hw];simp only [fy h2]
 ·cases h
def mY (s:E5)(n:Nat):Option y7->E5
 |some o=>Z0 s n o
 |none=>s
inductive NF (k n:Nat) (dst:Option Nat):(E5->E5)->Prop where
 |mk (o:Option y7) (v u:b6):NF k n dst (fun s=>bB (put (mY s n o) k v) dst u)
structure Alike (i:n8)(st s2:E5):Prop where
 T:s2.T.length=st.T.length
 L:s2.L.length=st.L.length
 n6:∀ s,i.dst=some s->s2.n6.any (Touch.R9 s)=true
theorem FX {s:E5}{v:b6}{dst:Option Nat}(hv:∀ z n c,v≠ .own z n c){s' :E5}(h:W5 (put s k v) k dst=some s') :
  ∃ u,s' =bB (put s k v) dst u/\∀ s2:E5,s2.T.length=s.T.length->s2.L.length=s.L.length->(∀ t,dst=some t->s2.n6.any (Touch.R9 t)=true)->W5 (put s2 k v) k dst=some (bB (put s2 k v) dst u):=by
 cases dst with
 |none=>cases h;exact ⟨.any,rfl,fun s2 _ _ _=>rfl⟩
 |some t =>
  have hx:∀ s:E5,D7 (put s k v) (.loc k)=((if k<s.L.length then v.G4 else .any),put s k v):=by
   intro s;simp only [D7,put]
   by_cases hk:k<s.L.length
   ·rw [List.getElem?_set_self hk]
    cases v<;>simp [F5,List.getD,hk,b6.G4]<;>first|rfl|exact absurd rfl (hv _ _ _)
   ·rw [A8 (by simpa using hk)]
    simp [F5,List.getD,hk,b6.G4]
  simp only [W5,hx] at h;split at h
  ·rename_i hc
   simp only [b5,decide_eq_true_eq] at hc;cases h;refine ⟨_,rfl,fun s2 h1 h2 h3=> ?_⟩;simp only [W5,hx];have:(decide (t<(put s2 k v).T.length)&&(put s2 k v).n6.any (Touch.R9 t))=true:=by
    simp only [b5,decide_eq_true_eq];refine ⟨?_,h3 t rfl⟩;have:=hc.1;simp only [put] at this ⊢;omega
   rw [if_pos this,h2];rfl
  ·cases h
theorem Dk (s:E5)(n:Nat)(o:Option y7):(mY s n o).T=s.T:=by cases o<;>rfl
theorem yo (s:E5)(n:Nat)(o:Option y7):(mY s n o).L=s.L:=by cases o<;>rfl
theorem FD (s:E5)(n:Nat)(o:Option y7):(mY s n o).n6=s.n6:=by cases o<;>rfl
theorem Cg {i:n8}{n:Nat}(hN:vg i=true){rs:List Nat}(h:y6 E j4 (some n) k i st=some (st',rs)) :
  rs=[]/\∃ f,NF k n i.dst f/\st' =f st/\∀ s2:E5,(∀ x,x ∈ i.op.R8->F5 s2.T s2.L x=F5 st.T st.L x)->y4 s2.L i.guard=y4 st.L i.guard->Alike i st s2->y6 E j4 (some n) k i s2=some (f s2,[]):=by
 unfold vg at hN;have h3:=hN;have af4:i.op.E2=true:=by
  cases hop:i.op<;>rw [hop] at h3<;>simp_all [q9.E2]
 have slot:∀ (o:Option y7) (v:b6),(∀ z n c,v≠ .own z n c)->(∀ s2:E5,(∀ x,x ∈ i.op.R8->F5 s2.T s2.L x=F5 st.T st.L x)->y4 s2.L i.guard=y4 st.L i.guard->y6 E j4 (some n) k i s2=(W5 (put (mY s2 n o) k v) k i.dst).map fun s=>(s,[])) ->
   rs=[]/\∃ f,NF k n i.dst f/\st' =f st/\∀ s2:E5,(∀ x,x ∈ i.op.R8->F5 s2.T s2.L x=F5 st.T st.L x)->y4 s2.L i.guard=y4 st.L i.guard->Alike i st s2->y6 E j4 (some n) k i s2=some (f s2,[]):=by
  intro o v hv hs;rw [hs st (fun _ _=>rfl) rfl] at h;cases ht:W5 (put (mY st n o) k v) k i.dst with
  |none=>rw [ht] at h;cases h
  |some s' =>
   rw [ht] at h;simp only [Option.map_some,Option.some.injEq,Prod.mk.injEq] at h;obtain ⟨rfl,rfl⟩:=h;obtain ⟨u,h4,h5⟩:=FX hv ht;refine ⟨rfl,_,NF.mk o v u,h4,fun s2 hρ hw ha=> ?_⟩;rw [hs s2 hρ hw,h5 (mY s2 n o) (by rw [Dk,Dk];exact ha.T) (by rw [yo,yo];exact ha.L) (fun t ht=>by rw [FD];exact ha.n6 t ht)];rfl
 obtain ⟨wd,hw⟩:∃ wd,y4 st.L i.guard=wd:=⟨_,rfl⟩;cases wd with
 |none=>unfold y6 at h;rw [hw] at h;cases h
 |some b =>
  cases b with
  |false =>
   refine slot none (.tuple []) (by simp) fun s2 hρ Tu=> ?_
   unfold y6;rw [Tu,hw];simp only [q8,mY];cases W5 (put s2 k (.tuple [])) k i.dst<;>rfl
  |true =>
   have key:∀ (o:y7) (v:b6),(∀ z n c,v≠ .own z n c)->(∀ s2:E5,(∀ x,x ∈ i.op.R8->F5 s2.T s2.L x=F5 st.T st.L x)->E6 E j4 (some n) k s2 i.op=some (put (Z0 s2 n o) k v)) ->
     rs=[]/\∃ f,NF k n i.dst f/\st' =f st/\∀ s2:E5,(∀ x,x ∈ i.op.R8->F5 s2.T s2.L x=F5 st.T st.L x)->y4 s2.L i.guard=y4 st.L i.guard->Alike i st s2->y6 E j4 (some n) k i s2=some (f s2,[]):=by
    intro o v hv h5;refine slot (some o) v hv fun s2 hρ Tu=> ?_
    unfold y6;rw [Tu,hw];simp only;have:D6 E j4 (some n) k i.op s2=some (put (Z0 s2 n o) k v,[]):=by
     unfold D6;rw [af4];simp only [if_true,h5 s2 hρ]
    rw [this];simp only [q8,mY];cases W5 (put (Z0 s2 n o) k v) k i.dst<;>rfl
   obtain ⟨op,hop⟩:∃ op,i.op=op:=⟨_,rfl⟩;have he:∃ s1,E6 E j4 (some n) k st i.op=some s1:=by
    unfold y6 at h;rw [hw] at h;simp only at h;split at h
    ·rename_i s1 ZA hW
     unfold D6 at hW;rw [af4] at hW;simp only [if_true] at hW;split at hW
     ·rename_i s3 he;exact ⟨s3,he⟩
     ·cases hW
    ·cases h
   obtain ⟨s1,he⟩:=he;cases op<;>rw [hop] at h3<;>simp at h3<;>(try (cases h3;done))<;>rw [hop] at he<;>simp only [E6] at he
   ·rename_i zero
    refine key (.cells zero) (.ptr n 0) (by simp) (fun s2 _=> ?_);rw [hop];rfl
   ·rename_i x
    split at he
    ·rename_i l hl
     refine key (.cells l) (.ptr n 0) (by simp) (fun s2 hρ=> ?_);rw [hop];simp only [E6];rw [hρ x (by simp [hop,q9.R8]),hl];rfl
    ·cases he
   ·rename_i sz len zero parts ob
    subst h3;simp only at he;split at he
    ·rename_i cs hcs
     split at he
     ·rename_i hl
      refine key (.cells cs) (.D4 n sz 0 len) (by simp) (fun s2 hρ=> ?_);rw [hop];simp only [E6];have e:(parts.map fun x=>(x.1,x.2.1,F5 s2.T s2.L x.2.2))=(parts.map fun x=>(x.1,x.2.1,F5 st.T st.L x.2.2)):=iM (fun x hx=>hρ x (by simp only [hop,q9.R8];exact hx));have vk :bU zero (parts.map fun x=>(x.1,x.2.1,F5 st.T st.L x.2.2))=some cs:=hcs;simp only [e,vk,if_pos hl];rfl
     ·cases he
    ·cases he
   ·refine key (.map []) (.map n) (by simp) (fun s2 _=> ?_)
    rw [hop];rfl
end
def CV (j4:List n8)(j:Nat)(a:n8)(i:Nat)(b:n8):Bool :=
 !(fT j4 b).contains j&& !(fT j4 a).contains i &&
 (match b.dst with|some s=> !(fU a).contains s&&a.dst != some s|none=>true)&&(match a.dst with|some s=> !(fU b).contains s|none=>true) &&
 ((wX a&&(wX b||a.cg.contains i))||(wX b&&b.cg.contains j)||(vg a&&vg b)||(vg a&&Cr b&&a.cg.contains i)||(Cr a&&vg b&&b.cg.contains j))
def Ss (E:Env)(j4:List n8)(X5:Nat->Option Nat)(lg:Nat->ju)(k:Nat)(st st' :E5):Prop :=
 ∃ i,j4[k]? =some i/\iQ E j4 (X5 k) k i st=some (st',lg k)
structure Mt (j4:List n8)(X5:Nat->Option Nat):Prop where
 alloc:∀ (k:Nat) i,j4[k]? =some i->(X5 k).isSome=i.op.z8
 inj:∀ j k n,X5 j=some n->X5 k=some n->j=k
def Jo (j4:List n8)(lg:Nat->ju):Prop :=
 ∀ (k:Nat) i e,j4[k]? =some i->e ∈ i.cg->J6 (lg e).EB (lg k).reads=false/\(i.op.z8=true->(lg e).Dj<=(lg k).id)
section
variable {E:Env} {j4:List n8} {u5:Option Nat} {k q:Nat} {v:b6} {st S4 aB st' :E5}
theorem aK {i:n8}{l:ju}:iQ E j4 u5 k i st=some (st',l)↔(F4 st i.op&&j4.any fun a=>a.cg.contains k&& !calm st i.op a)=false/\∃ rs,y6 E j4 u5 k i st=some (st',rs)/\l=cP E i u5 st st' rs:=by
 grind [iQ]
theorem bZ {i:n8}{l:ju}(h:F4 st i.op=false/\∃ rs,y6 E j4 u5 k i st=some (st',rs)/\l=cP E i u5 st st' rs):iQ E j4 u5 k i st=some (st',l) :=
 aK.2 ⟨by rw [h.1];rfl,h.2⟩
theorem JT {j:Nat}{i b:n8}{q:Nat}(h:(F4 st i.op&&j4.any fun a=>a.cg.contains j&& !calm st i.op a)=false)(hk:F4 st i.op=true)(hb:j4[q]? =some b)(hu:j ∈ b.cg):calm st i.op b=true:=by
 grind
theorem Ef {op:q9}{a:n8}(h:calm st op a=true):∃ sz Oi ob x y s id z lo n j o,op= .append sz Oi ob x y/\a.op= .O3 (.slot s)/\a.dst=none/\a.guard=none/\F5 st.T st.L x= .D4 id z lo n/\st.T[s]? =some (.ptr j o)/\j≠id:=by
 unfold calm at h;split at h
 ·rename_i sz Oi ob x y s ho
  simp [b5,Option.isNone_iff_eq_none] at h;obtain ⟨⟨h1,h2⟩,h3⟩:=h;split at h3
  ·rename_i id z lo n j o h4 h5
   exact ⟨_,_,_,_,_,_,_,_,_,_,_,_,rfl,ho,h1,h2,h4,h5,fun e=>by simp_all⟩
  ·cases h3
 ·cases h
theorem wP {s2:E5}{op:q9}{a:n8}(h:∀ x,x ∈ op.R8->F5 s2.T s2.L x=F5 st.T st.L x)(hT:s2.T=st.T):calm s2 op a=calm st op a:=by
 unfold calm
 grind [q9.R8]
theorem Eg {sz Oi :Nat}{ob:Bool}{x y:q7}{id z lo n j o:Nat}(h:F5 st.T st.L x= .D4 id z lo n)(hj:j≠id):DO st (.append sz Oi ob x y) (.ptr j o):=fun _ _ _ x' _ id' _ _ _ e hx=>by
 simp_all [b6.kill]
theorem qY {a:n8}{s j o:Nat}(h1:a.op= .O3 (.slot s))(h2:a.dst=none)(h3:a.guard=none)(h:st.T[s]? =some (.ptr j o)):y6 E j4 u5 k a st=some (put st k (.ptr j o),[]):=by
 have e:(D7 st (.slot s))=(.ptr j o,st):=by simp [D7,F5,h,b6.G4]
 simp [y6,h3,D6,h1,e,h2];cases u5<;>rfl
theorem DW {i:n8}{sz Oi :Nat}{ob:Bool}{x y:q7}{id z lo n s j o:Nat}{rs:List Nat}(hop:i.op= .append sz Oi ob x y)(hx:F5 st.T st.L x= .D4 id z lo n)(h:y6 E j4 u5 k i st=some (st',rs))(hs:i.dst≠some s)(hT:st.T[s]? =some (.ptr j o))(hj:j≠id):st'.T[s]? =some (.ptr j o):=by
 have slot:∀ s1 s2:E5,q8 u5 s1 k i.dst=some s2->s1.T[s]? =some (.ptr j o)->s2.T[s]? =some (.ptr j o):=by
  intro s1 s2 h h1;cases hd:i.dst with
  |none=>rw [hd] at h;cases u5<;>cases h<;>exact h1
  |some t =>
   cases u5<;>simp only [q8,F3,W5] at h<;>split at h<;>first|grind|grind
 unfold y6 at h;split at h
 ·split at h
  ·rename_i s1 ZA h1
   split at h
   ·rename_i s2 h2
    cases h;refine slot _ _ h2 ?_;simp [D6,hop,q9.E2,if_true,E6,hx] at h1;split at h1
    ·rename_i s3 h3
     cases h1;split at h3
     ·unfold S2 at h3
      split at h3
      ·split at h3
       ·split at h3
        ·cases h3
         have e:∀ (l:List b6) (s:Nat),l[s]? =some (.ptr j o)->(G5 id l)[s]? =some (.ptr j o):=by
          intro l
          induction l with
          |nil=>simp_all
          |cons a l ih =>
           grind [G5,b6.kill]
         exact e _ _ hT
        ·cases h3
       ·cases h3
      ·cases h3
     ·cases h3
    ·cases h1
   ·cases h
  ·cases h
 ·split at h
  ·rename_i s2 h2
   cases h;exact slot _ _ h2 hT
  ·cases h
 ·cases h
theorem eU {s2:E5}{op:q9}(h:∀ x,x ∈ op.R8->F5 s2.T s2.L x=F5 st.T st.L x):F4 s2 op=F4 st op:=by
 cases op<;>simp [F4];simp_all [q9.R8]
theorem gV {s2:E5}{op:q9}(h:∀ x,x ∈ op.R8->F5 s2.T s2.L x=F5 st.T st.L x)(hH:s2.H=st.H):M3 E s2 op=M3 E st op:=by
 cases op<;>simp [M3,q9.R8] at h ⊢
 all_goals simp_all [call,Y7]
theorem Z9 {i:n8}(hu:q ∉ fT j4 i):∀ x,x ∈ i.op.R8->F5 (put st q v).T (put st q v).L x=F5 st.T st.L x :=
 fun _ hx=>rI (R5 hx hu)
theorem NF.F5 {n:Nat}{dst:Option Nat}{f:E5->E5}(hf:NF k n dst f){x:q7}(h:k ∉ x.dY)(ht:∀ t,dst=some t->t ∉ x.slots)(s:E5):F5 (f s).T (f s).L x=F5 s.T s.L x:=by
 cases hf with
 |mk o v u =>
  simp_all [yf,rI,Dk,yo]
theorem NF.wanted {n:Nat}{dst:Option Nat}{f:E5->E5}(hf:NF k n dst f){g:Option (Nat×Bool)}(h:∀ j b,g=some (j,b)->j≠k)(s:E5):y4 (f s).L g=y4 s.L g:=by
 cases hf with
 |mk o v u =>
  simp_all [IN,wanted_put,yo]
theorem NF.n6 {n:Nat}{dst:Option Nat}{f:E5->E5}(hf:NF k n dst f)(s:E5):(f s).n6=s.n6:=by
 cases hf with
 |mk o v u =>
  rw [QK];exact FD _ _ _
theorem NF.U9 {n:Nat}{dst:Option Nat}{f:E5->E5}(hf:NF k n dst f)(s:E5):(f s).T.length=s.T.length:=by
 cases hf with
 |mk o v u =>
  rw [Be];show (mY s n o).T.length=_
  rw [Dk]
theorem NF.gN {n:Nat}{dst:Option Nat}{f:E5->E5}(hf:NF k n dst f)(s:E5):(f s).L.length=s.L.length:=by
 cases hf with
 |mk o v u =>
  simp_all [IN,put,yo]
theorem NF.comm {n m j i:Nat}{d e:Option Nat}{f g:E5->E5}(hf:NF j n d f)(hg:NF i m e g)(hji:j≠i)(hnm:n≠m)(hde:∀ s,e=some s->d≠some s)(s:E5):f (g s)=g (f s):=by
 cases hf with
 |mk o v u =>
  cases hg with
  |mk o' v' u' =>
   have tw:∀ (l:List y7) (a b:y7),(l.set m b).set n a=(l.set n a).set m b:=fun l a b=>List.set_comm _ _ (fun e=>hnm e.symm)
   have hL:∀ (l:List b6) (a b:b6),(l.set i b).set j a=(l.set j a).set i b:=fun l a b=>List.set_comm _ _ (fun e=>hji e.symm)
   cases o<;>cases o' <;>cases d<;>cases e<;>simp [bB,mY,Z0,put,hL]
   all_goals grind [set,List.set_comm]
theorem IM {i:n8}{m:Nat}{o:y7}(hs:M3 E st i.op<=m):M3 E (Z0 st m o) i.op=M3 E st i.op:=by
 have e:∀ x,F5 (Z0 st m o).T (Z0 st m o).L x=F5 st.T st.L x:=fun _=>rfl
 have e1:(Z0 st m o).H=st.H.set m o:=rfl;have e2:∀ xs,List.map (F5 (Z0 st m o).T (Z0 st m o).L) xs=List.map (F5 st.T st.L) xs:=fun _=>rfl
 cases hop:i.op<;>rw [hop] at hs<;>simp [M3] at hs ⊢
 case call f xs =>
  simp [e2]
  by_cases hp:E.prom f=true
  all_goals simp_all [if_pos,if_neg,gI]
 case aO x xs =>
  simp [e x,e2];split at hs
  ·rename_i f first caps hx
   by_cases hp:E.prom f=true
   all_goals simp_all [if_true,if_neg,gI]
  ·rfl
theorem NF.Dj {n j:Nat}{dst:Option Nat}{f:E5->E5}(hf:NF j n dst f){i:n8}(hu:j ∉ fT j4 i)(ht:∀ t,dst=some t->t ∉ fU i) :
  ∃ o:Option y7,M3 E (f st) i.op=M3 E (mY st n o) i.op:=by
 cases hf with
 |mk o v u =>
  refine ⟨o,?_⟩;refine gV (fun x hx=> ?_) ?_
  ·grind [yf,rI,R5,fU]
  ·simp [YQ]
   rfl
theorem ZH {i:n8}{n j:Nat}{dst:Option Nat}{f:E5->E5}(hf:NF j n dst f)(hC:Cr i=true)(hjk:j≠k)(hu:j ∉ fT j4 i)(ht:∀ t,dst=some t->t ∉ fU i)(hd:∀ s,i.dst=some s->dst≠some s)(hn:n<st.H.length)(hs:M3 E st i.op<=n) :
  y6 E j4 u5 k i (f st)=(y6 E j4 u5 k i st).map (fun p=>(f p.1,p.2))/\M3 E (f st) i.op=M3 E st i.op:=by
 refine ⟨?_,?_⟩
 ·cases hf with
  |mk o v u =>
   have h1:=IZ (E:=E) (j4:=j4) (u5:=u5) (k:=k) (st:=put (mY st n o) j v) (u:=u) hC ht hd;have h2:=jV (E:=E) (u5:=u5) (v:=v) (st:=mY st n o) hjk hu (.of (gv hC _));have h3:y6 E j4 u5 k i (mY st n o)=(y6 E j4 u5 k i st).map (fun p=>(mY p.1 n o,p.2)):=by
    cases o with
    |none=>simp_all [mY,y6]
    |some o=>exact IY hC hn hs
   rw [h1,h2,h3];cases y6 E j4 u5 k i st<;>rfl
 ·obtain ⟨o,ho⟩:=hf.Dj (E:=E) (st:=st) hu ht
  rw [ho];cases o with
  |none=>rfl
  |some o=>exact IM hs
theorem Mp {i:n8}{n j:Nat}{dst:Option Nat}{f:E5->E5}(hf:NF j n dst f)(hu:j ∉ fT j4 i)(ht:∀ t,dst=some t->t ∉ fU i)(hs:M3 E (f st) i.op<=n):M3 E st i.op=M3 E (f st) i.op:=by
 obtain ⟨o,ho⟩:=hf.Dj (E:=E) (st:=st) hu ht;rw [ho] at hs ⊢;cases o with
 |none=>rfl
 |some o=>exact Nt hs
theorem jI {i:n8}{s s2 s' s2' :E5}{rs:List Nat}(h1:s2.n6=s.n6)(h2:s2'.n6=s'.n6)(h3:M3 E s2 i.op=M3 E s i.op):cP E i u5 s2 s2' rs=cP E i u5 s s' rs:=by
 simp_all [cP]
theorem cQ {i:n8}{s s2 s' s2' :E5}{rs:List Nat}(h1:s2'.n6.take (s2'.n6.length - s2.n6.length)=s'.n6.take (s'.n6.length - s.n6.length))(h3:M3 E s2 i.op=M3 E s i.op):cP E i u5 s2 s2' rs=cP E i u5 s s' rs:=by
 simp_all [cP]
theorem Still.Df {i b:n8}{d:List Touch}{vq:Option Nat}{kb:Nat}(h:Still kb b.dst vq d st st')(hl:kb ∉ fT j4 i)(ht:∀ s,b.dst=some s->s ∉ fU i):∀ x,x ∈ i.op.R8->y3.F5 st'.T st'.L x=y3.F5 st.T st.L x:=by
 intro x hx;refine h.F5 (R5 hx hl) fun s hs e=>ht s e ?_
 simp_all [fU,List.mem_flatMap]
theorem Still.ou {i b:n8}{d:List Touch}{vq:Option Nat}{kb:Nat}(h:Still kb b.dst vq d st st')(hl:kb ∉ fT j4 i):y4 st'.L i.guard=y4 st.L i.guard :=
 h.wanted fun _ _ hg=>cr hg hl
def gE (j4:List n8)(st:E5):Prop:=∀ (k:Nat) i s,j4[k]? =some i->i.op.z8=true->i.dst=some s->st.n6.any (Touch.R9 s)=true
theorem Still.marked {kb:Nat}{dst vq:Option Nat}{d:List Touch}(h:Still kb dst vq d st st')(hm:gE j4 st):gE j4 st' :=by
 intro k i s hi ha hd;rw [h.n6,List.any_append,hm k i s hi ha hd];simp
theorem tQ {i:n8}{rs:List Nat}(hn:u5.isSome=i.op.z8)(h:y6 E j4 u5 k i st=some (st',rs)):st.H.length<=st'.H.length/\∃ d,st'.n6=d++st.n6:=by
 cases hk:F4 st i.op with
 |false =>
  obtain ⟨d,hd⟩:=Still.y6 hk hn h;exact ⟨hd.Iq,d,hd.n6⟩
 |true =>
  have slot:∀ {s s2:E5} {dst:Option Nat},q8 u5 s k dst=some s2->s.H.length=s2.H.length/\∃ d,s2.n6=d++s.n6:=by
   intro s s2 dst h;have hx:(D7 s (.loc k)).2.H=s.H/\(D7 s (.loc k)).2.n6=s.n6:=by
    grind [D7]
   cases dst with
   |none=>cases u5<;>simp [q8,F3,W5,Option.some.injEq] at h<;>subst h<;>exact ⟨rfl,[],rfl⟩
   |some t =>
    cases u5<;>simp only [q8,F3,W5] at h
    ·split at h
     ·cases h;exact ⟨by simp_all,[_],rfl⟩
     ·cases h
    ·split at h
     ·cases h;simp_all
     ·cases h
  have bv9:∀ {v:b6} {s2:E5},q8 u5 (put st k v) k i.dst=some s2->st.H.length<=s2.H.length/\∃ d,s2.n6=d++st.n6:=by
   intro v s2 h;obtain ⟨h1,d,h2⟩:=slot h;exact ⟨Nat.le_of_eq h1,d,h2⟩
  simp [y6] at h;split at h
  ·split at h
   ·rename_i s1 ZA h1
    split at h
    ·have hw:st.H.length=s1.H.length/\∃ d,s1.n6=d++st.n6:=by
      cases hop:i.op<;>rw [hop] at hk h1<;>simp [F4,b7] at hk;simp [D6,q9.E2,if_true] at h1;split at h1
      ·rename_i s3 h3
       cases h1;simp [E6] at h3;split at hk
       ·rename_i id z lo len hr
        rw [hr] at h3;simp only at h3;split at h3
        ·simp only [S2] at h3
         split at h3
         ·split at h3
          ·split at h3
           ·cases h3
            refine ⟨by grind [put],[_],rfl⟩
           ·cases h3
          ·cases h3
         ·cases h3
        ·cases h3
       ·cases hk
      ·cases h1
     grind
    ·cases h
   ·cases h
  all_goals grind
theorem gE.ext (hm:gE j4 st)(h:∃ d,st'.n6=d++st.n6):gE j4 st' :=by
 obtain ⟨d,h⟩:=h;intro k i s hi ha hd;rw [h,List.any_append,hm k i s hi ha hd];simp
theorem swap {X5:Nat->Option Nat}{lg:Nat->ju}(hn:Mt j4 X5)(Tp:Jo j4 lg){j i:Nat}{a b:n8}(hp:CV j4 j a i b=true)(ha:j4[j]? =some a)(hb:j4[i]? =some b)(hji:j≠i)
  (hin:∀ k n,X5 k=some n->n<st.H.length) (vM:gE j4 st) (h1:Ss E j4 X5 lg j st S4) (h2:Ss E j4 X5 lg i S4 aB):∃ aq3,Ss E j4 X5 lg i st aq3 /\Ss E j4 X5 lg j aq3 aB:=by
 obtain ⟨a',Zl,h1⟩:=h1;rw [ha] at Zl;cases Zl;obtain ⟨b',hb',h2⟩:=h2;rw [hb] at hb';cases hb';obtain ⟨ka0,ZB,sa,la⟩:=aK.1 h1;obtain ⟨kb0,rsb,sb,lb⟩:=aK.1 h2;simp only [CV,b5,j5,List.contains_eq_mem,decide_eq_false_iff_not] at hp;obtain ⟨⟨⟨⟨u1,u2⟩,t1⟩,t2⟩,qO⟩:=hp;have t1' :∀ s,b.dst=some s->s ∉ fU a:=by
  grind
 have t3:∀ s,b.dst=some s->a.dst≠some s:=by
  grind
 have t4:∀ s,a.dst=some s->b.dst≠some s:=fun s hs h=>t3 s h hs
 have ZE :∀ s,a.dst=some s->s ∉ fU b:=by
  grind
 have PC:=hn.alloc j a ha;have vq:=hn.alloc i b hb;simp only [Bool.or_eq_true,b5,decide_eq_true_eq] at qO;cases kb:F4 S4 b.op with
 |true =>
  have hu:wX a=true/\i ∈ a.cg:=by
   grind [gy,gw,gv]
  obtain ⟨sz,Oi,ob,x,y,s,id,z,lo,n,jd,o,hop,OT,hd,hg,hx,hT,hne⟩:=Ef (JT kb0 kb ha hu.2);obtain ⟨v,e0,_⟩:=Ch hu.1 sa;have hT0:st.T[s]? =some (.ptr jd o):=by rw [e0] at hT;exact hT
  rw [qY OT hd hg hT0] at sa;obtain ⟨rfl,rfl⟩:put st j (.ptr jd o)=S4/\[]=ZB:=by simpa using sa
  have hx0:F5 st.T st.L x= .D4 id z lo n:=by grind [Z9,q9.R8]
  rw [jV hji u1 (by grind [Eg])] at sb;cases NU:y6 E j4 (X5 i) i b st with
  |none=>simp_all
  |some p =>
   obtain ⟨s',rs'⟩:=p;rw [NU] at sb;simp only [Option.map_some,Option.some.injEq,Prod.mk.injEq] at sb;obtain ⟨rfl,rfl⟩:=sb;have hTs:=DW hop hx0 NU (fun e=>t1' s e (by simp [fU,OT,q9.R8,q7.slots])) hT0 hne;refine ⟨s',⟨b,hb,aK.2 ⟨?_,rs',NU,?_⟩⟩,a,ha,aK.2 ⟨by grind [gy],[],qY OT hd hg hTs,?_⟩⟩
   ·grind [eU,Z9,wP,put]
   ·rw [lb];exact jI rfl rfl (gV (Z9 u1) rfl)
   ·rw [la];exact (cQ (by simp [put]) (by grind [nV])).symm
 |false =>
 cases ka:F4 st a.op with
 |true =>
  have hu:wX b=true/\j ∈ b.cg:=by
   grind [gy,gw,gv]
  obtain ⟨sz,Oi,ob,x,y,s,id,z,lo,n,jd,o,hop,OT,hd,hg,hx,hT,hne⟩:=Ef (JT ka0 ka hb hu.2);have hT1:=DW hop hx sa (fun e=>ZE s e (by simp [fU,OT,q9.R8,q7.slots])) hT hne;rw [qY OT hd hg hT1] at sb;obtain ⟨rfl,rfl⟩:put S4 i (.ptr jd o)=aB/\[]=rsb:=by simpa using sb
  refine ⟨put st i (.ptr jd o),⟨b,hb,aK.2 ⟨by grind [gy],[],qY OT hd hg hT,?_⟩⟩,a,ha,aK.2 ⟨?_,ZB,?_,?_⟩⟩
  ·rw [lb];exact cQ (by simp [put]) (by grind [nV])
  all_goals grind [eU,Z9,wP,put,jV,Eg,jI,gV]
 |false =>
 obtain ⟨da,YU⟩:=Still.y6 ka PC sa
 rcases qO with (((qO|qO)|qO)|qO)|qO
 ·
  obtain ⟨hPa,qO⟩:=qO;obtain ⟨v,rfl,Ta⟩:=Ch hPa sa;have kb' :F4 st b.op=false:=by grind [eU,Z9]
  have hs:=jV (E:=E) (u5:=X5 i) (v:=v) hji u1 (.of kb');rw [hs] at sb;cases NU:y6 E j4 (X5 i) i b st with
  |none=>simp_all
  |some p =>
   obtain ⟨s',rs'⟩:=p;rw [NU] at sb;simp only [Option.map_some,Option.some.injEq,Prod.mk.injEq] at sb;obtain ⟨rfl,rfl⟩:=sb;have lb' :lg i=cP E b (X5 i) st s' rs' :=by rw [lb];exact jI rfl rfl (gV (Z9 u1) rfl)
   obtain ⟨db,Ut⟩:=Still.y6 kb' vq NU;refine ⟨s',⟨b,hb,bZ ⟨kb',rs',NU,lb'⟩⟩,a,ha,bZ ⟨gy hPa _,ZB,?_,?_⟩⟩
   ·refine Ta s' (Ut.Df u2 t1') (Ut.ou u2) fun id hid=> ?_
    rcases qO with hPb|hun
    ·obtain ⟨u,rfl,_⟩:=Ch hPb NU
     exact R0.refl _
    ·have:=(Tp j a i ha hun).1
     rw [lb',la] at this;exact Ut.reads (E:=E) (i:=b) (rs:=rs') this hid
   ·rw [la]
    refine (cQ ?_ ?_).symm
    all_goals simp_all [put,nV]
 ·
  obtain ⟨hPb,hun⟩:=qO;obtain ⟨v,rfl,Tb⟩:=Ch hPb sb;have sb0:y6 E j4 (X5 i) i b st=some (put st i v,rsb):=by
   refine Tb st (fun x hx=>(YU.Df u1 ZE x hx).symm) (YU.ou u1).symm fun id hid=> ?_
   have:=(Tp i b j hb hun).1;rw [la,lb] at this;exact (YU.reads (E:=E) (i:=a) (rs:=ZB) this hid).symm
  refine ⟨put st i v,⟨b,hb,bZ ⟨gy hPb _,rsb,sb0,?_⟩⟩,a,ha,bZ ⟨by grind [eU,Z9],ZB,?_,?_⟩⟩
  ·rw [lb]
   refine (cQ ?_ ?_)
   all_goals simp_all [put,nV]
  ·rw [jV (fun e=>hji e.symm) u2 (.of ka),sa]
   rfl
  ·rw [la]
   exact (jI (s:=st) (s2:=put st i v) (s' :=S4) (s2' :=put S4 i v) rfl rfl (gV (Z9 u2) rfl)).symm
 ·
  obtain ⟨UW,UX⟩:=qO;rw [ey UW] at PC;rw [ey UX] at vq;obtain ⟨n,WR⟩:=Option.isSome_iff_exists.1 PC;obtain ⟨m,NT⟩:=Option.isSome_iff_exists.1 vq;rw [WR] at sa;rw [NT] at sb;obtain ⟨rfl,f,hf,rfl,Ta⟩:=Cg UW sa;obtain ⟨rfl,g,hg,rfl,Tb⟩:=Cg UX sb;have hnm:n≠m:=by
   rintro rfl;exact hji (hn.inj j i n WR NT)
  have ut:∀ {c:n8} {x:q7} {t:Nat},x ∈ c.op.R8->t ∉ fU c->t ∉ x.slots:=by
   simp_all [fU,List.mem_flatMap]
  have sb0:y6 E j4 (some m) i b st=some (g st,[]) :=
   Tb st (fun x hx=>(hf.F5 (R5 hx u1) (fun t ht=>ut hx (ZE t ht)) st).symm) (hf.wanted (fun _ _ h=>cr h u1) st).symm ⟨(hf.U9 st).symm,(hf.gN st).symm,fun s hs=>vM i b s hb (ey UX) hs⟩
  have sa0:y6 E j4 (some n) j a (g st)=some (f (g st),[]) :=
   Ta (g st) (fun x hx=>hg.F5 (R5 hx u2) (fun t ht=>ut hx (t1' t ht)) st) (hg.wanted (fun _ _ h=>cr h u2) st) ⟨hg.U9 st,hg.gN st,fun s hs=>by rw [hg.n6];exact vM j a s ha (ey UW) hs⟩
  refine ⟨g st,⟨b,hb,bZ ⟨gw UX _,[],by simp_all,?_⟩⟩,a,ha,bZ ⟨gw UW _,[],by rw [WR,sa0,hf.comm hg hji hnm t3],?_⟩⟩
  ·rw [lb]
   refine cQ ?_ ?_
   ·simp [hf.n6,hg.n6]
   simp_all [nU]
  ·rw [la]
   refine (cQ ?_ ?_)
   ·simp [hf.n6,hg.n6]
   simp_all [nU]
 ·
  obtain ⟨⟨UW,hCb⟩,hun⟩:=qO;have DK:=ey UW;rw [DK] at PC;obtain ⟨n,WR⟩:=Option.isSome_iff_exists.1 PC;rw [WR] at sa;obtain ⟨rfl,f,hf,rfl,Ta⟩:=Cg UW sa;have WV:M3 E (f st) b.op<=n:=by
   have:=(Tp j a i ha hun).2 DK;simp_all [cP]
  have aZ8:=Mp hf u1 ZE WV;obtain ⟨hs1,xA⟩:=ZH (E:=E) (j4:=j4) (u5:=X5 i) hf hCb hji u1 ZE t3 (hin j n WR) (by omega);rw [hs1] at sb;cases NU:y6 E j4 (X5 i) i b st with
  |none=>simp_all
  |some p =>
   obtain ⟨s',rs'⟩:=p;rw [NU] at sb;simp only [Option.map_some,Option.some.injEq,Prod.mk.injEq] at sb;obtain ⟨rfl,rfl⟩:=sb;obtain ⟨db,Ut⟩:=Still.y6 (gv hCb st) vq NU;refine ⟨s',⟨b,hb,bZ ⟨gv hCb _,rs',NU,?_⟩⟩,a,ha,bZ ⟨gw UW _,[],?_,?_⟩⟩
   ·rw [lb]
    exact jI (hf.n6 _) (hf.n6 _) xA
   ·rw [WR]
    exact Ta s' (Ut.Df u2 t1') (Ut.ou u2) ⟨Ut.U9,Ut.gN,fun s hs=>Ut.marked vM j a s ha DK hs⟩
   ·rw [la]
    refine cQ ?_ ?_
    ·simp [hf.n6]
    grind [nU]
 ·
  obtain ⟨⟨hCa,UX⟩,hun⟩:=qO;have DK:=ey UX;rw [DK] at vq;obtain ⟨m,NT⟩:=Option.isSome_iff_exists.1 vq;rw [NT] at sb;obtain ⟨rfl,g,hg,rfl,Tb⟩:=Cg UX sb;have WV:M3 E st a.op<=m:=by
   have:=(Tp i b j hb hun).2 DK;simp_all [cP]
  obtain ⟨hs1,xA⟩:=ZH (E:=E) (j4:=j4) (u5:=X5 j) hg hCa (fun e=>hji e.symm) u2 t1' t4 (hin i m NT) WV;have sb0:y6 E j4 (some m) i b st=some (g st,[]) :=
   Tb st (fun x hx=>(YU.Df u1 ZE x hx).symm) (YU.ou u1).symm ⟨YU.U9.symm,YU.gN.symm,fun s hs=>vM i b s hb DK hs⟩
  refine ⟨g st,⟨b,hb,bZ ⟨gw UX _,[],by rw [NT];exact sb0,?_⟩⟩,a,ha,bZ ⟨gv hCa _,ZB,?_,?_⟩⟩
  ·rw [lb]
   refine cQ ?_ ?_
   ·simp [hg.n6]
   simp_all [nU]
  ·rw [hs1,sa];rfl
  ·rw [la]
   exact (jI (hg.n6 _) (hg.n6 _) xA).symm
end
inductive qt (E:Env) (j4:List n8) (X5:Nat->Option Nat) (lg:Nat->ju):List Nat->E5->E5->Prop where
 |nil (st:E5):qt E j4 X5 lg [] st st
 |cons {k:Nat} {ks:List Nat} {st S4 aB:E5}:Ss E j4 X5 lg k st S4->qt E j4 X5 lg ks S4 aB->qt E j4 X5 lg (k::ks) st aB
section
variable {E:Env} {j4:List n8} {X5:Nat->Option Nat} {lg:Nat->ju} {st S4 aB fin:E5}
theorem Ss.len (hn:Mt j4 X5){k:Nat}(h:Ss E j4 X5 lg k st S4):st.H.length<=S4.H.length:=by
 obtain ⟨i,hi,h⟩:=h;obtain ⟨hk,rs,hs,_⟩:=aK.1 h;exact (tQ (hn.alloc k i hi) hs).1
theorem Ss.marked (hn:Mt j4 X5){k:Nat}(h:Ss E j4 X5 lg k st S4)(hm:gE j4 st):gE j4 S4:=by
 obtain ⟨i,hi,h⟩:=h;obtain ⟨hk,rs,hs,_⟩:=aK.1 h;exact hm.ext (tQ (hn.alloc k i hi) hs).2
theorem qt.front (hn:Mt j4 X5)(Tp:Jo j4 lg){i:Nat}{b:n8}(hb:j4[i]? =some b){rest:List Nat} :
  ∀ (js:List Nat) (st:E5),(∀ j,j ∈ js->j≠i/\∃ a,j4[j]? =some a/\CV j4 j a i b=true)->(∀ k n,X5 k=some n->n<st.H.length)->gE j4 st->qt E j4 X5 lg (js++i::rest) st fin ->
   ∃ st',Ss E j4 X5 lg i st st' /\qt E j4 X5 lg (js++rest) st' fin
 |[],st,_,_,_,h=>by
  cases h with
  |cons h1 h2=>grind
 |j::js,st,hj,hin,vM,h=>by
  cases h with
  |cons h1 h2 =>
   obtain ⟨s2,g1,g2⟩:=qt.front hn Tp hb js _ (fun j' hj' =>hj j' (by simp [hj'])) (fun k n hk=>Nat.lt_of_lt_of_le (hin k n hk) (h1.len hn)) (h1.marked hn vM) h2;obtain ⟨hne,a,ha,hp⟩:=hj j (by simp);obtain ⟨s1,e1,e2⟩:=swap hn Tp hp ha hb hne hin vM h1 g1;exact ⟨s1,e1,qt.cons e2 g2⟩
end
def direct (o:Oper):List Nat:=(o.after.toList.filter (Region.binds .any)).map (·.on)
def HJ:List Oper->List (List Nat)->List (List Nat)
 |[],acc=>acc
 |o::os,acc=>HJ os (acc++[((direct o).flatMap fun e=>e::acc.getD e []).eraseDups])
def Fa (iT:List (List Nat))(k:Nat)(o:Oper):Bool :=
 (iT.getD k []).all fun j=>(direct o).contains j||(direct o).any fun e=>(iT.getD e []).contains j
def wT (j4:List n8)(iT:List (List Nat))(i:Nat)(b:n8):Bool :=
 (List.range i).all fun j=>(iT.getD i []).contains j||(match j4[j]? with
  |some a=>CV j4 j a i b
  |none=>false)
def lY (X:Cx)(j4:List n8)(iT:List (List Nat)):List n8->Nat->Bool
 |[],k=>X.ops.size==k
 |i::is,k=>(match X.ops[k]? with
  |some o=>Fa iT k o&&(direct o).all (fun e=>decide (e<k))&&pE X (fun j=>(iT.getD k []).contains j) o i&&wT j4 iT k i
  |none=>false)&&lY X j4 iT is (k+1)
theorem wR {X:Cx}{j4:List n8}{iT:List (List Nat)}:∀ (is:List n8) (k:Nat),j4.drop k=is->lY X j4 iT is k=true->∀ (m:Nat) b,k<=m->j4[m]? =some b ->
  ∃ o,X.ops[m]? =some o/\Fa iT m o=true/\(∀ e,e ∈ direct o->e<m)/\pE X (fun j=>(iT.getD m []).contains j) o b=true/\wT j4 iT m b=true
 |[],k,hd,_,m,b,hkm,hb=>by
  simp_all [List.length]<;>grind
 |i::is,k,hd,h,m,b,hkm,hb=>by
  simp only [lY,b5] at h
  by_cases e:m=k
  ·subst e
   have hi:j4[m]? =some i:=by
    have:(j4.drop m)[0]? =some i:=by rw [hd];rfl
    grind
   grind
  ·have hd' :j4.drop (k+1)=is:=by
    have:=congrArg (List.drop 1) hd
    grind [List.drop_drop]
   exact wR is (k+1) hd' h.2 m b (by omega) hb
theorem lZ {X:Cx}{j4:List n8}{iT:List (List Nat)}:∀ (is:List n8) (k:Nat),lY X j4 iT is k=true->X.ops.size=k+is.length
 |[],k,h=>by grind [lY]
 |i::is,k,h=>by
  simp [lY,b5] at h;have:=lZ is (k+1) h.2
  grind
def NZ (X:Cx)(S:Nat->Prop):Prop:=∀ (k:Nat) o,S k->X.ops[k]? =some o->∀ e,e ∈ direct o->S e
theorem HK {X:Cx}{iT:List (List Nat)}{S:Nat->Prop}(hc:NZ X S)(hok:∀ (k:Nat) o,X.ops[k]? =some o->Fa iT k o=true/\∀ e,e ∈ direct o->e<k)(hout:∀ k,X.ops.size<=k->iT.getD k []=[]) :
  ∀ (n k:Nat),k<=n->∀ o,X.ops[k]? =some o->(∀ e,e ∈ direct o->S e)->∀ j,j ∈ iT.getD k []->S j:=by
 intro n
 induction n with
 |zero =>
  grind [Fa]
 |succ n ih =>
  intro k hk o ho hd j hj;obtain ⟨h1,h2⟩:=hok k o ho;have:=List.all_eq_true.1 h1 j hj;simp [Bool.or_eq_true,List.contains_eq_mem,decide_eq_true_eq,List.any_eq_true] at this
  rcases this with h|⟨e,he,hej⟩
  ·exact hd j h
  ·have hlt:=h2 e he
   cases hoe:X.ops[e]? with
   |none =>
    simp_all
   |some oe=>exact ih e (by omega) oe hoe (hc e oe (hd e he) hoe) j hej
def bY (n:Nat)(listed:Array Bool):List Nat:=(List.range n).filter fun j=> !listed.getD j false
theorem Fu {n i:Nat}{listed:Array Bool}(hi:i<n)(hu:listed.getD i false=false)(hs:listed.size=n) :
  ∃ js rest,bY n listed=js++i::rest/\bY n (listed.setIfInBounds i true)=js++rest/\∀ j,j ∈ js->j<i/\listed.getD j false=false:=by
 refine ⟨(List.range i).filter fun j=> !listed.getD j false,(List.range' (i+1) (n - i - 1)).filter fun j=> !listed.getD j false,?_,?_,?_⟩
 ·unfold bY
  have:List.range n=List.range i++i::List.range' (i+1) (n - i - 1):=by
   have h:=List.range'_append_1 (s:=0) (m:=i) (n:=n - i - 1+1)
   grind [List.range_eq_range',List.range'_succ]
  simp_all
 ·unfold bY
  have:List.range n=List.range i++i::List.range' (i+1) (n - i - 1):=by
   have h:=List.range'_append_1 (s:=0) (m:=i) (n:=n - i - 1+1)
   grind [List.range_eq_range',List.range'_succ]
  rw [this,List.filter_append,List.filter_cons];have e1:(!(listed.setIfInBounds i true).getD i false)=false:=by simp [hs,hi]
  rw [e1]
  congr 1
  ·refine List.filter_congr fun j hj=> ?_
   simp_all<;>grind
  ·refine List.filter_congr fun j hj=> ?_
   simp_all<;>grind
 simp_all
section
variable {X:Cx} {j4:List n8} {E:Env} {nt:Nat} {X5:Nat->Option Nat} {lg:Nat->ju} {fin:E5} {iT:List (List Nat)}
theorem Mv (hst:Stat X nt)(JJ:lV X.P E.cf E.prom)(iG:∀ f args H lm r,E.cf f args H lm=some r->U2 X.P f=true)(hs:E.lim.strict<=E.lim.base)(WJ:E.lim.base<=E.entry)(Q:Exit->Act->World->Prop)
  (MN:lY X j4 iT j4 0=true) (hout:∀ k,X.ops.size<=k->iT.getD k []=[]) (hn:Mt j4 X5) (hne:∀ k n,X5 k=some n->E.entry<=n) (Tp:Jo j4 lg) :
  ∀ (fuel:Nat) (listed:Array Bool) (st:E5) (a:Act) (w:World) (G:Gh) (I:T0) (N:Nat->Prop),Rg X j4 E nt (fun j=>listed.getD j false=true) st a w G I N->listed.size=j4.length->NZ X (fun j=>listed.getD j false=true) ->
   (∀ k n,X5 k=some n->n<st.H.length)->gE j4 st->(∀ k n,X5 k=some n->listed.getD k false=false->¬ N n)->qt E j4 X5 lg (bY j4.length listed) st fin->(bY j4.length listed).length<=fuel ->
   (∀ a' w' G' I' N',Fin X j4 E nt st w G I N fin a' w' G' I' N' ->Q .normal a' w')->wpAny X.P .any X.ops Q fuel listed a w:=by
 have hsize:X.ops.size=j4.length:=by grind [lZ]
 have Ey:=fun (m:Nat) b hb=>wR j4 0 (by simp) MN m b (Nat.zero_le _) hb
 have OW:∀ (k:Nat) o,X.ops[k]? =some o->Fa iT k o=true/\∀ e,e ∈ direct o->e<k:=by
  intro k o ho;have hk:k<j4.length:=by
   grind
  obtain ⟨o',h1,h2,h3,_⟩:=Ey k j4[k] (s9 hk);simp_all
 have xu:∀ (listed:Array Bool),listed.size=j4.length->Region.ready .any X.ops listed=[]->bY j4.length listed=[]:=by
  intro listed hls hr;cases Ii:bY j4.length listed with
  |nil=>rfl
  |cons i rest =>
   exfalso;have hi:i<j4.length/\listed.getD i false=false/\∀ j,j<i->listed.getD j false=true:=by
    have hm:i ∈ bY j4.length listed:=by simp_all
    unfold bY at hm;simp only [List.mem_filter,List.mem_range,j5] at hm;refine ⟨hm.1,hm.2,fun j hj=> ?_⟩;cases hlj:listed.getD j false with
    |true=>rfl
    |false =>
     have hjm:j ∈ bY j4.length listed:=by
      grind [bY,j5]
     have au7:(bY j4.length listed).Pairwise (·<·):=List.Pairwise.filter _ List.pairwise_lt_range
     grind [List.pairwise_cons]
   obtain ⟨o,ho,_,hlt,_⟩:=Ey i j4[i] (s9 hi.1);have:i ∈ Region.ready .any X.ops listed:=by
    grind [mem_ready,direct]
   simp_all
 have hend:∀ (listed:Array Bool) (st:E5) (a:Act) (w:World) (G:Gh) (I:T0) (N:Nat->Prop),Rg X j4 E nt (fun j=>listed.getD j false=true) st a w G I N->listed.size=j4.length->qt E j4 X5 lg (bY j4.length listed) st fin->bY j4.length listed=[] ->
   Fin X j4 E nt st w G I N fin a w G I N:=by
  intro listed st a w G I N hR hls hrun Ii;rw [Ii] at hrun;cases hrun;refine ⟨hR.congr fun j=> ?_,W6.refl _ _ _ _ _ _⟩;constructor
  ·grind
  simp_all [bY,List.mem_filter,List.mem_range,j5]
 intro fuel
 induction fuel with
 |zero =>
  intro listed st a w G I N hR hls hcl hin vM hfr hrun hfl hQ;have Ii:bY j4.length listed=[]:=List.length_eq_zero_iff.1 (by omega);refine ⟨?_,hQ _ _ _ _ _ (hend listed st a w G I N hR hls hrun Ii)⟩;cases hr:Region.ready .any X.ops listed with
  |nil=>rfl
  |cons i rest =>
   exfalso;have:i ∈ Region.ready .any X.ops listed:=by rw [hr];simp
   obtain ⟨h0,o,ho,_⟩:=mem_ready.1 this;have hi:i<j4.length:=by grind
   have Ac:i<listed.size:=by omega
   have:i ∈ bY j4.length listed:=by
    grind [bY,j5]
   grind
 |succ fuel ih =>
  intro listed st a w G I N hR hls hcl hin vM hfr hrun hfl hQ;refine ⟨fun hr=>hQ _ _ _ _ _ (hend listed st a w G I N hR hls hrun (xu listed hls hr)),fun i hi=> ?_⟩;obtain ⟨h0,o,ho,hall⟩:=mem_ready.1 hi;have hia:i<j4.length:=by grind
  have Ac:i<listed.size:=by omega
  have hun:listed.getD i false=false:=by
   grind
  obtain ⟨b,hb⟩:∃ b,j4[i]? =some b:=⟨_,s9 hia⟩;obtain ⟨o',ho',hoa,hlt,hci,fR⟩:=Ey i b hb;rw [ho] at ho';cases ho';have aH0:∀ e,e ∈ direct o->listed.getD e false=true:=by
   grind [direct]
  have aG5:=HK hcl OW hout i i (n5 _) o ho aH0;obtain ⟨js,rest,hr1,Zs,hjs⟩:=Fu hia hun hls;rw [hr1] at hrun;obtain ⟨S4,aJ2,aZ7⟩:=qt.front hn Tp hb js st (fun j hj=>by
   obtain ⟨hji,hju⟩:=hjs j hj
   grind [wT]) hin vM hrun
  obtain ⟨b',hb',hD⟩:=aJ2;rw [hb] at hb';cases hb';obtain ⟨hk,rs,hstep,bp8⟩:=aK.1 hD;have hstill:=(tQ (hn.alloc i b hb) hstep).2;refine uD hst JJ iG hs WJ hR (D:=fun j=>(iT.getD i []).contains j) (fun j hj=>aG5 j (by simpa using hj)) (by grind) ho hb hci (u5:=X5 i) (fun DK=> ?_) (fun n hni=>⟨hne i n hni,hin i n hni⟩) hstep _ _ ?_
  ·have:=hn.alloc i b hb
   rw [DK] at this;obtain ⟨n,hni⟩:=Option.isSome_iff_exists.1 this;rw [hni];have h1:=hne i n hni;exact ⟨hfr i n hni hun,(fun m hm=>by grind),by grind [newId],by grind [newId]⟩
  ·intro a' w' G' I' N' hdn
   have tw:∀ j,(listed.setIfInBounds i true).getD j false=true↔(listed.getD j false=true\/j=i):=by
    intro j
    by_cases e:j=i
    ·subst e;simp [Ac]
    ·rw [Go.getD_set_ne false (fun h=>e h.symm)]
     simp [e]
   refine ih (listed.setIfInBounds i true) S4 a' w' G' I' N' (hdn.rg.congr fun j=>(tw j).symm) (by simp [hls]) ?_ (fun k n hk=>Nat.lt_of_lt_of_le (hin k n hk) hdn.len) (vM.ext hstill) ?_ (by grind) ?_ ?_
   ·intro k ok hk hok e he
    rw [tw] at hk ⊢
    rcases hk with hk|rfl
    ·exact Or.inl (hcl k ok hk hok e he)
    grind
   ·intro k n hk hku hN
    have aH8 :listed.getD k false=false/\k≠i:=by
     grind
    rcases hdn.old n (hin k n hk) hN with h|h
    ·grind
    ·exact aH8.2 (hn.inj k i n hk h)
   ·grind
   ·intro a'' w'' ZJ I'' N'' hf
    exact hQ _ _ _ _ _ ⟨hf.rg,hdn.since.trans hf.since⟩
def oL (j4:List n8)(base:Nat)(k:Nat):Option Nat :=
 match j4[k]? with
 |some i=>if i.op.z8 then some (base+((j4.take k).filter (·.op.z8)).length) else none
 |none=>none
theorem TD (j4:List n8)(base:Nat):Mt j4 (oL j4 base):=by
 refine ⟨fun k i hi=> ?_,fun j k n hj hk=> ?_⟩
 ·grind [oL]
 ·have key:∀ a b n,a<b->oL j4 base a=some n->oL j4 base b=some n->False:=by
   intro a b n hab ha hb;unfold oL at ha hb;split at ha
   ·split at ha
    ·split at hb
     ·split at hb
      ·have h1:((j4.take (a+1)).filter (·.op.z8)).length=((j4.take a).filter (·.op.z8)).length+1:=by
        simp_all [List.take_add_one,List.filter_append]
       grind [List.Sublist.length_le,List.Sublist.filter,List.take_sublist_take_left]
      ·cases hb
     ·cases hb
    ·cases ha
   ·cases ha
  grind
theorem uz {base:Nat}:∀ (is:List n8) (k:Nat) (na:Nat) (st aB:E5) (Ir:List ju) (lgf:Nat->ju),j4.drop k=is->na=base+((j4.take k).filter (·.op.z8)).length->Q8 E j4 is k na st=some (aB,Ir) ->
  (∀ m,m<is.length->lgf (k+m)=Ir.getD m ⟨[],[],0,0⟩)->Ir.length=is.length/\qt E j4 (oL j4 base) lgf (List.range' k is.length) st aB
 |[],k,na,st,aB,Ir,lgf,hd,hna,h,hl=>by
  cases h;exact ⟨rfl,qt.nil _⟩
 |i::is,k,na,st,aB,Ir,lgf,hd,hna,h,hl=>by
  have hi:j4[k]? =some i:=by
   have:(j4.drop k)[0]? =some i:=by rw [hd];rfl
   grind
  have hd' :j4.drop (k+1)=is:=by
   have:=congrArg (List.drop 1) hd
   grind [List.drop_drop]
  simp [Q8] at h;split at h
  ·rename_i S4 l hstep
   split at h
   ·rename_i YT lg3 hrun
    cases h;have aI2 :(if i.op.z8=true then na+1 else na)=base+((j4.take (k+1)).filter (·.op.z8)).length:=by
     grind
    obtain ⟨g1,g2⟩:=uz is (k+1) _ S4 aB lg3 lgf hd' aI2 hrun (fun m hm=>by
     simp_all<;>grind)
    refine ⟨by simp [g1],?_⟩;refine qt.cons ⟨i,hi,?_⟩ g2
    grind [oL]
   ·cases h
  ·cases h
theorem Nb {Ir:List ju}(hlen:Ir.length=j4.length)(h:uv j4 Ir=true):Jo j4 (fun k=>Ir.getD k ⟨[],[],0,0⟩):=by
 intro k i e hi he;unfold uv at h;have hk:=p6 hi;have hz:(i,Ir.getD k ⟨[],[],0,0⟩) ∈ j4.zip Ir:=by
  refine List.mem_of_getElem? (i:=k) ?_;simp_all
 grind
end
structure Cd (P:Program)(names:List Tmp)(E:Env)(nt:Nat)(st:St)(a:Act)(w:World)(G:Gh)(I:T0)(N:Nat->Prop):Prop where
 T:∀ (s:Nat) t,names[s]? =some t->VR G I N w (.slot s) (st.T.getD s .any) (a.tmps.getD t undef)
 H:HR G I N w st.H
 wf:WF G w
 U8:Mq E.lim st.H
 U9:st.T.length=names.length
 cE:∀ id,N id->id<st.H.length
 Eo:E.entry<=st.H.length
 size:a.tmps.size=nt
 idle:∀ d,d ∈ a.defers->DT P E.idle d
def pJ (names:List Tmp):List (Option Tmp)->Bool
 |[]=>true
 |none::r=>pJ names r
 |some d::r=>(names.contains d|| !r.contains (some d))&&pJ names r
def iJ:List Tmp->Bool
 |[]=>true
 |x::xs=> !xs.contains x&&iJ xs
theorem oK:∀ (l:List Tmp),iJ l=true->∀ (s s' :Nat) t,l[s]? =some t->l[s']? =some t->s=s'
 |[],_,s,s',t,h,_=>by simp at h
 |x::xs,hok,s,s',t,h,h' =>by
  simp only [iJ,b5,j5,List.contains_eq_mem,decide_eq_false_iff_not] at hok;cases s with
  |zero =>
   simp at h;subst h;cases s' with
   |zero=>rfl
   |succ s' =>exact absurd (List.mem_of_getElem? (by simpa using h')) hok.1
  |succ s =>
   cases s' with
   |zero =>
    simp at h';subst h';exact absurd (List.mem_of_getElem? (by simpa using h)) hok.1
   |succ s' =>rw [oK xs hok.2 s s' t (by simpa using h) (by simpa using h')]
theorem qJ (names:List Tmp):∀ (l:List (Option Tmp)),pJ names l=true->∀ (i j:Nat) d,l[i]? =some (some d)->l[j]? =some (some d)->names.contains d=false->i=j
 |[],_,i,j,d,h,_,_=>by simp at h
 |x::xs,hok,i,j,d,h,h',hn=>by
  have qS:pJ names xs=true:=by
   cases x with
   |none=>exact hok
   |some d' =>simp only [pJ,b5] at hok;exact hok.2
  have hnot:x=some d->some d ∉ xs:=by
   rintro rfl;simp only [pJ,b5,Bool.or_eq_true,j5,List.contains_eq_mem,decide_eq_false_iff_not] at hok
   rcases hok.1 with h1|h1
   ·simp at hn;simp at h1;exact absurd h1 hn
   ·exact h1
  cases i with
  |zero =>
   simp at h;cases j with
   |zero=>rfl
   |succ j=>exact absurd (List.mem_of_getElem? (by simpa using h')) (hnot h)
  |succ i =>
   cases j with
   |zero =>
    simp at h';exact absurd (List.mem_of_getElem? (by simpa using h)) (hnot h')
   |succ j=>rw [qJ names xs qS i j d (by simpa using h) (by simpa using h') hn]
def cN (P:Program)(names:List Tmp)(nt:Nat)(ops:Array Oper)(j4:List n8)(draw:Bool):Bool :=
 pJ names (ops.toList.map (·.dst))&&(ops.toList.all fun o=>match o.dst with|some d=>decide (d<nt)|none=>true) &&
 (if draw then
   let iT:=HJ ops.toList []
   decide (iT.length<=ops.size)&&lY ⟨P,names,ops⟩ j4 iT j4 0&&P.follows .mixedOrders
  else kA ⟨P,names,ops⟩ j4 0)
theorem Uu {P:Program}{names:List Tmp}{nt:Nat}{ops:Array Oper}{j4:List n8}{draw:Bool}(hn:iJ names=true)(h:cN P names nt ops j4 draw=true):Stat ⟨P,names,ops⟩ nt:=by
 simp only [cN,b5] at h;obtain ⟨⟨h1,h2⟩,_⟩:=h;have get:∀ (i:Nat) d,(ops[i]?).bind (·.dst)=some d->(ops.toList.map (·.dst))[i]? =some (some d):=by
  intro i d hd;rw [List.getElem?_map];cases ho:ops[i]? with
  |none=>rw [ho] at hd;cases hd
  |some o =>
   rw [ho] at hd;have:ops.toList[i]? =some o:=by simpa using ho
   rw [this];simpa using hd
 refine ⟨fun i j d hi hj hc=>qJ names _ h1 i j d (get i d hi) (get j d hj) hc,fun i d hd=> ?_,fun s s' t=>oK names hn s s' t⟩;cases ho:ops[i]? with
 |none=>simp only [ho] at hd;cases hd
 |some o =>
  simp only [ho] at hd;have hm:o ∈ ops.toList:=List.mem_of_getElem? (i:=i) (by simpa using ho);have:=List.all_eq_true.1 h2 o hm;have hd' :o.dst=some d:=hd;rw [hd'] at this;simpa using this
section
variable {P:Program} {names:List Tmp} {E:Env} {nt:Nat} {st:St} {a:Act} {w:World} {G:Gh} {I:T0} {N:Nat->Prop} {ops:Array Oper} {j4:List n8}
theorem Cd.start (h:Cd P names E nt st a w G I N)(X:Cx)(hX:X=⟨P,names,ops⟩){S:Nat->Prop}(hS:∀ j,¬ S j){H' :o6}(ext:o6)(hH:H' =st.H++ext)(af3:∀ o,o ∈ ext->o= .dead){L:List b6}(hL:L.length=j4.length)(n6:List Touch) :
  Rg X j4 E nt S ⟨st.T,H',L,n6⟩ a w G I N:=by
 subst hX;subst hH;have get:∀ (id:Nat) o,(st.H++ext)[id]? =some o->st.H[id]? =some o\/o= .dead:=by
  intro id o ho
  rcases u9 id st.H.length with hlt|hge
  ·rw [x9 hlt] at ho;exact Or.inl ho
  ·rw [s7 hge] at ho
   exact Or.inr (af3 o (List.mem_of_getElem? ho))
 refine ⟨⟨h.T,fun j hj=>absurd hj (hS j),fun id o ho=> ?_,h.wf,fun id o ho=> ?_⟩,⟨fun j _ _ _ _ hj=>absurd hj (hS j),fun j _ _ _ _ _ _ hj=>absurd hj (hS j)⟩,fun j _ _ hj=>absurd hj (hS j),h.U9,hL,fun id hid=> ?_,?_,h.size,h.idle⟩
 ·rcases get id o ho with h1|rfl
  ·exact h.H id o h1
  ·simp [OR]
 ·rcases get id o ho with h1|rfl
  ·exact h.U8 id o h1
  ·simp [y7.N4]
 ·have:=h.cE id hid;simp;omega
 ·have:=h.Eo;simp;omega
theorem Cd.drew (h:Cd P names E nt st a w G I N)(n:Nat):Cd P names E nt st a { w with drawn:=n } G I N/\W6 E st.H w G I N st.H { w with drawn:=n } G I N:=by
 have hx:Ext G w G { w with drawn:=n }:=(Ext.refl G w).drew n;have hk:∀ pl,aR pl G w G { w with drawn:=n }:=fun _ _ _ h=>⟨h,rfl⟩
 refine ⟨⟨fun s t ht=>VR.mono hx (fun _ _=>rfl) (fun _ h=>h) _ _ _ (Or.inr (hk _)) (h.T s t ht),fun id o ho=>OR.mono (w:=w) hx.sub (fun _ _=>rfl) (fun _ h=>h) id o (fun h=>⟨h,rfl⟩) (fun _=>hk _) (h.H id o ho),h.wf,h.U8,h.U9,h.cE,h.Eo,h.size,h.idle⟩,?_⟩;exact ⟨hx,fun id _=>⟨fun _ h=>⟨h,rfl⟩,fun _=>hk _⟩,fun _ _ _=>rfl,fun _ _ h=>h,fun _ _ h=>h,fun _ o _ h=>Or.inr ⟨o,h,n5 _⟩⟩
theorem Cd.done {X:Cx}(hX:X=⟨P,names,ops⟩){S:Nat->Prop}{r:E5}(h:Rg X j4 E nt S r a w G I N):Cd P names E nt ⟨r.T,r.H⟩ a w G I N:=by
 subst hX;exact ⟨h.ri.T,h.ri.H,h.ri.wf,h.ri.U8,h.U9,h.cE,h.Eo,h.size,h.idle⟩
structure Jn (P:Program)(E:Env):Prop where
 cf:lV P E.cf E.prom
 can:∀ f args H lm r,E.cf f args H lm=some r->U2 P f=true
 strict:E.lim.strict<=E.lim.base
 base:E.lim.base<=E.entry
theorem W6.aF6 {H0 ext H:o6}{w0 w:World}{G0 G:Gh}{I0 I:T0}{N0 N:Nat->Prop}(hb:E.lim.base<=H0.length)(h:W6 E (H0++ext) w0 G0 I0 N0 H w G I N):W6 E H0 w0 G0 I0 N0 H w G I N:=by
 refine ⟨h.ext,h.eE,h.inj,h.mono,h.old,fun id o' hid ho=> ?_⟩
 rcases h.hle id o' hid ho with h1|⟨o,h1,h2⟩
 ·exact Or.inl h1
 ·rw [x9 (by omega)] at h1
  exact Or.inr ⟨o,h1,h2⟩
theorem rH (hE:Jn P E)(hn:iJ names=true){draw:Bool}(hc:cN P names nt ops j4 draw=true)(h:Cd P names E nt st a w G I N){r:E5}(hr:P6 E j4 draw st.T st.H=some r)(id:Nat)(Q:Exit->Act->World->Prop)
  (hQ:∀ a' w' G' I' N',Rg ⟨P,names,ops⟩ j4 E nt (fun j=>j<j4.length) r a' w' G' I' N' ->W6 E st.H w G I N r.H w' G' I' N' ->Q .normal a' w'):(Code.region id ops draw).wp P Q a w:=by
 have hst:=Uu hn hc;simp only [cN,b5] at hc;obtain ⟨_,hc⟩:=hc;unfold P6 at hr;cases draw with
 |false =>
  simp only [b7,if_false] at hr hc;refine wp_region ?_;have hsz:ops.size=j4.length:=by
   have:∀ (is:List n8) (k:Nat),kA ⟨P,names,ops⟩ is k=true->ops.size=k+is.length:=by
    intro is
    induction is with
    |nil=>intro k h;simpa [kA] using h
    |cons i is ih =>
     intro k h;simp only [kA,b5] at h;have:=ih (k+1) h.2;simp only [B7];omega
   simpa using this j4 0 hc
  rw [hsz,List.range_eq_range'];have hR:Rg ⟨P,names,ops⟩ j4 E nt (fun j=>j<0) ⟨st.T,st.H,c9 j4.length .any,[]⟩ a w G I N :=
   h.start _ rfl (fun j=>by simp) [] (by simp) (by simp) (by simp) []
  refine Dh (X:=⟨P,names,ops⟩) hst hE.cf hE.can hE.strict hE.base Q j4 0 (by simp) (by simp) hc _ a w G I N r hR hr ?_;intro a' w' G' I' N' hf;exact hQ a' w' G' I' N' hf.rg hf.since
 |true =>
  simp only [if_true,b5,decide_eq_true_eq] at hr hc;obtain ⟨⟨bq9,ae4⟩,aI1⟩:=hc;split at hr
  ·rename_i r' Ir hrun
   split at hr
   ·rename_i hok
    cases hr;refine wp_region_any aI1 ?_;obtain ⟨h2,WW⟩:=h.drew (w.drawn+1);have hR:Rg ⟨P,names,ops⟩ j4 E nt (fun j=>(Array.replicate ops.size false).getD j false=true) ⟨st.T,st.H++Z1 j4,c9 j4.length .any,slotsOf j4⟩ a { w with drawn:=w.drawn+1 } G I N :=
     h2.start _ rfl (fun j=>by
      rcases u9 j ops.size with h|h
      ·simp [h]
      ·simp [h]) (Z1 j4) rfl (by
      intro o ho;unfold Z1 at ho;simp at ho;exact ho.2.symm) (by simp) (slotsOf j4)
    have ag9:gE j4 ⟨st.T,st.H++Z1 j4,c9 j4.length .any,slotsOf j4⟩:=by
     intro k i s hi ha hd;rw [List.any_eq_true];refine ⟨.slot s,?_,by simp [Touch.R9]⟩;show Touch.slot s ∈ slotsOf j4
     unfold slotsOf;exact List.mem_filterMap.2 ⟨i,List.mem_of_getElem? hi,by simp [ha,hd]⟩
    have hsize:ops.size=j4.length:=by
     have:=lZ (X:=⟨P,names,ops⟩) j4 0 ae4;simpa using this
    obtain ⟨hlen,aG3⟩:=uz (base:=st.H.length) j4 0 st.H.length _ r Ir (fun k=>Ir.getD k ⟨[],[],0,0⟩) (by simp) (by simp) hrun (fun m _=>by simp);have Ii:bY j4.length (Array.replicate ops.size false)=List.range' 0 j4.length:=by
     unfold bY;rw [List.filter_eq_self.2 ?_,List.range_eq_range'];intro j hj;simp at hj;simp [hsize,hj]
    have hlt:∀ k n,oL j4 st.H.length k=some n->st.H.length<=n/\n<(st.H++Z1 j4).length:=by
     intro k n hk;unfold oL at hk;split at hk
     ·rename_i i hi
      split at hk
      ·rename_i DK
       cases hk;refine ⟨by omega,?_⟩;have h1:((j4.take (k+1)).filter (·.op.z8)).length=((j4.take k).filter (·.op.z8)).length+1:=by
        rw [List.take_add_one,hi];simp [List.filter_append,DK]
       have h2:((j4.take (k+1)).filter (·.op.z8)).length<=(j4.filter (·.op.z8)).length :=
        List.Sublist.length_le (List.Sublist.filter _ (List.take_sublist _ _))
       simp [Z1];omega
      ·cases hk
     ·cases hk
    refine Mv (X:=⟨P,names,ops⟩) (iT:=HJ ops.toList []) (X5:=oL j4 st.H.length) (lg:=fun k=>Ir.getD k ⟨[],[],0,0⟩) (fin:=r) hst hE.cf hE.can hE.strict hE.base Q ae4 (fun k hk=> ?_) (TD j4 _) (fun k n hk=> ?_) (Nb hlen hok)
     ops.size (Array.replicate ops.size false) _ a _ G I N hR (by simp [hsize]) ?_ (fun k n hk=>(hlt k n hk).2) ag9 (fun k n hk _ hN=> ?_) (by rw [Ii];exact aG3) (by rw [Ii];simp [hsize]) ?_
    ·rw [List.getD,A8 (by simp only at hk;omega)];rfl
    ·have:=(hlt k n hk).1;have:=h.Eo;omega
    ·intro k o hk
     exfalso
     rcases u9 k ops.size with h|h
     ·simp [h] at hk
     ·simp [h] at hk
    ·have h1:=h.cE n hN;have:=(hlt k n hk).1;omega
    ·intro a' w' G' I' N' hf
     have hb:E.lim.base<=st.H.length:=Nat.le_trans hE.base h.Eo;exact hQ a' w' G' I' N' hf.rg (WW.trans (hf.since.aF6 hb))
   ·cases hr
  ·cases hr
end
section
variable {P:Program} {names:List Tmp} {E:Env} {nt:Nat} {st st' :St} {a:Act} {w:World} {G:Gh} {I:T0} {N:Nat->Prop}
theorem uy:∀ (cs:List b6) (k i id sz lo len:Nat),ep cs k=some (i,id,sz,lo,len)->∃ j,i=k+j/\cs[j]? =some (.D4 id sz lo len)
 |[],_,_,_,_,_,_,h=>by simp [ep] at h
 |c::cs,k,i,id,sz,lo,len,h=>by
  cases c
  case D4 id' sz' lo' len' =>
   simp only [ep,Option.some.injEq,Prod.mk.injEq] at h;obtain ⟨rfl,rfl,rfl,rfl,rfl⟩:=h;exact ⟨0,rfl,rfl⟩
  all_goals
   obtain ⟨j,h1,h2⟩:=uy cs (k+1) i id sz lo len (by simpa only [ep] using h);exact ⟨j+1,by omega,by simpa using h2⟩
theorem HT {pl:Place}{v:b6}{d:Data}{x:Value}(hd:v.data? =some d)(h:VR G I N w pl v x):DR G w d x:=by
 have h2:VR G I N w pl v.G4 x:=h.G4;cases v<;>simp only [b6.data?] at hd<;>first|cases hd|skip
 all_goals simpa only [b6.G4,VR] using h2
theorem Ox (b:Nat)(ag3:∀ o,jq G b o):∀ (vs:List b6) (xs:List Data) (o:Nat),N9 vs=some xs->(∀ j v,vs[j]? =some v->∃ u,w.cell? (ad b (o+j))=some u/\∀ d,v.data? =some d->DR G w d u)->fH G w b o xs
 |[],xs,o,h,_=>by simp [N9] at h;subst h;simp [fH]
 |v::vs,xs,o,h,hv=>by
  unfold N9 at h;cases hd:v.data? with
  |none=>rw [hd] at h;cases h
  |some d =>
   rw [hd] at h;simp only at h;cases hds:N9 vs with
   |none=>rw [hds] at h;cases h
   |some ds =>
    rw [hds] at h;cases h;obtain ⟨u,h1,h2⟩:=hv 0 v rfl;simp only [fH];refine ⟨ag3 o,⟨u,by simpa using h1,h2 d hd⟩,Ox b ag3 vs ds (o+1) hds fun j v' hj=> ?_⟩;obtain ⟨u',g1,g2⟩:=hv (j+1) v' (by simpa using hj);exact ⟨u',by rw [show o+1+j=o+(j+1) by omega];exact g1,g2⟩
theorem ON (h:Cd P names E nt st a w G I N){s:Nat}(hr:Ic E.lim E.entry s st=some st'):∃ G' N',Cd P names E nt st' a w G' I N' /\W6 E st.H w G I N st'.H w G' I N' :=by
 unfold Ic at hr;split at hr
 ·rename_i b hT
  split at hr
  ·rename_i cs hb
   split at hr
   ·rename_i i id sz lo len aI5
    split at hr
    ·rename_i vs hvs
     split at hr
     ·rename_i xs hxs
      split at hr
      ·rename_i dw
       cases hr;obtain ⟨hbase,aH1,hmay,hbb,hne⟩:=dw;obtain ⟨j,hj,hcj⟩:=uy cs 0 i id sz lo len aI5;obtain rfl:i=j:=by omega
       obtain ⟨old,hold,hlen,aK4⟩:∃ old,st.H[id]? =some (.cells old)/\lo+len * sz<=old.length/\vs=(old.drop lo).take (len * sz):=by
        unfold rd at hvs;split at hvs
        ·rename_i l hl
         split at hvs
         ·rename_i hle;cases hvs;exact ⟨l,hl,hle,rfl⟩
         ·cases hvs
        ·cases hvs
       have hO:=h.H id _ hold;simp only [OR] at hO;obtain ⟨hN,c,e,f,g1,g2,g3,g4,g5⟩:=hO;have hlt:(I id).1<w.heap.size:=by
        rcases u9 (I id).1 w.heap.size with h|h
        ·exact h
        ·rw [Array.getElem?_eq_none h] at g1;cases g1
       have Tn:=p6 hold;have hx:Ext G w (lu G (I id).1 .kJ) w:=by
        refine ⟨rfl,rfl,rfl,n5 _,fun b' o hi=>⟨?_,rfl⟩,fun b' hb' =>⟨?_,rfl⟩,fun _ c _ _ hc=>⟨c,hc,rfl⟩⟩
        ·by_cases he:b' =(I id).1
         ·subst he;unfold jq;rw [yX];trivial
         ·unfold jq at hi ⊢;rw [O9 he];exact hi
        ·have he:b' ≠(I id).1:=by rintro rfl;rw [g2] at hb';rcases hb' with hb' |⟨_,hb'⟩<;>cases hb'
         exact O9 he
       have hkp:∀ q,aR q G w (lu G (I id).1 .kJ) w:=fun q b' n hb' =>⟨by rw [O9 (by rintro rfl;rw [g2] at hb';cases hb')];exact hb',rfl⟩
       have Zr:∀ id',id' ≠id->∀ b',G b' = .obj id' ->(lu G (I id).1 .kJ) b' = .obj id' /\w.heap[b']? =w.heap[b']? :=fun id' hid b' hb' =>⟨by rw [O9 (by rintro rfl;rw [g2] at hb';cases hb';exact hid rfl)];exact hb',rfl⟩
       have vr:∀ {pl:Place} {v:b6} {u:Value},VR G I N w pl v u->VR (lu G (I id).1 .kJ) I (fun i=>N i/\i≠id) w pl (v.kill id) u :=
        fun hv=>VR.mono hx (fun _ _=>rfl) (fun _ h=>h) _ _ _ (Or.inr (hkp _)) (VR.kill id _ _ _ hv)
       have tw:∀ (id' :Nat) (o' :y7),(((st.H.take E.lim.base++(st.H.drop E.lim.base).map (y7.kill id)).set id .dead).set b (.cells ((G5 id cs).set i (.d (.slice len xs)))))[id']? =some o' ->
         (id' =b/\o' = .cells ((G5 id cs).set i (.d (.slice len xs))))\/(id' ≠b/\id' =id/\o' = .dead)\/(id' ≠b/\id' ≠id/\id' <E.lim.base/\st.H[id']? =some o')\/(id' ≠b/\id' ≠id/\E.lim.base<=id' /\∃ o1,st.H[id']? =some o1/\o' =o1.kill id):=by
        intro id' o' ho'
        by_cases e1:id' =b
        ·subst e1
         rw [List.getElem?_set_self (by simp;have:=p6 hb;omega)] at ho';cases ho';exact Or.inl ⟨rfl,rfl⟩
        ·rw [A1 (fun e=>e1 e.symm)] at ho'
         have:=mK (base:=E.lim.base) (o:= .dead) Tn (id' :=id') (o' :=o') ho'
         rcases this with ⟨rfl,rfl⟩|⟨hn,hb',ho⟩|⟨hn,hb',o1,ho,rfl⟩
         ·exact Or.inr (Or.inl ⟨e1,rfl,rfl⟩)
         ·exact Or.inr (Or.inr (Or.inl ⟨e1,hn,hb',ho⟩))
         ·exact Or.inr (Or.inr (Or.inr ⟨e1,hn,hb',o1,ho,rfl⟩))
       have mD:A4 ((G5 id cs).set i (.d (.slice len xs)))<=A4 cs:=Nat.le_trans (kz _ _ _) (cM id cs);refine ⟨lu G (I id).1 .kJ,fun i=>N i/\i≠id,⟨?_,?_,?_,?_,?_,?_,?_,h.size,h.idle⟩,⟨hx,?_,fun _ _ _=>rfl,?_,fun _ _ hn=>hn.1,?_⟩⟩
       ·intro s' t ht
        simp only [tr];exact vr (h.T s' t ht)
       ·intro id' o' ho'
        rcases tw id' o' ho' with ⟨rfl,rfl⟩|⟨_,rfl,rfl⟩|⟨e1,e2,e3,e4⟩|⟨e1,e2,e3,o1,e4,rfl⟩
        ·have hk:=OR.kill id (fun e=>hne e.symm) _ (h.H id' _ hb)
         have hk:=OR.mono hx (fun _ _=>rfl) (fun _ h=>h) id' _ (fun hb' =>Zr id' (fun e=>hne e.symm) _ hb') (fun _=>hkp _) hk;simp only [y7.kill,OR] at hk ⊢;obtain ⟨k0,c2,e2,f2,k1,k2,k3,k4,k5⟩:=hk;refine ⟨k0,c2,e2,f2,k1,k2,k3,by simpa using k4,fun i' x' hx' => ?_⟩
         by_cases ei:i' =i
         ·subst ei
          have Ac:i' <(G5 id cs).length:=by rw [N5];exact p6 hcj
          rw [List.getElem?_set_self Ac] at hx';cases hx';have hOb:=h.H id' _ hb;simp only [OR] at hOb;obtain ⟨_,c3,e3,f3,m1,_,_,_,m5⟩:=hOb;rw [k1] at m1;cases m1;obtain ⟨u,u1,u2⟩:=m5 i' _ hcj;refine ⟨u,u1,?_⟩;simp only [VR] at u2 ⊢;obtain ⟨_,cap,rfl,u3,_⟩:=u2;simp only [DR];refine Or.inr ⟨(I id).1,(I id).2+lo,cap,rfl,u3,Ox _ (fun o=>by unfold jq;rw [yX];trivial) vs xs _ hxs fun j v hj=> ?_⟩;subst aK4;have hj2:j<len * sz/\old[lo+j]? =some v:=by
           rw [List.getElem?_take] at hj;split at hj
           ·rename_i hjl
            rw [List.getElem?_drop] at hj;exact ⟨hjl,hj⟩
           ·cases hj
          obtain ⟨y,y1,y2⟩:=g5 _ _ hj2.2;refine ⟨y,?_,fun d hd=>DR.mono hx.kJ _ _ (HT hd y2)⟩;simp only [World.cell?,g1];rw [H9];simpa using y1
         ·rw [A1 (fun e=>ei e.symm)] at hx'
          exact k5 i' x' hx'
        ·simp [OR]
        ·have OS:=OR.low (n:=E.lim.base) e3 o' ((h.U8 id' o' e4).2 e3) (h.H id' o' e4)
         exact OR.mono hx (fun _ _=>rfl) (fun i hi=>⟨hi.1,by have:=hi.2;omega⟩) id' o' (fun hb' =>Zr id' e2 _ hb') (fun _=>hkp _) OS
        ·exact OR.mono hx (fun _ _=>rfl) (fun _ h=>h) id' _ (fun hb' =>Zr id' e2 _ hb') (fun _=>hkp _) (OR.kill id e2 o1 (h.H id' o1 e4))
       ·intro b' hb'
        rw [O9 (by omega)];exact h.wf b' hb'
       ·intro id' o' ho'
        rcases tw id' o' ho' with ⟨rfl,rfl⟩|⟨_,rfl,rfl⟩|⟨e1,e2,e3,e4⟩|⟨e1,e2,e3,o1,e4,rfl⟩
        ·obtain ⟨d1,d2⟩:=h.U8 id' _ hb
         simp only [y7.N4] at d1 d2 ⊢;exact ⟨fun hs=>Nat.le_trans mD (d1 hs),fun hs=>Nat.le_trans mD (d2 hs)⟩
        ·exact ⟨fun _=>by simp [y7.N4],fun _=>by simp [y7.N4]⟩
        ·exact h.U8 id' o' e4
        ·obtain ⟨d1,d2⟩:=h.U8 id' o1 e4
         have:=AU id o1;exact ⟨fun hs=>Nat.le_trans this (d1 hs),fun hs=>Nat.le_trans this (d2 hs)⟩
       ·rw [N5];exact h.U9
       ·intro id' hn
        have:=h.cE id' hn.1;simp;omega
       ·have:=h.Eo
        simp;omega
       ·intro id' hm
        have aI3 :id' ≠id:=by rintro rfl;rw [hmay] at hm;cases hm
        exact ⟨Zr id' aI3,fun off=>hkp _⟩
       ·intro id' hlt' hn
        exact ⟨hn,by omega⟩
       ·intro id' o' hlt' ho'
        rcases tw id' o' ho' with ⟨rfl,rfl⟩|⟨_,rfl,rfl⟩|⟨e1,e2,e3,e4⟩|⟨e1,e2,e3,o1,e4,rfl⟩
        ·omega
        ·exact Or.inl (by simp [y7.N4])
        ·exact Or.inr ⟨o',e4,n5 _⟩
        ·omega
      ·cases hr
     ·cases hr
    ·cases hr
   ·cases hr
  ·cases hr
 ·cases hr
end
end Go.y3


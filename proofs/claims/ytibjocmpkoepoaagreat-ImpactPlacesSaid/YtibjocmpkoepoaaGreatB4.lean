import Derived.Test.YtibjocmpkoepoaaGreatB2
import Derived.Defers
import Derived.Recover
import Derived.ChangeSame
import Derived.ProofKit
import Derived.OpenShut
import Derived.SizedLaws
set_option linter.all false
open Bool renaming false_eq_true→e8,true→W,false→F
open List renaming all_eq_true→L4,getElem?_append_left→s8,getElem?_append_right→q9,getElem?_eq_getElem→n5,getElem_of_mem→O8,map_cons→M8,mem_cons→C4,length→O
open Nat renaming add_assoc→M9,le_of_ble_eq_true→l5,le_refl→o6,le_trans→A3,lt_or_ge→x9
open Option renaming map_some→C6,some→J,none→K
namespace Go.B3
variable [E0]
def E6.DI:E6->Exit
 | .normal=> .normal
 | .exit id=> .exit id
 | .ret=> .ret
def BZ (P:Program)(names:List Tmp)(ops:Array Oper)(n:Nat)(c' :Operand)(c:z6):Bool:=Cx.ck ⟨P,names,ops⟩ (λj=>decide (j<n)) c' c
def aH (P:Program)(names:List Tmp)(nt:Nat):Code->p6->Bool
 |c,.seq (.fz _) k=>aH P names nt c k
 | .skip,.skip=>W
 | .region _ ops d',.region j9 d=>d==d' &&fB P names nt ops j9 d
 | .seq (.region _ ops d') (.seq (.cond c' x' y') z'),.seq (.test j9 d c x y) k =>
  d==d' &&fB P names nt ops j9 d&&BZ P names ops (O j9) c' c&&aH P names nt x' x&&aH P names nt y' y&&aH P names nt z' k
 | .seq (.region _ ops d') (.cond c' x' y'),.test j9 d c x y =>
  d==d' &&fB P names nt ops j9 d&&BZ P names ops (O j9) c' c&&aH P names nt x' x&&aH P names nt y' y
 | .seq (.region i ops d') (.seq (.cond c' x' y') z'),.seq (.seq (.region j9 d) (.cond c x y)) k =>
  aH P names nt (.region i ops d') (.region j9 d)&&aH P names nt (.cond c' x' y') (.cond c x y)&&aH P names nt z' k
 | .seq x' y',.seq x y=>aH P names nt x' x&&aH P names nt y' y
 | .cond c' x' y',.cond c x y=>BZ P names #[] 0 c' c&&aH P names nt x' x&&aH P names nt y' y
 | .block id' b',.block id b=>id' ==id&&aH P names nt b' b
 | .loop b',.loop _ b=>aH P names nt b' b
 | .exit id',.exit id=>id' ==id
 | .ret,.ret=>W
 |_,.bad=>W
 |_,_=>F
theorem sF:∀(m:List Bool) (T:List c7) (s:Nat),(U3 m T).getD s .any=T.getD s .any\/(U3 m T).getD s .any= .any
 |[],[],s=>by simp [U3]
 |[],v::vs,0=>by simp [U3]
 |[],v::vs,s+1=>by simpa [U3] using sF [] vs s
 |b::m,[],s=>by simp_all [U3]
 |true::m,v::vs,0=>by simp [U3]
 |false::m,v::vs,0=>by simp [U3]
 |true::m,v::vs,s+1=>by simpa [U3] using sF m vs s
 |false::m,v::vs,s+1=>by simpa [U3] using sF m vs s
theorem nG:∀(m:List Bool) (T:List c7),O (U3 m T)=O T
 |[],[]=>by simp [U3]
 |[],v::vs=>by simpa [U3] using nG [] vs
 |b::m,[]=>by simp_all [U3]
 |true::m,v::vs=>by simpa [U3] using nG m vs
 |false::m,v::vs=>by simpa [U3] using nG m vs
def least {p:Nat->Prop}(h:∃m,p m):∃m,p m/\∀k,p k->m<=k:=by
 obtain ⟨m,hm⟩:=h
 induction m using Nat.strongRecOn with
 |_ m ih =>
  grind
def aL7 {α β:Type}(d4:Nat->α->β->Prop):∃μ:α->β->Nat,∀a b,(∃m,d4 m a b)->d4 (μ a b) a b/\∀k,d4 k a b->μ a b<=k:=by
 have:∀a b,∃m,(∃m,d4 m a b)->d4 m a b/\∀k,d4 k a b->m<=k:=by
  intro a b
  by_cases h:∃m,d4 m a b
  all_goals simp_all [least,absurd]
 exact ⟨λa b=>Classical.choose (this a b),λa b=>Classical.choose_spec (this a b)⟩
section
variable {P:Program} {names:List Tmp} {E:Env} {nt:Nat}
def KC {st:St}{a:Act}{w:World}{G:Gh}{I:T0}{N:Nat->Prop}(h:Cd P names E nt st a w G I N)(mask:List Bool){n:Nat}(hn:E.entry<=n) :
  ∃N',Cd P names E nt (clean mask E.lim.strict n st) a w G I N' /\bw E st.H w G I N (clean mask E.lim.strict n st).H w G I N' :=by
 have hT:∀(s:Nat) t,names[s]? =J t->VR G I N w (.slot s) ((U3 mask st.T).getD s .any) (a.tmps.getD t undef):=by
  intro s t ht
  rcases sF mask st.T s with e|e
  .rw [e];exact h.T s t ht
  simp_all [VR]
 unfold clean;split
 next hc=>
  refine ⟨λi=>N i/\i<n,⟨λs t ht=>VR.low n _ _ _ ?_ (hT s t ht),λid o ho=>?_,h.wf,λid o ho=>?_,?_,λid hid=>?_,?_,h.size,h.idle⟩,?_⟩
  .cases hg:(U3 mask st.T)[s]? with
   |none=>simp [hg,c7.K9]
   |some v =>
    have:=ql _ _ _ hg
    grind
  .have hlt:id<n:=by grind
   rw [List.getElem?_take_of_lt hlt] at ho;exact OR.low hlt o (xY h.W9 hc.2 hlt ho) (h.H id o ho)
  .have hlt:id<n:=by grind
   rw [List.getElem?_take_of_lt hlt] at ho;exact h.W9 id o ho
  .simp [nG];exact h.Y0
  .have:=h.bY id hid.1
   simp;omega
  .have:=h.IE
   simp;omega
  .refine ⟨Ext.refl _ _,mX.refl _ _ _,λ_ _ _=>rfl,λid hid hN=>⟨hN,V⟩,λid _ hN=>hN.1,λid o' _ ho=>?_⟩
   grind
 .exact ⟨N,⟨hT,h.H,h.wf,h.W9,by simp [nG];exact h.Y0,h.bY,h.IE,h.size,h.idle⟩,bw.refl _ _ _ _ _ _⟩
def Sound (P:Program)(names:List Tmp)(nt:Nat)(E:Env)(C:Code)(run:St->Option (E6×St)):Prop :=
 ∀st x st' a w G I N,run st=J (x,st')->Cd P names E nt st a w G I N->∀Q:Exit->Act->World->Prop,
  (∀a' w' G' I' N',Cd P names E nt st' a' w' G' I' N' ->EF E st.H w G I N st'.H w' G' I' N' ->Q x.DI a' w')->C.wp P Q a w
def DH {X:Cx}{j9:List o4}{S:Nat->Prop}{r:G4}{a:Act}{w:World}{G:Gh}{I:T0}{N:Nat->Prop}{f9:Nat->Bool}(h:Rg X j9 E nt S r a w G I N)(hD:∀j,f9 j=W->S j){c' :Operand}{c:z6}(hc:X.ck f9 c' c=W){b:Bool}
  (hv:G5 r.T r.L c= .d (.bool b)):a.eval c' = .bool b:=by
 have:=h.ri.R4 hD c' c hc;simp_all [VR,DR]
def Cc {st:St}{a:Act}{w:World}{G:Gh}{I:T0}{N:Nat->Prop}(h:Cd P names E nt st a w G I N){c' :Operand}{c:z6}(hc:BZ P names #[] 0 c' c=W){b:Bool}(hv:G5 st.T [] c= .d (.bool b)):a.eval c' = .bool b:=by
 have hR:Rg ⟨P,names,#[]⟩ [] E nt (λ_=>False) ⟨st.T,st.H,[],[]⟩ a w G I N:=h.start _ rfl (λ_ h=>h) [] U U rfl [];exact DH hR (f9:=λj=>decide (j<0)) (λj hj=>by simp at hj) hc hv
def andThen (rx ry:St->Option (E6×St)):St->Option (E6×St):=λst=>match rx st with
 |some (.normal,st')=>ry st'
 |r=>r
def Dv {x y:Code}{rx ry:St->Option (E6×St)}(hx:Sound P names nt E x rx)(hy:Sound P names nt E y ry)
  {st:St} {e:E6} {st' :St} {a:Act} {w:World} {G:Gh} {I:T0} {N:Nat->Prop} (hrun:andThen rx ry st=J (e,st')) (h:Cd P names E nt st a w G I N) (Q:Exit->Act->World->Prop)
  (hQ:∀a' w' G' I' N',Cd P names E nt st' a' w' G' I' N' ->EF E st.H w G I N st'.H w' G' I' N' ->Q e.DI a' w'):x.wp P (Exit.then (y.wp P Q) Q) a w:=by
 unfold andThen at hrun;split at hrun
 next st1 h1=>
  refine hx st .normal st1 a w G I N h1 h _ ?_;intro a1 w1 G1 I1 N1 hc hs;simp only [E6.DI,Exit.then];refine hy st1 e st' a1 w1 G1 I1 N1 hrun hc Q ?_;intro a2 w2 G2 I2 N2 pG hs2;exact hQ a2 w2 G2 I2 N2 pG (hs.trans hs2)
 next hne=>
  refine hx st e st' a w G I N hrun h _ ?_;intro a1 w1 G1 I1 N1 hc hs;have:=hQ a1 w1 G1 I1 N1 hc hs;cases e with
  |normal=>exact absurd hrun (hne st')
  |exit id=>exact this
  |ret=>exact this
def yd {x y:Code}{rx ry:St->Option (E6×St)}(hx:Sound P names nt E x rx)(hy:Sound P names nt E y ry) :
  Sound P names nt E (.seq x y) (andThen rx ry) :=
 λ_ _ _ _ _ _ _ _ hrun h Q hQ=>wp_seq (Dv hx hy hrun h Q hQ)
def EJ (rx ry rz:St->Option (E6×St)):andThen (andThen rx ry) rz=andThen rx (andThen ry rz):=by
 grind [andThen]
def Du (hE:Qx P E)(hn:lP names=W){ops:Array Oper}{j9:List o4}{d:Bool}{c:z6}{c' :Operand}(bH8:fB P names nt ops j9 d=W)(hck:BZ P names ops (O j9) c' c=W)
  {st:St} {a:Act} {w:World} {G:Gh} {I:T0} {N:Nat->Prop} (h:Cd P names E nt st a w G I N) {r:G4} (hr:S0 E j9 d st.T st.H=J r) {b:Bool} (hv:G5 r.T r.L c= .d (.bool b)) (id:Nat) (Q:Exit->Act->World->Prop)
  (hQ:∀a' w' G' I' N',Cd P names E nt ⟨r.T,r.H⟩ a' w' G' I' N' ->EF E st.H w G I N r.H w' G' I' N' ->a'.eval c' = .bool b->Q .normal a' w'):(Code.region id ops d).wp P Q a w:=by
 refine vP hE hn bH8 h hr id Q ?_;intro a' w' G' I' N' hR hs;exact hQ a' w' G' I' N' (Cd.done rfl hR) hs.trn (DH hR (f9:=λj=>decide (j<O j9)) (λj hj=>by simpa using hj) hck hv)
def Qb {c:Code}{body:St->Option (E6×St)}(hb:Sound P names nt E c body)(mask:List Bool)(fuel:Nat) :
  Sound P names nt E (.loop c) (λst=>ji body mask E.lim.strict (O st.H) fuel st):=by
 intro st e st' a w G I N hrun h Q hQ;simp only at hrun;generalize hn:O st.H=n at hrun;have hen:E.entry<=n:=by rw [<- hn];exact h.IE
 let d4:Nat->Act->World->Prop:=λm a' w' =>∃st1 G1 I1 N1,ji body mask E.lim.strict n m st1=J (e,st')/\Cd P names E nt st1 a' w' G1 I1 N1/\EF E st.H w G I N st1.H w' G1 I1 N1
 obtain ⟨μ,bc2⟩:=aL7 d4;refine wp_loop (I:=λa' w' =>∃m,d4 m a' w') (μ:=μ) ⟨fuel,st,G,I,N,hrun,h,EF.refl _ _ _ _ _ _⟩ ?_;intro a1 w1 hJ;obtain ⟨hm,hmin⟩:=bc2 a1 w1 hJ;generalize hμ:μ a1 w1=m at hm;obtain ⟨st1,G1,I1,N1,FQ,hc1,hs1⟩:=hm;cases m with
 |zero=>simp [ji] at FQ
 |succ m =>
  simp only [ji] at FQ;obtain ⟨N2,pG,hs2⟩:=KC hc1 mask hen;split at FQ
  next st2 hb2=>
   refine hb _ .normal st2 a1 w1 G1 I1 N2 hb2 pG _ ?_;intro a3 w3 G3 I3 N3 hc3 hs3;simp only [E6.DI,Exit.then];have hJ3:d4 m a3 w3:=⟨st2,G3,I3,N3,FQ,hc3,(hs1.trans hs2.trn).trans hs3⟩;refine ⟨⟨m,hJ3⟩,?_⟩;exact Nat.lt_succ_of_le ((bc2 a3 w3 ⟨m,hJ3⟩).2 m hJ3)
  next hne=>
   refine hb _ e st' a1 w1 G1 I1 N2 FQ pG _ ?_;intro a3 w3 G3 I3 N3 hc3 hs3;have:=hQ a3 w3 G3 I3 N3 hc3 ((hs1.trans hs2.trn).trans hs3);cases e with
   |normal=>exact absurd FQ (hne st')
   |exit id=>exact this
   |ret=>exact this
def Cn {lim:Nat}(x y:p6):exec E lim (.seq x y)=andThen (exec E lim x) (exec E lim y):=by
 rfl
def OZ (hE:Qx P E)(hn:lP names=W)(lim:Nat):∀(n:Nat) (c:p6) (C:Code),SizeOf.sizeOf c<n->aH P names nt C c=W->Sound P names nt E C (exec E lim c):=by
 intro n
 induction n with
 |zero=>intro c C h;omega
 |succ n ih =>
 intro c C hsz hc;unfold aH at hc;split at hc
 all_goals (try (cases hc;done))
 ·
  rename_i s k;simp only [p6.seq.sizeOf_spec] at hsz;have ik:=ih k C V hc;intro st e st' a w G I N hrun h Q hQ;simp only [exec] at hrun;cases hf:uv E.lim E.entry s st with
  |none=>rw [hf] at hrun;cases hrun
  |some st1 =>
   rw [hf] at hrun;obtain ⟨G1,I1,N1,h1,s1⟩:=aI1 h hf;exact ik st1 e st' a w G1 I1 N1 hrun h1 Q (λa' w' G' I' N' uw hs' =>hQ a' w' G' I' N' uw (s1.trans hs'))
 ·
  intro st e st' a w G I N hrun h Q hQ;simp only [exec] at hrun;cases hrun;exact wp_skip (hQ a w G I N h (EF.refl _ _ _ _ _ _))
 ·
  rename_i id ops d' j9 d;simp only [Bool.and_eq_true,beq_iff_eq] at hc;obtain ⟨rfl,hc⟩:=hc;intro st e st' a w G I N hrun h Q hQ;simp only [exec] at hrun;split at hrun
  next r hr=>
   cases hrun;refine vP hE hn hc h hr id Q ?_;intro a' w' G' I' N' hR hs;exact hQ a' w' G' I' N' (Cd.done rfl hR) hs.trn
  .cases hrun
 ·
  rename_i id ops d' c' x' y' z' j9 d c x y k;simp only [Bool.and_eq_true,beq_iff_eq] at hc;obtain ⟨⟨⟨⟨⟨rfl,h1⟩,h2⟩,h3⟩,h4⟩,h5⟩:=hc;simp only [p6.seq.sizeOf_spec,p6.test.sizeOf_spec] at hsz;have ix:=ih x x' V h3;have iy:=ih y y' V h4;have iz:=ih k z' V h5;intro st e st' a w G I N hrun h Q hQ;simp only [exec] at hrun;refine wp_seq ?_;cases hr:S0 E j9 d st.T st.H with
  |none=>rw [hr] at hrun;cases hrun
  |some r =>
   rw [hr] at hrun;simp only at hrun;have both:∀(b:Bool) (z:Code) (rz:St->Option (E6×St)),G5 r.T r.L c= .d (.bool b)->Sound P names nt E z rz->andThen rz (exec E lim k) ⟨r.T,r.H⟩=J (e,st')->(if b then x' else y')=z->(Code.region id ops d).wp P (Exit.then ((Code.seq (.cond c' x' y') z').wp P Q) Q) a w:=by
    intro b z rz hv hz hrz hbz;refine Du hE hn h1 h2 h hr hv id _ ?_;intro a' w' G' I' N' uw hs' hev;simp only [Exit.then];refine wp_seq (wp_cond hev ?_);rw [hbz];refine Dv hz iz hrz uw Q ?_;intro a2 w2 G2 I2 N2 pG hs2;exact hQ a2 w2 G2 I2 N2 pG (hs'.trans hs2)
   cases hv:G5 r.T r.L c with
   |d v =>
    cases v with
    |bool b =>
     rw [hv] at hrun;cases b with
     |true=>exact both W x' _ hv ix hrun rfl
     |false=>exact both F y' _ hv iy hrun rfl
    |_=>rw [hv] at hrun;cases hrun
   |_=>rw [hv] at hrun;cases hrun
 ·
  rename_i id ops d' c' x' y' j9 d c x y;simp only [Bool.and_eq_true,beq_iff_eq] at hc;obtain ⟨⟨⟨⟨rfl,h1⟩,h2⟩,h3⟩,h4⟩:=hc;simp only [p6.test.sizeOf_spec] at hsz;have ix:=ih x x' V h3;have iy:=ih y y' V h4;intro st e st' a w G I N hrun h Q hQ;simp only [exec] at hrun;refine wp_seq ?_;cases hr:S0 E j9 d st.T st.H with
  |none=>rw [hr] at hrun;cases hrun
  |some r =>
   rw [hr] at hrun;simp only at hrun;have both:∀(b:Bool) (z:Code) (rz:St->Option (E6×St)),G5 r.T r.L c= .d (.bool b)->Sound P names nt E z rz->rz ⟨r.T,r.H⟩=J (e,st')->(if b then x' else y')=z->(Code.region id ops d).wp P (Exit.then ((Code.cond c' x' y').wp P Q) Q) a w:=by
    intro b z rz hv hz hrz hbz;refine Du hE hn h1 h2 h hr hv id _ ?_;intro a' w' G' I' N' uw hs' hev;simp only [Exit.then];refine wp_cond hev ?_;rw [hbz];refine hz _ e st' a' w' G' I' N' hrz uw Q ?_;intro a2 w2 G2 I2 N2 pG hs2;exact hQ a2 w2 G2 I2 N2 pG (hs'.trans hs2)
   cases hv:G5 r.T r.L c with
   |d v =>
    cases v with
    |bool b =>
     rw [hv] at hrun;cases b with
     |true=>exact both W x' _ hv ix hrun rfl
     |false=>exact both F y' _ hv iy hrun rfl
    |_=>rw [hv] at hrun;cases hrun
   |_=>rw [hv] at hrun;cases hrun
 ·
  rename_i i ops d' c' x' y' z' j9 d c x y k;simp only [Bool.and_eq_true] at hc;simp only [p6.seq.sizeOf_spec] at hsz;rw [Cn,Cn,EJ];exact yd (ih (.region j9 d) _ V hc.1.1) (yd (ih (.cond c x y) _ V hc.1.2) (ih k z' V hc.2))
 ·
  rename_i x' y' x y _ _ _;simp only [Bool.and_eq_true] at hc;simp only [p6.seq.sizeOf_spec] at hsz;rw [Cn];exact yd (ih x x' V hc.1) (ih y y' V hc.2)
 ·
  rename_i c' x' y' c x y;simp only [Bool.and_eq_true] at hc;simp only [p6.cond.sizeOf_spec] at hsz;intro st e st' a w G I N hrun h Q hQ;simp only [exec] at hrun;split at hrun
  next hv=>
   exact wp_cond_true (Cc h hc.1.1 hv) (ih x x' V hc.1.2 st e st' a w G I N hrun h Q hQ)
  next hv=>
   exact wp_cond_false (Cc h hc.1.1 hv) (ih y y' V hc.2 st e st' a w G I N hrun h Q hQ)
  .cases hrun
 ·
  rename_i id' b' id b;simp only [Bool.and_eq_true,beq_iff_eq] at hc;obtain ⟨rfl,hc⟩:=hc;simp only [p6.block.sizeOf_spec] at hsz;have ib:=ih b b' V hc;intro st e st' a w G I N hrun h Q hQ;simp only [exec] at hrun;refine wp_block ?_;split at hrun
  next i1 st1 h1=>
   refine ib st (.exit i1) st1 a w G I N h1 h _ ?_;intro a' w' G' I' N' uw hs';simp only [E6.DI,Exit.inBlock];split at hrun
   next he=>
    cases hrun;rw [if_pos he];exact hQ a' w' G' I' N' uw hs'
   next he=>
    cases hrun;rw [if_neg he];exact hQ a' w' G' I' N' uw hs'
  next hne=>
   refine ib st e st' a w G I N hrun h _ ?_;intro a' w' G' I' N' uw hs';have:=hQ a' w' G' I' N' uw hs';cases e with
   |normal=>exact this
   |exit i=>exact absurd hrun (hne i st')
   |ret=>exact this
 ·
  rename_i b' mask b;simp only [p6.loop.sizeOf_spec] at hsz;exact Qb (ih b b' V hc) mask lim
 ·
  rename_i id' id;intro st e st' a w G I N hrun h Q hQ;simp only [beq_iff_eq] at hc;subst hc;simp only [exec] at hrun;cases hrun;exact wp_exit (hQ a w G I N h (EF.refl _ _ _ _ _ _))
 ·
  intro st e st' a w G I N hrun h Q hQ;simp only [exec] at hrun;cases hrun;exact wp_ret (hQ a w G I N h (EF.refl _ _ _ _ _ _))
 ·
  intro st e st' a w G I N hrun h Q hQ;simp only [exec] at hrun;cases hrun
end
end Go.B3
namespace Go.B3
variable [E0]
def freeze (G:Gh)(n:Nat):Gh:=λb =>
 match G b with
 | .obj id=>if n<=id then .mM else .obj id
 |x=>x
section
variable {P:Program} {G:Gh} {I:T0} {N:Nat->Prop} {w:World} {n:Nat}
def OA {b o:Nat}(h:jS G b o):jS (freeze G n) b o:=by
 grind [jS,freeze]
def uu:Ext G w (freeze G n) w where
 os:=rfl
 tape:=rfl
 output:=rfl
 drawn _:=o6 _
 size:=o6 _
 mM b o h:=⟨OA h,rfl⟩
 still b h:=⟨by grind [freeze],rfl⟩
 shape _ c _ _ h:=⟨c,h,rfl⟩
def oF (q:Place):bI q G w (freeze G n) w:=λb m hb=>⟨by simp [freeze,hb],rfl⟩
def Cu {b id:Nat}(h:id<n)(hb:G b= .obj id):freeze G n b= .obj id:=by simp_all [freeze,if_neg]
def UQ (h:WF G w):WF (freeze G n) w:=λb hb=>by simp [freeze,h b hb]
theorem FK {pl:Place}{a:c7}{x:Value}(h:VR G I N w pl a x):VR (freeze G n) I N w pl a x :=
 VR.mono uu.sub (λ_ _=>rfl) (λ_ h=>h) _ _ _ (Or.inr (oF pl)) h
theorem al0 {pl:Place}{a:c7}{d:Data}{x:Value}(h:a.data? =J d)(hv:VR G I N w pl a x):DR G w d x:=by
 unfold c7.data? at h;split at h
 .simp_all [VR]
 .have:=hv.F4 (zh := .none)
  simp_all [c7.F4,VR]
 .have:=hv.F4 (zh := .none)
  simp_all [c7.F4,VR]
 .cases h
theorem sx:∀(cs:List c7) (xs:List Data),L5 cs=J xs->O xs=O cs/\∀(i:Nat) x,xs[i]? =J x->∃a,cs[i]? =J a/\a.data? =J x
 |[],xs,h=>by simp_all [L5]
 |c::cs,xs,h=>by
  unfold L5 at h;split at h
  .split at h
   next ys hys=>
    obtain ⟨g1,g2⟩:=sx cs ys hys
    grind
   .cases h
  .cases h
theorem sB {H:n9}(hH:HR G I N w H):∀(fuel:Nat) (as bs:List c7),X4 H n fuel as=J bs->O bs=O as/\∀(i:Nat) a pl x,as[i]? =J a->VR G I N w pl a x->∃b,bs[i]? =J b/\VR (freeze G n) I N w pl b x
 |0,as,bs,h=>by simp [X4] at h
 |fuel+1,[],bs,h=>by
  simp_all [X4]
 |fuel+1,v::vs,bs,h=>by
  simp [X4] at h;split at h
  .cases h
  next ws hws=>
   obtain ⟨l1,l2⟩:=sB hH fuel vs ws hws;have fin:∀(u:c7),(∀pl x,VR G I N w pl v x->VR (freeze G n) I N w pl u x)->bs=u::ws->O bs=O (v::vs)/\∀(i:Nat) a pl x,(v::vs)[i]? =J a->VR G I N w pl a x->∃b,bs[i]? =J b/\VR (freeze G n) I N w pl b x:=by
    grind
   have cx4:∀(l l' :List c7),X4 H n fuel l=J l' ->∀xs,J5 G I N w l xs->J5 (freeze G n) I N w l' xs:=by
    intro l l' hl xs hx;obtain ⟨m1,m2⟩:=sB hH fuel l l' hl;have hlen:=J5.length _ _ hx
    grind [T9,y9,n5,J5.get]
   split at h
   next id sz lo len=>
    split at h
    .grind [FK]
    .split at h
     next us hus=>
      split at h
      next us' bI8=>
       split at h
       next xs hxs=>
        cases h;refine fin _ (λpl x hv=>?_) rfl;simp only [VR] at hv ⊢;obtain ⟨hN,cap,rfl,hcap,c,e,f,hc,hsz⟩:=hv;refine Or.inr ⟨(I id).1,(I id).2+lo,cap,rfl,hcap,?_⟩;obtain ⟨d1,d2⟩:=sx us' xs hxs;obtain ⟨m1,m2⟩:=sB hH fuel us us' bI8;refine BD _ xs λi y hi=>?_
        have hpos:0<len * sz:=by
         all_goals grind [rd,y9]
        obtain ⟨_,zs,g1,g2,g3,g4⟩:=hH.rd hus hpos;have EZ:i<len * sz:=by grind
        have La:G (I id).1= .obj id:=by
         unfold rd at hus;split at hus
         next l0 hl0=>
          have:=hH id _ hl0
          grind [OR]
         .cases hus
        refine ⟨?_,?_⟩
        .simp_all [freeze,if_pos,jS]
        .have hz:zs[i]? =J zs[i]:=n5 V
         have hu:us[i]? =J us[i]:=n5 V
         grind [al0]
       .cases h
      .cases h
     .cases h
   .grind [VR]
   all_goals grind [VR,FK]
end
def gp (P:Program)(names:List Tmp):List ResultVar->List EE->Bool
 |[],[]=>W
 | .tmp t::r,.slot s::q=>names[s]? ==J t&&gp P names r q
 | .cell a t::r,.cell s n::q=>names[s]? ==J a&&uB P t n&&gp P names r q
 |_,_=>F
def uI (tmps:Array Value):ResultVar->Sem Value
 | .tmp t=>pure (tmps.getD t undef)
 | .cell a t=>do loadVar t (<- asAddr (tmps.getD a undef))
section
variable {P:Program} {names:List Tmp} {E:Env} {nt:Nat} {st:St} {a:Act} {w:World} {G:Gh} {I:T0} {N:Nat->Prop}
def as5 (h:Cd P names E nt st a w G I N){rv:ResultVar}{ar:EE}(hc:gp P names [rv] [ar]=W){v:c7}(hv:mP st.T st.H ar=J v):∃x s,(uI a.tmps rv).run P w= .ok x w/\VR G I N w (.slot s) v x:=by
 cases rv with
 |tmp t =>
  cases ar with
  |slot s =>
   simp only [gp,Bool.and_eq_true,beq_iff_eq] at hc;simp [mP] at hv;have:=h.T s t hc.1;simp_all [uI]<;>grind
  |cell s n=>simp [gp] at hc
 |cell t ty =>
  cases ar with
  |slot s=>simp [gp] at hc
  |cell s n =>
   simp only [gp,Bool.and_eq_true,beq_iff_eq] at hc;obtain ⟨⟨h1,h2⟩,_⟩:=hc;cases n with
   |none =>
    simp [mP] at hv;split at hv
    next id off hT=>
     split at hv
     next u hu=>
      cases hv;have hp:=h.T s t h1;rw [bQ hT] at hp;simp [VR] at hp;obtain ⟨_,xs,g1,_,g3,g4⟩:=h.H.rd hu V;obtain ⟨z,rfl⟩:∃z,xs=[z]:=List.length_eq_one_iff.1 g1;have hz:=g3 0 z rfl;have hvz:=g4 0 u z rfl rfl;have ha:dR P ty=J F:=by simp_all [uB]
      refine ⟨z,s,?_,hvz.F4⟩;simp_all [uI,asAddr,loadVar,cu]
     .cases hv
    .cases hv
   |some n =>
    simp [mP] at hv;split at hv
    next id off hT=>
     split at hv
     next us hu=>
      cases hv;have hp:=h.T s t h1;rw [bQ hT] at hp;simp [VR] at hp;have ha:dR P ty=J W/\P.cellsOf ty=n/\0<n:=by simp_all [uB,and_assoc]
      obtain ⟨_,xs,g1,g2,g3,g4⟩:=h.H.rd hu ha.2.2;have hs:(sizeOf ty).run P w= .ok n w:=by
       grind [run_sizeOf,dR,info_of_underlying]
      have hl:=run_loadCells_list (P:=P) w (ad (I id).1 ((I id).2+off)) xs (λj v hj=>by simp_all [aX]);refine ⟨.agg xs.toArray,s,?_,?_⟩
      .simp_all [uI,asAddr,loadVar,cu]
      .refine ⟨_,rfl,T9 _ _ (by simp [g1,g2]) λj b v hj hv=>?_⟩
       simp at hj hv;obtain ⟨b',hb',rfl⟩:=hj;exact (g4 j b' v hb' hv).F4
     .cases hv
    .cases hv
theorem RT (h:Cd P names E nt st a w G I N):∀(rvs:List ResultVar) (ars:List EE) (vs:List c7),gp P names rvs ars=W->bS st.T st.H ars=J vs ->
  ∃xs:List Value,(rvs.mapM (uI a.tmps)).run P w= .ok xs w/\O xs=O vs/\∀(i:Nat) v x,vs[i]? =J v->xs[i]? =J x->∃s,VR G I N w (.slot s) v x
 |[],ars,vs,hc,hv=>by
  cases ars with
  |cons _ _=>simp [gp] at hc
  |nil =>
   simp_all [bS]
 |rv::rvs,ars,vs,hc,hv=>by
  cases ars with
  |nil=>simp_all [gp]
  |cons ar ars =>
   have hc1:gp P names [rv] [ar]=W/\gp P names rvs ars=W:=by
    cases rv<;>cases ar<;>simp_all [gp]
   simp [bS] at hv;split at hv
   next v hv1=>
    split at hv
    next vs' hvs=>
     obtain ⟨x,s,h1,h2⟩:=as5 h hc1.1 hv1;obtain ⟨xs,h3,h4,h5⟩:=RT h rvs ars vs' hc1.2 hvs;simp_all<;>grind
    .cases hv
   .cases hv
end
end Go.B3
namespace Go.B3
variable [E0]
structure jb (w w' :World):Prop where
 heap:w'.heap=w.heap
 os:w'.os=w.os
 tape:w'.tape=w.tape
 output:w'.output=w.output
 drawn:w.drawn<=w'.drawn
theorem jb.refl (w:World):jb w w:=⟨rfl,rfl,rfl,rfl,o6 _⟩
theorem jb.trans {w w1 w2:World}(h:jb w w1)(k:jb w1 w2):jb w w2:=⟨k.heap.trans h.heap,k.os.trans h.os,k.tape.trans h.tape,k.output.trans h.output,A3 h.drawn k.drawn⟩
theorem jb.ext {G:Gh}{w w' :World}(h:jb w w'):Ext G w G w' where
 os:=h.os
 tape:=h.tape
 output:=h.output
 drawn _:=h.drawn
 size:=by rw [h.heap];exact o6 _
 mM b o hi:=⟨hi,ki h.heap _⟩
 still b _:=⟨rfl,by rw [h.heap]⟩
 shape b c e f hc:=⟨c,by rw [h.heap];exact hc,rfl⟩
def jb.keeps {G:Gh}{w w' :World}(h:jb w w')(q:Place):bI q G w G w' :=λb n hb=>⟨hb,by rw [h.heap]⟩
def Idle (P:Program)(f:FuncId):Prop :=
 U1 P f=W/\∀args w,CallsD P f args .returning w λe u' w' =>(∃v,e= .returned v)/\u' = .returning/\jb w w'
section
variable {P:Program} {names:List Tmp} {E:Env} {nt:Nat} {st:St} {a:Act} {w w' :World} {G:Gh} {I:T0} {N:Nat->Prop}
def Cd.same (h:Cd P names E nt st a w G I N)(hw:jb w w'):Cd P names E nt st a w' G I N where
 T s t ht:=VR.mono hw.ext.sub (λ_ _=>rfl) (λ_ h=>h) _ _ _ (Or.inr (hw.keeps _)) (h.T s t ht)
 H id o ho:=OR.mono hw.ext.sub (λ_ _=>rfl) (λ_ h=>h) id o (λh=>⟨h,by rw [hw.heap]⟩) (λ_=>hw.keeps _) (h.H id o ho)
 wf b hb:=h.wf b (by rw [<- hw.heap];exact hb)
 W9:=h.W9
 Y0:=h.Y0
 bY:=h.bY
 IE:=h.IE
 size:=h.size
 idle:=h.idle
def bw.same {H0 H:n9}{w0:World}{G0:Gh}{I0:T0}{N0:Nat->Prop}(h:bw E H0 w0 G0 I0 N0 H w G I N)(hw:jb w w'):bw E H0 w0 G0 I0 N0 H w' G I N :=
 h.trans ⟨hw.ext,λid _=>⟨λb hb=>⟨hb,by rw [hw.heap]⟩,λ_=>hw.keeps _⟩,λ_ _ _=>rfl,λ_ _ h=>h,λ_ _ h=>h,λ_ o _ ho=>Or.inr ⟨o,ho,o6 _⟩⟩
theorem yX {idle:FuncId->Bool}(FL:∀f,idle f=W->Idle P f){fn:Func}{tmps:Array Value}{R:Ending->World->Prop}:∀(ds:List Deferred) (w:World),(∀d,d∈ds->Kh P idle d) ->
  (∀w',jb w w' ->∃v,(results fn tmps).run P w' = .ok v w' /\R (.returned v) w')->Leaves P fn tmps R ds .returning w
 |[],w,_,h=>h w (jb.refl w)
 |d::ds,w,hd,h=>by
  obtain ⟨f,cap,h1,h2⟩:=hd d U;obtain ⟨hcan,hD⟩:=FL f h2;obtain ⟨tgt,dargs⟩:=d;subst h1;refine leaves_cons (f:=f) (args:=dargs++cap) U (by simp_all [invoke,vR]) ?_;refine CallsD.mono (hD _ w) ?_;rintro e u' w' ⟨⟨v,rfl⟩,rfl,hw⟩;exact yX FL ds w' (λd hd' =>hd d (by simp [hd'])) (λw'' hw' =>h w'' (hw.trans hw'))
def Mc {fn:Func}{tmps:Array Value}{xs:List Value}(h:(fn.results.toList.mapM (uI tmps)).run P w= .ok xs w) :
  (results fn tmps).run P w= .ok (if h:O xs=1 then xs[0]' V else .tuple xs.toArray) w:=by
 have e:results fn tmps=(fn.results.mapM (uI tmps) >>= λvs=>pure (if h:vs.size=1 then vs[0] else .tuple vs)):=by
  rfl
 grind [Array.mapM_eq_mapM_toList,map_eq_pure_bind,Sem.run_bind,Result.andThen_ok,Sem.run_pure,List.size_toArray]
def aO8 {vs:List c7}{xs:List Value}(hl:O xs=O vs)(h:∀(i:Nat) v x,vs[i]? =J v->xs[i]? =J x->∃s,VR G I N w (.slot s) v x) :
  ∃pl G2,lM pl G w G2/\(∀id off,pl≠ .cell id off)/\VR G2 I N w .ret (j5 vs) (if h:O xs=1 then xs[0]' V else .tuple xs.toArray):=by
 by_cases h1:O xs=1
 .obtain ⟨x,rfl⟩:=List.length_eq_one_iff.1 h1
  obtain ⟨v,rfl⟩:=List.length_eq_one_iff.1 (hl.symm.trans h1);obtain ⟨s,hv⟩:=h 0 v x rfl rfl;simp [j5]
  by_cases ho:∃z n c,v= .own z n c
  .obtain ⟨z,n,c,rfl⟩:=ho
   obtain ⟨G2,hm,hv2⟩:=kW (zh := .ret) U hv
   grind
  .exact ⟨.slot s,G,lM.refl _ _ _,U,by simpa using hv.Kk (λz n c e=>ho ⟨z,n,c,e⟩)⟩
 .refine ⟨.ret,G,lM.refl _ _ _,U,?_⟩
  rw [dif_neg h1];have e:j5 vs= .tuple (vs.map c7.F4):=by
   simp_all [j5]<;>grind
  rw [e];refine ⟨_,rfl,T9 _ _ (by simp [hl]) λj b v hj hv=>?_⟩;simp at hj hv;obtain ⟨b',hb',rfl⟩:=hj;obtain ⟨s,hs⟩:=h j b' v hb' hv;exact hs.F4
end
def jU (P:Program)(fn:Func)(af:q6):Bool :=
 match fn.body with
 |some c=>lP af.names&&decide (af.nparams<=O af.names)&&(af.names.take af.nparams==List.range af.nparams)&&decide (af.nparams<=fn.ntmps) &&
   aH P af.names fn.ntmps c af.body && gp P af.names fn.results.toList af.results && fn.name != "runtime.NumGoroutine"
 |none=>F
def OJ {P:Program}{A:Prog}(FL:∀f,A.idle f=W->Idle P f){cf:uS}{n:Nat}(Rh:qc P cf A.prom)(hcan:∀f args H lm r,cf f args H lm=J r->U1 P f=W)
  {f:FuncId} {fn:Func} {af:q6} (hf:P.funcs[f]? =J fn) (KW:jU P fn af=W) {args:List c7} {H:n9} {l:H8} {v:c7} {H1:n9} (hrun:jf A cf n af args H l=J (v,H1))
  {w:World} {G:Gh} {I:T0} {N:Nat->Prop} {H9:Array Value} (hpre:BB l H w G I N args H9) (hbase:af.cI=F->l.base=O H) :
  Calls P f H9 w λe w' =>∃x G' I' N',e= .returned x/\mW l H w G I N v H1 x w' G' I' N' :=by
 unfold jU at KW;cases hbody:fn.body with
 |none=>rw [hbody] at KW;cases KW
 |some c =>
  rw [hbody] at KW;simp only [Bool.and_eq_true,decide_eq_true_eq,beq_iff_eq] at KW;obtain ⟨⟨⟨⟨⟨⟨aJ6,hnp⟩,bb3⟩,hnt⟩,aY9⟩,hres⟩,_⟩:=KW;unfold jf at hrun;split at hrun
  next hlen=>
   have hvl:H9.size=O args:=by simpa using J5.length _ _ hpre.args
   have hstart:Cd P af.names ⟨cf,A.prom,A.mode,A.idle,l,O H⟩ fn.ntmps ⟨args++List.replicate (O af.names - O args) .any,H⟩ { tmps:=H9++Array.replicate (fn.ntmps - H9.size) undef,defers:=[] } w G I N:=by
    refine ⟨λs t ht=>?_,hpre.hr,hpre.wf,hpre.W9,?_,hpre.bY,o6 _,?_,U⟩
    .simp only
     by_cases hs:s<O args
     .have hst:t=s:=by
       have h1:(af.names.take af.nparams)[s]? =J t:=by rw [List.getElem?_take_of_lt V];exact ht
       rw [bb3,List.getElem?_range V] at h1;cases h1;rfl
      subst hst;obtain ⟨x,g1,g2⟩:=J5.get _ _ hpre.args t args[t] (n5 hs);have e1:(args++List.replicate (O af.names - O args) c7.any).getD t .any=args[t]:=by
       rw [List.getD,s8 hs,n5 hs];rfl
      have e2:(H9++Array.replicate (fn.ntmps - H9.size) undef).getD t undef=x:=by
       have hv:H9[t]? =J x:=by simpa using g1
       have hlt:t<H9.size:=Nat.lt_of_lt_of_eq hs hvl.symm;simp [Array.getElem?_append_left hlt,hv]
      rw [e1,e2];exact g2.place
     .have e1:(args++List.replicate (O af.names - O args) c7.any).getD s .any= .any:=by
       rw [List.getD,q9 V]
       rcases x9 (s - O args) (O af.names - O args) with h|h
       .simp [h]
       .rw [List.getElem?_eq_none (by simpa using h)];rfl
      rw [e1];simp [VR]
    .simp;omega
    .simp;omega
   have hE:Qx P ⟨cf,A.prom,A.mode,A.idle,l,O H⟩:=⟨Rh,hcan,hpre.strict,hpre.base⟩;refine calls_of_wp_defers hf hbody ?_;have fin:∀(st:St) (vs:List c7),bS st.T st.H af.results=J vs->finish af.cI (O H) vs st.H=J (v,H1)->∀a' w' G' I' N',Cd P af.names ⟨cf,A.prom,A.mode,A.idle,l,O H⟩ fn.ntmps st a' w' G' I' N' ->
     bw ⟨cf,A.prom,A.mode,A.idle,l,O H⟩ H w G I N st.H w' G' I' N' ->Leaves P fn a'.tmps (λe w' =>∃x G' I' N',e= .returned x/\mW l H w G I N v H1 x w' G' I' N') a'.defers .returning w' :=by
    intro st vs hvs xF a' w' G' I' N' hc hs;refine yX FL a'.defers w' hc.idle ?_;intro w'' bb7;have pG:=hc.same bb7;have hs2:=hs.same bb7;obtain ⟨xs,h1,h2,h3⟩:=RT pG fn.results.toList af.results vs hres hvs;refine ⟨_,Mc h1,(if h:O xs=1 then xs[0]' V else .tuple xs.toArray),?_⟩;obtain ⟨pl,G2,hm,AF,hv⟩:=aO8 (w:=w'') (G:=G') (I:=I') (N:=N') h2 h3;have Pg:Ext G w G2 w'' :=hs2.ext.trans hm.ext;have aA2:mX l G w G2 w'' :=hs2.ew.trans λid _=>⟨λb hb=>⟨hm.obj b id hb,rfl⟩,λoff=>hm.keeps _ (λe=>AF id off e.symm)⟩
    have hhr:HR G2 I' N' w'' st.H:=pG.H.LF hm AF;unfold finish at xF;split at xF
    .cases xF
     refine ⟨G2,I',N',rfl,hv,hhr,hm.wf pG.wf,Pg,aA2,λid hid hN=>hs2.inj id hid hN,λid hN=>hs2.mono id (hpre.bY id hN) hN,λid hid hN=>hs2.old id hid hN,pG.bY,hs2.hle,pG.W9⟩
    next yT=>
     have yT:af.cI=F:=by simpa using yT
     have hb:=hbase yT;split at xF
     next u hu=>
      split at xF
      next xE=>
       cases xF;obtain ⟨_,hfz⟩:=sB (n:=O H) hhr 1000000 _ _ hu;obtain ⟨b,e1,e2⟩:=hfz 0 _ .ret _ rfl hv;simp at e1;subst e1;have XN:=VR.low (O H) _ _ _ xE e2;have hlt:∀(id:Nat) o,(st.H.take (O H))[id]? =J o->id<O H/\st.H[id]? =J o:=by
        intro id o ho;have:id<O H:=by have:=y9 ho;simp at this;omega
        rw [List.getElem?_take_of_lt this] at ho;exact ⟨this,ho⟩
       refine ⟨freeze G2 (O H),I',λi=>N' i/\i<O H,rfl,XN,λid o ho=>?_,UQ (hm.wf pG.wf),Pg.trans uu,λid hid=>?_,λid hid hN=>hs2.inj id hid hN,λid hN=>⟨hs2.mono id (hpre.bY id hN) hN,hpre.bY id hN⟩,
        λid hid hN=>hs2.old id hid hN.1,λid hN=>?_,λid o' hid ho=>?_,λid o ho=>?_⟩
       .obtain ⟨h4,h5⟩:=hlt id o ho
        have AD:=(pG.W9 id o h5).2 (by simp only;omega);simp only at AD;exact OR.mono uu.sub (λ_ _=>rfl) (λ_ h=>h) id o (λhb=>⟨Cu h4 hb,rfl⟩) (λ_=>oF _) (OR.low h4 o V (hhr id o h5))
       .obtain ⟨p1,p2⟩:=aA2 id hid
        refine ⟨λb hb=>?_,λoff b m hb=>?_⟩
        .obtain ⟨q1,q2⟩:=p1 b hb
         exact ⟨Cu (hpre.mV b id hb) q1,q2⟩
        .obtain ⟨q1,q2⟩:=p2 off b m hb
         obtain ⟨q3,_⟩:=oF (w:=w'') (n:=O H) (.cell id off) b m q1;exact ⟨q3,q2⟩
       .have:=pG.bY id hN.1;simp;omega
       .obtain ⟨h4,h5⟩:=hlt id o' ho
        exact hs2.hle id o' hid h5
       .obtain ⟨h4,h5⟩:=hlt id o ho
        exact pG.W9 id o h5
      .cases xF
     .cases xF
   split at hrun
   .cases hrun
   next x st hne hex=>
    split at hrun
    next vs hvs=>
     refine OZ hE aJ6 n _ af.body c (Nat.lt_succ_self _) aY9 _ x st _ w G I N hex hstart _ ?_;intro a' w' G' I' N' hc hs;have:=fin st vs hvs hrun a' w' G' I' N' hc (hs H w G I N hpre.bJ6 (bw.refl _ _ _ _ _ _));cases x with
     |normal=>exact this
     |ret=>exact this
     |exit id=>exact absurd rfl (hne id)
    .cases hrun
   .cases hrun
  .cases hrun
def bu (P:Program)(prom:FuncId->Bool)(f:FuncId)(p:List c7->n9->H8->Option (c7×n9)):Prop :=
 U1 P f=W/\∀args H l v H1,p args H l=J (v,H1)->∀w G I N H9,BB l H w G I N args H9->(prom f=F->l.base=O H) ->
  Calls P f H9 w λe w' =>∃x G' I' N',e= .returned x/\mW l H w G I N v H1 x w' G' I' N'
structure qg (P:Program)(A:Prog):Prop where
 idle:∀f,A.idle f=W->Idle P f
 gQ:∀f p,A.gQ f=J p->bu P A.prom f p
 fn:∀f af,A.gQ f=K->A.fn f=J af->∃fn,P.funcs[f]? =J fn/\jU P fn af=W
def OL {P:Program}{f:FuncId}{fn:Func}{af:q6}(hf:P.funcs[f]? =J fn)(h:jU P fn af=W):U1 P f=W:=by
 grind [jU,U1]
theorem ot {P:Program}{A:Prog}(h:qg P A):∀n,qc P (call A n) A.prom/\∀f args H lm r,call A n f args H lm=J r->U1 P f=W
 |0=>⟨λf args H l v H1 hc=>by simp [call] at hc,λf args H lm r hc=>by simp [call] at hc⟩
 |n+1=>by
  obtain ⟨ih1,ih2⟩:=ot h n;refine ⟨λf args H l v H1 hc w G I N H9 hpre hb=>?_,λf args H lm r hc=>?_⟩
  .simp [call] at hc
   split at hc
   next p hp=>
    exact (h.gQ f p hp).2 args H l v H1 hc w G I N H9 hpre hb
   next hp=>
    split at hc
    next af haf=>
     obtain ⟨fn,h1,h2⟩:=h.fn f af hp haf;exact OJ h.idle ih1 ih2 h1 h2 hc hpre (λmL=>hb (by simp_all [Prog.prom]))
    .cases hc
  .simp [call] at hc
   split at hc
   next p hp=>
    exact (h.gQ f p hp).1
   next hp=>
    split at hc
    next af haf=>
     obtain ⟨fn,h1,h2⟩:=h.fn f af hp haf;exact OL h1 h2
    .cases hc
end Go.B3
namespace Go.B3
variable [E0]
def kr (o:Oper):Bool:=match o.op with
 | .call ⟨.builtin .recover,args,_⟩=>args.isEmpty&&o.guard.isNone
 |_=>F
def IT (P:Program)(d:Option Tmp)(o:Oper):Bool:=match o.op with
 | .binOp .neq t (.tmp x) (.const .nilIface) _=>d==J x&&o.guard.isNone&&(match P.underlying t with
  |some (.interface _)=>W
  |_=>F)
 |_=>F
def eS (P:Program)(fn:Func):Bool :=
 fn.name != "runtime.NumGoroutine" && fn.results.isEmpty && (match fn.body with
 |some (.region _ ops F)=>(match ops.toList with
  |[o]=>kr o
  |_=>F)
 |some (.seq (.region _ ops F) (.cond (.tmp c) _ .skip))=>(match ops.toList with
  |[o1,o2]=>kr o1&&IT P o1.dst o2&&o2.dst==J c&&(match o1.dst with
   |some d=>decide (d<fn.ntmps)&&decide (c<fn.ntmps)
   |none=>F)
  |_=>F)
 |_=>F)
def zl {P:Program}{o:Oper}(h:kr o=W)(a:Act)(w:World):(execOp a.eval o).run P w= .ok .recover w:=by
 unfold kr at h;split at h
 next args argTypes hop=>
  obtain ⟨dst,er,ty,pos,after,guard⟩:=o;simp only at hop;subst hop;simp [execOp,resolve,invoke,builtin]
 .cases h
def qP {o:Oper}(h:kr o=W)(y:Nat->Option Bool):Region.wanted o y=W:=by
 unfold kr at h;split at h
 .simp only [Bool.and_eq_true] at h
  have:o.guard=K:=by simpa using h.2
  simp [Region.wanted,this]
 .cases h
def aa5 {P:Program}{o:Oper}{d:Option Tmp}(h:IT P d o=W)(a:Act)(w:World)(ha:∀x,d=J x->a.tmps.getD x undef= .nilIface):(execOp a.eval o).run P w= .ok (.value (.bool F)) w:=by
 unfold IT at h;split at h
 next t x yt hop=>
  simp only [Bool.and_eq_true,beq_iff_eq] at h;obtain ⟨⟨h1,h2⟩,h3⟩:=h;obtain ⟨dst,er,ty,pos,after,guard⟩:=o;simp only at hop;subst hop;have hx:a.eval (.tmp x)= .nilIface:=by simp only [Act.eval];exact ha x h1
  split at h3
  next ms hu=>
   have h1:(execOp a.eval (⟨dst,.binOp .neq t (.tmp x) (.const .nilIface) yt,ty,pos,after,guard⟩:Oper)).run P w= .ok (.value (.bool F)) w:=by
    simp only [execOp,hx];have hc:a.eval (.const .nilIface)= .nilIface:=rfl;rw [hc];simp only [eqGuard,binOp];simp [EU hu]
   exact h1
  .cases h3
 .cases h
def bf {P:Program}{f:FuncId}{fn:Func}(hf:P.funcs[f]? =J fn)(h:eS P fn=W):Idle P f:=by
 unfold eS at h;simp only [Bool.and_eq_true] at h;obtain ⟨⟨hname,hres⟩,h⟩:=h;have ba6 :fn.results= #[]:=by simpa using hres
 have hrun:∀tmps w,(results fn tmps).run P w= .ok (.tuple #[]) w:=by
  intro tmps w;simp [results,ba6]
 have az7:∀(c₀:Frame) (cs:List Frame),c₀.mode= .returning->recoverD (c₀::cs)=K:=by
  intro c₀ cs hm;simp [recoverD,hm]
 split at h
 next id ops hb=>
  refine ⟨by simp only [U1,hf,hb];simpa using hname,λargs w=>?_⟩;refine callsD_of_wpS hf hb ?_;intro c₀ cs hm;split at h
  next o ho=>
   have XR:ops= #[o]:=by apply Array.toList_inj.1;simpa using ho
   subst XR;refine wpS_region ?_;have AE:(#[o]:Array Oper)[0]? =J o:=rfl;show wpOpsS P #[o] _ [0] _ _ _
   simp only [wpOpsS,AE,qP h,if_true,zl h,az7 c₀ cs hm];refine ⟨by rw [ox],.returning,?_,.tuple #[],hrun _ _,⟨_,rfl⟩,rfl,jb.refl _⟩;cases c₀;simp only at hm;subst hm;rfl
  .cases h
 next id ops c thn hb=>
  refine ⟨by simp only [U1,hf,hb];simpa using hname,λargs w=>?_⟩;refine callsD_of_wpS hf hb ?_;intro c₀ cs hm;split at h
  next o1 o2 ho=>
   have XR:ops= #[o1,o2]:=by apply Array.toList_inj.1;simpa using ho
   subst XR;simp only [Bool.and_eq_true,beq_iff_eq] at h;obtain ⟨⟨⟨h1,h2⟩,h3⟩,h4⟩:=h;cases hd:o1.dst with
   |none=>rw [hd] at h4;cases h4
   |some d =>
    rw [hd] at h4;simp only [Bool.and_eq_true,decide_eq_true_eq] at h4;refine wpS_seq (wpS_region ?_);have Wq:(#[o1,o2]:Array Oper)[0]? =J o1:=rfl;have hg1:(#[o1,o2]:Array Oper)[1]? =J o2:=rfl;show wpOpsS P #[o1,o2] _ [0,1] _ _ _
    simp only [wpOpsS,Wq,hg1,qP h1,if_true,zl h1,az7 c₀ cs hm];have XX:∀y,Region.wanted o2 y=W:=by
     intro y;unfold IT at h2;split at h2
     .simp only [Bool.and_eq_true] at h2
      have:o2.guard=K:=by simpa using h2.1.2
      simp [Region.wanted,this]
     .cases h2
    have hlt:d<(args++Array.replicate (fn.ntmps - args.size) undef).size:=Nat.lt_of_lt_of_le h4.1 D;have hlt2:c<(args++Array.replicate (fn.ntmps - args.size) undef).size:=Nat.lt_of_lt_of_le h4.2 D;have Va:=λa hh=>aa5 (P:=P) h2 a w hh
    simp only [XX,if_true];rw [Va _ (by
     intro x hx;rw [hd] at hx;cases hx;rw [hd];exact ct hlt)]
    simp only [Oper.upon,Exit.thenS];refine wpS_cond (t:=F) ?_ ?_
    .rw [h3]
     simp only [Act.eval];exact ct (by rw [size_put];exact hlt2)
    .refine wpS_of_wp (wp_skip ?_)
     refine ⟨by rw [ox,ox],.returning,?_,.tuple #[],hrun _ _,⟨_,rfl⟩,rfl,jb.refl _⟩;cases c₀;simp only at hm;subst hm;rfl
  .cases h
 .cases h
end Go.B3
namespace Go.B3
variable [E0]
mutual
def IF:Data->Data->Bool
 | .bool a,.bool b=>a==b
 | .int k a,.int k' b=>k==k' &&a==b
 | .str a,.str b=>a==b
 | .slice n xs,.slice m ys=>n==m&&xz xs ys
 | .cZ,.cZ=>W
 | .P5,.P5=>W
 | .dV,.dV=>W
 | .nilIface,.nilIface=>W
 |_,_=>F
def xz:List Data->List Data->Bool
 |[],[]=>W
 |x::xs,y::ys=>IF x y&&xz xs ys
 |_,_=>F
end
mutual
theorem FH:∀(a b:Data),IF a b=W->a=b
 | .slice n xs,b,h=>by
  cases b<;>simp [IF,Bool.and_eq_true,beq_iff_eq,e8] at h;rw [h.1,Cl _ _ h.2]
 | .bool _,b,h| .int _ _,b,h| .str _,b,h| .cZ,b,h| .P5,b,h| .dV,b,h| .nilIface,b,h=>by cases b<;>simp_all [IF]
theorem Cl:∀(a b:List Data),xz a b=W->a=b
 |[],[],_=>rfl
 |x::xs,y::ys,h=>by
  simp [xz,Bool.and_eq_true] at h;rw [FH x y h.1,Cl xs ys h.2]
 |[],_::_,h=>by simp [xz] at h
 |_::_,[],h=>by simp [xz] at h
end
def eqC:c7->c7->Bool
 | .d x,.d y=>IF x y
 |_,_=>F
def UN:List c7->List c7->Bool
 |[],[]=>W
 |x::xs,y::ys=>eqC x y&&UN xs ys
 |_,_=>F
def eqA:c7->c7->Bool
 | .agg l,.agg m=>UN l m
 |a,b=>eqC a b
def UM:List c7->List c7->Bool
 |[],[]=>W
 |x::xs,y::ys=>eqA x y&&UM xs ys
 |_,_=>F
theorem FG {a b:c7}(h:eqC a b=W):a=b:=by
 unfold eqC at h
 grind [FH]
theorem Ck:∀(a b:List c7),UN a b=W->a=b
 |[],[],_=>rfl
 |x::xs,y::ys,h=>by
  simp [UN,Bool.and_eq_true] at h;rw [FG h.1,Ck xs ys h.2]
 |[],_::_,h=>by simp [UN] at h
 |_::_,[],h=>by simp [UN] at h
def UL {a b:c7}(h:eqA a b=W):a=b:=by
 unfold eqA at h
 grind [Ck,FG]
theorem Cj:∀(a b:List c7),UM a b=W->a=b
 |[],[],_=>rfl
 |x::xs,y::ys,h=>by
  simp [UM,Bool.and_eq_true] at h;rw [UL h.1,Cj xs ys h.2]
 |[],_::_,h=>by simp [UM] at h
 |_::_,[],h=>by simp [UM] at h
structure Ic where
 f:FuncId
 args:List c7
 res:c7
def Q9:H8:=⟨0,0,0,0⟩
def H8.isZero (l:H8):Bool:=l.Xw==0&&l.Xo==0&&l.base==0&&l.strict==0
theorem IU {l:H8}(h:l.isZero=W):l=Q9:=by
 obtain ⟨a,b,c,d⟩:=l;simp [H8.isZero] at h;obtain ⟨⟨⟨rfl,rfl⟩,rfl⟩,rfl⟩:=h;rfl
def look (f:FuncId)(args:List c7):List Ic->Option c7
 |[]=>K
 |e::es=>if e.f==f&&UM e.args args then J e.res else look f args es
theorem CG {f:FuncId}{args:List c7}{v:c7}:∀(es:List Ic),look f args es=J v->∃e,e∈es/\e.f=f/\e.args=args/\e.res=v
 |[],h=>by simp [look] at h
 |e::es,h=>by
  unfold look at h;split at h
  .grind [Cj]
  .obtain ⟨e',h1,h2⟩:=CG es h
   grind
def memo (A:Prog)(es:List Ic):Prog :=
 ⟨A.fn,A.idle,A.mode,λf=>if es.any (λe=>e.f==f) then J (λargs H l=>if H.isEmpty&&l.isZero then (match look f args es with
  |some v=>J (v,[])
  |none=>K) else K) else A.gQ f⟩
end Go.B3
namespace Go.B3
variable [E0]
structure Kept (w w' :World):Prop where
 os:w'.os=w.os
 output:w'.output=w.output
 size:w.heap.size<=w'.heap.size
 old:∀b:Nat,b<w.heap.size->w'.heap[b]? =w.heap[b]?
def Kept.but {w w' :World}(h:Kept w w')(may:MemPlace->Prop):w.keptBut w' may:=by
 refine ⟨h.os,h.output,λi hi=>?_⟩;rw [h.old i hi];split
 next qF lK=>
  rw [qF] at lK;cases lK;exact ⟨rfl,rfl,rfl,λ_ _=>rfl⟩
 next qF lK=>
  rw [qF] at lK;cases lK;exact Or.inr ⟨rfl,rfl⟩
 .rfl
theorem Kept.frozen {w w' :World}(h:Kept w w'){a:Addr}(ha:a.block<w.heap.size):w'.frozen? a=w.frozen? a:=by
 simp [World.frozen?,h.old a.block ha]
def G0 (w:World):Gh:=λb=>if b<w.heap.size then .mM else .free
def Vi {P:Program}{A:Prog}(h:qg P A){n:Nat}{f:FuncId}{args:List c7}{H9:Array Value}{w:World}(hc:call A n f args [] Q9=J (.d (.bool W),[]))
  (hargs:J5 (G0 w) (λ_=>(0,0)) (λ_=>False) w args H9.toList):Calls P f H9 w λe w' =>e= .returned (.bool W)/\Kept w w' :=by
 have hpre:BB Q9 [] w (G0 w) (λ_=>(0,0)) (λ_=>False) args H9:=by
  refine ⟨hargs,?_,?_,?_,?_,o6 _,o6 _,?_,λ_ b n pl hb=>by simp [G0] at hb;split at hb<;>cases hb⟩
  .intro id o ho;simp at ho
  .intro b hb;simp only [G0];rw [if_neg V]
  .intro id hid;exact hid.elim
  .intro id o ho;simp at ho
  .intro b id hb
   simp [G0] at hb;split at hb<;>cases hb
 refine Calls.mono ((ot h n).1 f args [] Q9 _ _ hc w _ _ _ H9 hpre (λ_=>rfl)) ?_;rintro e w' ⟨x,G',I',N',rfl,hp⟩;have hx:=hp.val;subst hx;refine ⟨rfl,hp.ext.os,hp.ext.output,hp.ext.size,λb hb=>?_⟩;refine (hp.ext.still b (Or.inl ?_)).2;simp only [G0];rw [if_pos hb]
def Iq {A:Prog}{n:Nat}{f:FuncId}{af:q6}{args:List c7}{H:n9}{l:H8}(hp:A.gQ f=K)(hf:A.fn f=J af):call A (n+1) f args H l=jf A (call A n) n af args H l:=by
 simp [call,hp,hf]
def aZ (af:q6)(n:Nat)(o:Option (E6×St)):Option (c7×n9):=match o with
 |some (.exit _,_)=>K
 |some (_,st)=>(match bS st.T st.H af.results with
  |some vs=>finish af.cI n vs st.H
  |none=>K)
 |none=>K
def uX {A:Prog}{cf:uS}{n:Nat}{af:q6}{args:List c7}{H:n9}{l:H8}(h:O args=af.nparams) :
  jf A cf n af args H l=aZ af (O H) (exec ⟨cf,A.prom,A.mode,A.idle,l,O H⟩ n af.body ⟨args++List.replicate (O af.names - O args) .any,H⟩):=by
 unfold jf aZ;rw [if_pos h];rfl
section
variable {H:Type} {enc:TypeId×Value->H} {P:Program}
open Go.ChangeShapes Go.WideShapes
def VA {f:Func}{s:ChangeSpec}{apart fresh handsOn again:Bool}{d8 W' :World}{args:Array Value}{v:Value}{ds gs:List (DataW H)}{before pa pv:List MemPlace}
  (hW:DataW.Whole enc P f.params.toList s.vars apart d8 args.toList ds gs before) (hK:Kept d8 W')
  (hres:∀(b:Nat) (sp:Nat->Bool) (hd:Bool),DataW.TrodAll enc P W' b sp hd f.resultTypes.toList (v.resultList f.resultTypes.size) (s.fn H (ds++gs)).results [])
  (hargs:∀sp:Nat->Bool,(∀p∈before,sp p.block=W)->DataW.TrodAll enc P W' 0 sp W f.params.toList args.toList (s.fn H (ds++gs)).args pa)
  (hvars:∀sp:Nat->Bool,(∀p∈before,sp p.block=W)->DataW.TrodVars enc P W' sp s.vars (s.fn H (ds++gs)).vars pv)
  (hps:before=pa++pv)
  (hok:∀(j:Nat) (t:TypeId) (r:Value),f.resultTypes[j]? =J t->(v.resultList f.resultTypes.size)[j]? =J r->Value.okWide P W' .any 0 t r) :
  s.post enc P f apart fresh handsOn again d8 args v W' :=by
 have hlt:=hW.lt;have hin:∀p,p∈pa++pv->p∈before:=λp hp=>by rw [hps];exact hp
 refine ⟨ds,gs,before,[],pa,pv,hW,hres _ _ _,hargs _ (λp hp=>by simpa using hlt p hp),hvars _ (λp hp=>by simpa using hlt p hp),World.keptBut_mono (λp hp=>⟨hp,?_⟩) (hK.but _),λ_=>?_⟩
 .rw [hps,List.mem_append] at hp
  exact Or.inr hp
 .obtain ⟨_,_,_,_,_,hz,hn⟩:=hW
  refine ⟨hok,_,_,([]++pa)++pv,⟨[]++pa,pv,trodAll_append (hargs _ (λ_ _=>rfl)) (hres _ _ _),hvars _ (λ_ _=>rfl),rfl,λb off hp=>?_,λha=>?_⟩,λp hp _=>?_⟩
  .have hb:=hin _ (by simpa using hp)
   rw [hK.frozen (hlt _ hb)];exact hz b off hb
  .have:=hn ha
   rw [hps] at this;simpa using this
  .exact hin p (by simpa using hp)
end
end Go.B3
namespace Go.B3
instance:E0:=⟨False⟩
inductive CT where
 |bool
 |int (k:IntKind)
 |str
 |slice (e:List CT)
mutual
def Fits:CT->Data->Prop
 | .bool,d=>∃b,d= .bool b
 | .int k,d=>∃n,d= .int k n/\(Lit.int k n).wf=W
 | .str,d=>∃s:List UInt8,d= .str s/\O s<=maxLen
 | .slice e,d=>∃rows:List (List Data),d= .slice (O rows) rows.flatten/\O rows<=maxLen/\∀r,r∈rows->Z6 e r
def Z6:List CT->List Data->Prop
 |[],ds=>ds=[]
 |c::cs,ds=>∃d r,ds=d::r/\Fits c d/\Z6 cs r
end
theorem Z6.length:∀(l:List CT) (ds:List Data),Z6 l ds->O ds=O l
 |[],ds,h=>by simp_all [Z6]
 |c::cs,ds,h=>by
  obtain ⟨d,r,rfl,_,h3⟩:=h;simp [Z6.length cs r h3]
theorem od:∀{l m:List CT} {ds es:List Data},Z6 l ds->Z6 m es->Z6 (l++m) (ds++es)
 |[],m,ds,es,h,k=>by simp_all [Z6]
 |c::cs,m,ds,es,h,k=>by
  obtain ⟨d,r,rfl,h2,h3⟩:=h;exact ⟨d,r++es,rfl,h2,od h3 k⟩
def WI (a:Addr)(m n:Nat):a.add (m+n)=(a.add m).add n:=by
 grind [Addr.add,M9]
def OB (P:Program)(lay:TypeId->List CT->Bool):List Field->Nat->List CT->Bool
 |[],_,l=>l.isEmpty
 |f::fs,o,l=>f.offset==o&&decide (P.cellsOf f.type<=O l)&&lay f.type (l.take (P.cellsOf f.type))&&OB P lay fs (o+P.cellsOf f.type) (l.drop (P.cellsOf f.type))
def Un (lay:List CT->Bool)(c:Nat):Nat->List CT->Bool
 |0,l=>l.isEmpty
 |m+1,l=>decide (c<=O l)&&lay (l.take c)&&Un lay c m (l.drop c)
def Lay (P:Program):Nat->TypeId->List CT->Bool
 |0,_,_=>F
 |n+1,t,l=>match P.underlying t with
  |some .bool=>(match l with
   |[.bool]=>W
   |_=>F)
  |some (.int k)=>(match l with
   |[.int k']=>k==k'
   |_=>F)
  |some .string=>(match l with
   |[.str]=>W
   |_=>F)
  |some (.slice e)=>(match l with
   |[.slice le]=>Lay P n e le&&P.cellsOf e==O le&&decide (0<O le)
   |_=>F)
  |some (.struct fs)=>P.cellsOf t==O l&&OB P (Lay P n) fs.toList 0 l
  |some (.array m e)=>P.cellsOf t==O l&&Un (Lay P n e) (P.cellsOf e) m l
  |_=>F
abbrev I0:T0:=λ_=>(0,0)
abbrev N0:Nat->Prop:=λ_=>False
theorem Kept.cell {w w' :World}(h:Kept w w'){a:Addr}{v:Value}(hv:w.cell? a=J v):w'.cell? a=J v:=by
 have:a.block<w.heap.size:=by
  grind [x9,World.cell?,Array.getElem?_eq_none]
 have e:w'.cell? a=w.cell? a:=by
  unfold World.cell?;rw [h.old _ this]
 simp_all
theorem ku {α β:Type}{f g:α->Option β}:∀{l:List α} {ys:List β},(∀x y,x∈l->y∈ys->f x=J y->g x=J y)->l.mapM f=J ys->l.mapM g=J ys
 |[],ys,_,h=>by simpa using h
 |x::xs,ys,hfg,h=>by
  rw [List.mapM_cons] at h ⊢;cases hf:f x with
  |none=>simp_all
  |some y =>
   rw [hf] at h;cases hr:xs.mapM f with
   |none=>simp_all
   |some r =>
    simp [hr] at h;subst h;rw [hfg x y U U hf,ku (λa b ha hb=>hfg a b (by simp [ha]) (by simp [hb])) hr];rfl
theorem jV {α β:Type}{f:α->Option β}:∀{l:List α} {ys:List β},l.mapM f=J ys->O ys=O l/\∀(i:Nat) x,l[i]? =J x->∃y,ys[i]? =J y/\f x=J y
 |[],ys,h=>M
 |x::xs,ys,h=>by
  rw [List.mapM_cons] at h;cases hf:f x with
  |none=>simp_all
  |some y =>
   rw [hf] at h;cases hr:xs.mapM f with
   |none=>simp_all
   |some r =>
    simp  at h;obtain ⟨h1,h2⟩:=jV hr
    grind
theorem Kept.cells {w w' :World}(h:Kept w w'){base:Nat}{a:Addr}{n:Nat}{cs:List Value}(hc:w.cells? base a n=J cs):w'.cells? base a n=J cs:=by
 unfold World.cells? at hc ⊢;split at hc
 next hb=>
  rw [if_pos hb];exact ku (λx y _ _ hx=>h.cell hx) hc
 .cases hc
section
variable {H:Type} {enc:TypeId×Value->H} {P:Program} {w:World} {base:Nat} {spare:Nat->Bool} {held:Bool}
theorem trod_bool {t:TypeId}{fuel:Nat}{cs:List Value}{x:DataW H×List MemPlace}(hu:P.underlying t=J .bool)(h:DataW.trod enc P w base spare held (fuel+1) t cs=J x):∃b,cs=[.bool b]/\x=(.lit (.bool b),[]):=by
 unfold DataW.trod at h
 grind
theorem trod_int {t:TypeId}{k:IntKind}{fuel:Nat}{cs:List Value}{x:DataW H×List MemPlace}(hu:P.underlying t=J (.int k))(h:DataW.trod enc P w base spare held (fuel+1) t cs=J x):∃n,cs=[.int k n]/\(Lit.int k n).wf=W/\x=(.lit (.int k n),[]):=by
 unfold DataW.trod at h
 grind
theorem DM {t:TypeId}{fuel:Nat}{cs:List Value}{x:DataW H×List MemPlace}(hu:P.underlying t=J .string)(h:DataW.trod enc P w base spare held (fuel+1) t cs=J x):∃s:ByteArray,cs=[.string s]/\s.size<=maxLen/\x=(.lit (.string s.data.toList),[]):=by
 unfold DataW.trod at h
 grind
def trod_slice {t e:TypeId}{fuel:Nat}{cs:List Value}{x:DataW H×List MemPlace}(hu:P.underlying t=J (.slice e))(h:DataW.trod enc P w base spare held (fuel+1) t cs=J x) :
  (cs=[.slice K 0 0]/\x=(.nil,[]))\/∃a len cap,cs=[.slice (J a) len cap]/\base<=a.block/\len<=cap/\cap<=maxLen /\
   (∃elems,((List.range len).mapM λi=>(w.cells? base (a.add (i * P.cellsOf e)) (P.cellsOf e)).bind (DataW.trod enc P w base spare held fuel e))=J elems) /\
   (spare a.block=W->∃rest,((List.range (cap - len)).mapM λj=>(w.cells? base (a.add ((len+j) * P.cellsOf e)) (P.cellsOf e)).bind (DataW.trod enc P w base spare held fuel e))=J rest):=by
 unfold DataW.trod at h;rw [hu] at h
 match cs,h with
 |[],h=>cases h
 |[v],h =>
  cases v<;>try (cases h)
  rename_i o len cap;cases o with
  |none =>
   cases len with
   |zero =>
    cases cap with
    |zero=>simp_all
    |succ c=>cases h
   |succ n=>cases h
  |some a =>
   simp only at h;split at h
   next hc=>
    refine Or.inr ⟨a,len,cap,rfl,hc.1,hc.2.1,hc.2.2,?_⟩;cases hm:(List.range len).mapM λi=>(w.cells? base (a.add (i * P.cellsOf e)) (P.cellsOf e)).bind (DataW.trod enc P w base spare held fuel e) with
    |none=>simp_all
    |some elems =>
     refine ⟨⟨elems,rfl⟩,λhs=>?_⟩;cases hr:(List.range (cap - len)).mapM λj=>(w.cells? base (a.add ((len+j) * P.cellsOf e)) (P.cellsOf e)).bind (DataW.trod enc P w base spare held fuel e) with
     |none=>simp_all
     |some rest=>simp_all
   .cases h
 |v::_::_,h=>simp_all
def trod_array {t e:TypeId}{m:Nat}{fuel:Nat}{cs:List Value}{x:DataW H×List MemPlace}(hu:P.underlying t=J (.array m e))(h:DataW.trod enc P w base spare held (fuel+1) t cs=J x) :
  O cs=P.cellsOf t/\∃xs,((List.range m).mapM λi=>DataW.trod enc P w base spare held fuel e ((cs.drop (i * P.cellsOf e)).take (P.cellsOf e)))=J xs/\x=(.agg (xs.map (·.1)),xs.flatMap (·.2)):=by
 simp_all [DataW.trod]<;>grind
def trod_struct {t:TypeId}{fs:Array Field}{fuel:Nat}{cs:List Value}{x:DataW H×List MemPlace}(hu:P.underlying t=J (.struct fs))(h:DataW.trod enc P w base spare held (fuel+1) t cs=J x) :
  O cs=P.cellsOf t/\∃xs,(fs.toList.mapM λf=>DataW.trod enc P w base spare held fuel f.type ((cs.drop f.offset).take (P.cellsOf f.type)))=J xs/\x=(.agg (xs.map (·.1)),xs.flatMap (·.2)):=by
 simp_all [DataW.trod]<;>grind
abbrev Cells (w:World)(ds:List Data)(cs:List Value):Prop:=J5 (G0 w) I0 N0 w (ds.map .d) cs
theorem Cells.append {ds es:List Data}{cs fs:List Value}(h:Cells w ds cs)(k:Cells w es fs):Cells w (ds++es) (cs++fs):=by
 simp_all [Cells,List.map_append,ua]
theorem aF9 {b o:Nat}{v:Value}(h:w.cell? (ad b o)=J v):jS (G0 w) b o:=by
 grind [x9,World.cell?,Array.getElem?_eq_none,jS,G0]
def Zf (hspare:∀b,spare b=W):∀(n:Nat) (t:TypeId) (l:List CT),Lay P n t l=W->∀(fuel:Nat) (cs:List Value) (x:DataW H×List MemPlace),DataW.trod enc P w base spare held fuel t cs=J x->∃ds,Z6 l ds/\Cells w ds cs:=by
 intro n
 induction n with
 |zero=>simp_all [Lay]
 |succ n ih =>
  intro t l hL fuel cs x h;cases fuel with
  |zero=>simp [DataW.trod] at h
  |succ fuel =>
   unfold Lay at hL;split at hL
   next hu=>
    split at hL
    .obtain ⟨b,rfl,_⟩:=trod_bool hu h
     exact ⟨[.bool b],by simp [Z6,Fits],by simp [Cells,J5,VR,DR]⟩
    .cases hL
   next k hu=>
    split at hL
    next k'=>
     have:k=k' :=M
     subst this;obtain ⟨m,rfl,hw,_⟩:=trod_int hu h;exact ⟨[.int k m],by simp_all [Z6,Fits],by simp [Cells,J5,VR,DR]⟩
    .cases hL
   next hu=>
    split at hL
    .obtain ⟨s,rfl,hs,_⟩:=DM hu h
     refine ⟨[.str s.data.toList],?_,by simp [Cells,J5,VR,DR]⟩;simp_all [Z6,Fits]
    .cases hL
   next e hu=>
    split at hL
    next le=>
     simp only [Bool.and_eq_true,beq_iff_eq,decide_eq_true_eq] at hL;obtain ⟨⟨hLe,hce⟩,hpos⟩:=hL
     rcases trod_slice hu h with ⟨rfl,_⟩|⟨a,len,cap,rfl,hb,hlc,hcm,⟨elems,hel⟩,vD⟩
     .refine ⟨[.slice 0 []],?_,by simp [Cells,J5,VR,DR]⟩
      simp only [Z6,Fits];exact ⟨_,_,rfl,⟨[],rfl,U,U⟩,rfl⟩
     ·
      obtain ⟨hl1,sC⟩:=jV hel;have rows:∀m,m<=len->∃rows:List (List Data),O rows=m/\(∀r,r∈rows->Z6 le r)/\(∀(j:Nat) d,rows.flatten[j]? =J d->∃v,w.cell? (a.add j)=J v/\DR (G0 w) w d v):=by
       intro m
       induction m with
       |zero=>simp_all
       |succ m ihm =>
        intro hm;obtain ⟨rows,r1,r2,r3⟩:=ihm V;obtain ⟨y,_,hy⟩:=sC m m (List.getElem?_range V);cases hcell:w.cells? base (a.add (m * P.cellsOf e)) (P.cellsOf e) with
        |none=>simp_all
        |some ces =>
         rw [hcell] at hy;simp only [Option.bind_some] at hy;obtain ⟨ds,f1,f2⟩:=ih e le hLe fuel ces y hy;have hds:O ds=O le:=Z6.length _ _ f1;have Rj:O rows.flatten=m * O le:=by
          rw [List.length_flatten];have:∀q,q∈rows.map List.length->q=O le:=by
           grind [Z6.length]
          have bH9:rows.map List.length=List.replicate m (O le):=by
           rw [List.eq_replicate_iff]
           grind
          rw [bH9];simp
         refine ⟨rows++[ds],by simp [r1],?_,?_⟩
         .grind
         .intro j d hj
          rw [List.flatten_append] at hj;simp only [List.flatten_cons,List.flatten_nil,List.append_nil] at hj
          by_cases hjl:j<O rows.flatten
          .grind
          .rw [q9 V] at hj
           have EC:=y9 hj;unfold World.cells? at hcell;split at hcell
           .obtain ⟨c1,c2⟩:=jV hcell
            obtain ⟨v,v1,v2⟩:=c2 (j - O rows.flatten) (j - O rows.flatten) (List.getElem?_range V);have bF2:(a.add (m * P.cellsOf e)).add (j - O rows.flatten)=a.add j:=by
             rw [<- WI];simp_all
            rw [bF2] at v2;obtain ⟨v',w1,w2⟩:=J5.get _ _ f2 (j - O rows.flatten) (.d d) M;simp_all [VR]
           .cases hcell
      obtain ⟨rows,r1,r2,r3⟩:=rows len (o6 _);refine ⟨[.slice (O rows) rows.flatten],?_,?_⟩
      .grind [Z6,Fits]
      .simp only [Cells,M8,List.map_nil,J5,VR]
       refine ⟨_,_,rfl,?_,rfl⟩;simp only [DR]
       by_cases hcap:cap=0
       .simp_all
       ·
        have aJ0:∃ces,w.cells? base (a.add 0) (P.cellsOf e)=J ces:=by
         by_cases hl0:len=0
         .obtain ⟨rest,hr⟩:=vD (hspare _)
          obtain ⟨_,c2⟩:=jV hr;obtain ⟨y,_,hy⟩:=c2 0 0 (by grind);rw [hl0] at hy;simp only [Nat.zero_add,Nat.zero_mul] at hy;cases Pc:w.cells? base (a.add 0) (P.cellsOf e) with
          |none=>simp_all
          |some ces=>simp_all
         .obtain ⟨y,_,hy⟩:=sC 0 0 (by grind)
          simp only [Nat.zero_mul] at hy;cases Pc:w.cells? base (a.add 0) (P.cellsOf e) with
          |none=>simp_all
          |some ces=>simp_all
        obtain ⟨ces,am6⟩:=aJ0;have hcell:∃v,w.cell? a=J v:=by
         unfold World.cells? at am6;split at am6
         .obtain ⟨_,c2⟩:=jV am6
          obtain ⟨v,_,hv⟩:=c2 0 0 M;simp_all [Addr.add]
         .cases am6
        obtain ⟨v,hv⟩:=hcell;have ha:a=ad a.block a.off:=by
         obtain ⟨b,o,sp⟩:=a;cases sp with
         |none=>rfl
         |some q =>
          grind [World.cell?]
        grind [BD,aX,aF9]
    .cases hL
   next fs hu=>
    simp only [Bool.and_eq_true,beq_iff_eq] at hL;obtain ⟨hlen,xs,hxs,_⟩:=trod_struct hu h;have fields:∀(fl:List Field) (o:Nat) (l:List CT) (ys:List (DataW H×List MemPlace)),OB P (Lay P n) fl o l=W->(fl.mapM λf=>DataW.trod enc P w base spare held fuel f.type ((cs.drop f.offset).take (P.cellsOf f.type)))=J ys->O (cs.drop o)=O l ->
      ∃ds,Z6 l ds/\Cells w ds (cs.drop o):=by
     intro fl
     induction fl with
     |nil =>
      simp_all [OB,Z6,Cells,J5]<;>omega
     |cons f fl ihf =>
      intro o l ys hl hm hlen;simp only [OB,Bool.and_eq_true,beq_iff_eq,decide_eq_true_eq] at hl;obtain ⟨⟨⟨ho,hle⟩,UW⟩,vD⟩:=hl;rw [List.mapM_cons] at hm;cases hf:DataW.trod enc P w base spare held fuel f.type ((cs.drop f.offset).take (P.cellsOf f.type)) with
      |none=>simp_all
      |some y =>
       rw [hf] at hm;cases hr:fl.mapM λf=>DataW.trod enc P w base spare held fuel f.type ((cs.drop f.offset).take (P.cellsOf f.type)) with
       |none=>simp_all
       |some r =>
        rw [ho] at hf;obtain ⟨d1,a1,a2⟩:=ih f.type _ UW fuel _ y hf;obtain ⟨d2,b1,b2⟩:=ihf (o+P.cellsOf f.type) (l.drop (P.cellsOf f.type)) r vD hr (by grind);refine ⟨d1++d2,?_,?_⟩
        .grind [List.take_append_drop,od]
        .have:cs.drop o=(cs.drop o).take (P.cellsOf f.type)++cs.drop (o+P.cellsOf f.type):=by
          rw [<- List.drop_drop,List.take_append_drop]
         rw [this];exact a2.append b2
    grind
   next m e hu=>
    simp only [Bool.and_eq_true,beq_iff_eq] at hL;obtain ⟨hlen,xs,hxs,_⟩:=trod_array hu h;obtain ⟨_,hat⟩:=jV hxs;have elems:∀(q k:Nat) (l:List CT),k+q=m->Un (Lay P n e) (P.cellsOf e) q l=W->O (cs.drop (k * P.cellsOf e))=O l->∃ds,Z6 l ds/\Cells w ds (cs.drop (k * P.cellsOf e)):=by
     intro q
     induction q with
     |zero =>
      simp_all [Un,Z6,Cells,J5]<;>omega
     |succ q ihq =>
      intro k l hkq hl hlen;simp only [Un,Bool.and_eq_true,decide_eq_true_eq] at hl;obtain ⟨⟨hle,UW⟩,vD⟩:=hl;obtain ⟨y,_,hy⟩:=hat k k (by grind);obtain ⟨d1,a1,a2⟩:=ih e _ UW fuel _ y hy;obtain ⟨d2,b1,b2⟩:=ihq (k+1) (l.drop (P.cellsOf e)) V vD (by grind);refine ⟨d1++d2,?_,?_⟩
      .grind [List.take_append_drop,od]
      .have:cs.drop (k * P.cellsOf e)=(cs.drop (k * P.cellsOf e)).take (P.cellsOf e)++cs.drop ((k+1) * P.cellsOf e):=by
        rw [Nat.succ_mul,<- List.drop_drop,List.take_append_drop]
       rw [this];exact a2.append b2
    have:=elems m 0 l V hL.2 M;simp_all
   .cases hL
def Wg {w' :World}(hK:Kept w w'){sp:Nat->Bool}:∀(n:Nat) (t:TypeId) (l:List CT),Lay P n t l=W->∀(fuel:Nat) (cs:List Value) (x:DataW H×List MemPlace),(∀p,p∈x.2->sp p.block=W) ->
  DataW.trod enc P w base (λ_=>W) held fuel t cs=J x->DataW.trod enc P w' base sp held fuel t cs=J x:=by
 intro n
 induction n with
 |zero=>simp_all [Lay]
 |succ n ih =>
  intro t l hL fuel cs x hsp h;cases fuel with
  |zero=>simp [DataW.trod] at h
  |succ fuel =>
   unfold Lay at hL;split at hL
   next hu=>
    obtain ⟨b,rfl,rfl⟩:=trod_bool hu h;simp [DataW.trod,hu]
   next k hu=>
    obtain ⟨m,rfl,hw,rfl⟩:=trod_int hu h;simp [DataW.trod,hu,hw]
   next hu=>
    obtain ⟨s,rfl,hs,rfl⟩:=DM hu h;simp [DataW.trod,hu,hs]
   next e hu=>
    split at hL
    next le=>
     simp only [Bool.and_eq_true,beq_iff_eq,decide_eq_true_eq] at hL;obtain ⟨⟨hLe,hce⟩,hpos⟩:=hL;have hel:∀(a:Addr) (y:DataW H×List MemPlace),(∀p,p∈y.2->sp p.block=W)->(w.cells? base a (P.cellsOf e)).bind (DataW.trod enc P w base (λ_=>W) held fuel e)=J y->(w'.cells? base a (P.cellsOf e)).bind (DataW.trod enc P w' base sp held fuel e)=J y:=by
      intro a y hy1 hy;cases hc:w.cells? base a (P.cellsOf e) with
      |none=>simp_all
      |some ces =>
       rw [hK.cells hc]
       grind
     rcases trod_slice hu h with ⟨rfl,rfl⟩|⟨a,len,cap,rfl,hb,hlc,hcm,⟨elems,aZ1⟩,vD⟩
     .simp [DataW.trod,hu]
     .obtain ⟨rest,hr⟩:=vD rfl
      have hx:x=(.slice (elems.map (·.1)) (rest.map (·.1)),MemPlace.row a ((O elems+O rest) * P.cellsOf e)++(elems++rest).flatMap (·.2)):=by
       simp_all [DataW.trod,if_pos,Option.bind_some,if_true,C6,Option.some.injEq]
      subst hx;have hin:∀y,y∈elems++rest->∀p,p∈y.2->sp p.block=W:=by
       grind
      have hblk:cap - len=0\/sp a.block=W:=by
       by_cases hc0:cap=0
       .omega
       .right
        have h1:=(jV aZ1).1;have h2:=(jV hr).1;simp only [List.length_range] at h1 h2;have:0<(O elems+O rest) * P.cellsOf e:=by
         rw [h1,h2,hce];exact Nat.mul_pos V hpos
        refine hsp (.cell a.block (a.off+0)) (List.mem_append_left _ ?_);exact List.mem_map.2 ⟨0,List.mem_range.2 this,rfl⟩
      unfold DataW.trod;rw [hu];simp only;rw [if_pos ⟨hb,hlc,hcm⟩,ku (λi y _ hy' hy=>hel _ y (hin y (by simp [hy'])) hy) aZ1];have hr' :=ku (g:=λj=>(w'.cells? base (a.add ((len+j) * P.cellsOf e)) (P.cellsOf e)).bind (DataW.trod enc P w' base sp held fuel e)) (λi y _ hy' hy=>hel _ y (hin y (by simp [hy'])) hy) hr
      grind
    .cases hL
   next fs hu=>
    obtain ⟨hlen,xs,hxs,rfl⟩:=trod_struct hu h;have fields:∀(fl:List Field) (o:Nat) (l:List CT),OB P (Lay P n) fl o l=W->∀f,f∈fl->∃l',Lay P n f.type l' =W:=by
     intro fl
     induction fl with
     |nil=>simp_all
     |cons g fl ihf =>
      grind [OB]
    have:=ku (g:=λf=>DataW.trod enc P w' base sp held fuel f.type ((cs.drop f.offset).take (P.cellsOf f.type))) (λf y hf hy' hy=>by
     grind) hxs
    simp_all [DataW.trod,if_pos]
   next m e hu=>
    obtain ⟨hlen,xs,hxs,rfl⟩:=trod_array hu h;have UW:m=0\/∃l',Lay P n e l' =W:=by
     cases m with
     |zero=>omega
     |succ m =>
      grind [Un]
    have:=ku (g:=λi=>DataW.trod enc P w' base sp held fuel e ((cs.drop (i * P.cellsOf e)).take (P.cellsOf e))) (λi y hi hy' hy=>by
     grind) hxs
    simp_all [DataW.trod,if_pos]
   .cases hL
end
def isStr (P:Program)(t:TypeId):Bool:=match P.underlying t with
 |some (.struct _)=>W
 |_=>F
def asArg (agg:Bool)(ds:List Data):c7:=if agg then .agg (ds.map .d) else .d (ds.headD .cZ)
def rX (P:Program):List TypeId->List (List CT)->List c7->Prop
 |[],_,as=>as=[]
 |t::ts,ls,as=>∃ds r,as=asArg (isStr P t) ds::r/\Z6 (ls.headD []) ds/\rX P ts ls.tail r
def XZ (P:Program)(t:TypeId):Bool:=match P.underlying t with
 |some (.array _ _)=>W
 |_=>F
def Ii (P:Program):List TypeId->List (List CT)->Bool
 |[],_=>W
 |t::ts,ls=>(Lay P 20 t (ls.headD [])&& !XZ P t)&&Ii P ts ls.tail
section
variable {H:Type} {enc:TypeId×Value->H} {P:Program} {w:World} {held:Bool}
theorem Bj {t:TypeId}{r:Reach}{b0:Nat}{v:Value}(hval:Value.okWide P w r b0 t v){td:TypeDesc}(hu:P.underlying t=J td)(htd:td= .bool\/(∃k,td= .int k)\/td= .string\/∃e,td= .slice e):∀cs,v≠ .agg cs:=by
 simp_all [Value.okWide,Cell.okWide,Cell.ok]<;>grind
theorem cells_one {v u:Value}(hv:∀cs,v≠ .agg cs)(h:v.cells.toList=[u]):u=v:=by
 simp_all [Value.cells,absurd]
def aG5 {t:TypeId}{l:List CT}(hL:Lay P 20 t l=W)(hna:XZ P t=F){r:Reach}{b0:Nat}{v:Value}(hval:Value.okWide P w r b0 t v){d:DataW H}{ps:List MemPlace}(h:DataW.Trod enc P w 0 (λ_=>W) held t v d ps) :
  ∃ds,Z6 l ds/\VR (G0 w) I0 N0 w .none (asArg (isStr P t) ds) v:=by
 obtain ⟨fuel,h⟩:=h;obtain ⟨ds,h1,h2⟩:=Zf (λ_=>rfl) 20 t l hL fuel _ _ h;unfold isStr asArg;split
 .grind [Value.okWide,VR,Value.cells]
 .cases fuel with
  |zero=>simp [DataW.trod] at h
  |succ fuel =>
   have one:∀u,v.cells.toList=[u]->u=v->VR (G0 w) I0 N0 w .none (.d (ds.headD .cZ)) v:=by
    rintro u hu rfl;rw [hu] at h2;cases ds with
    |nil=>simp [Cells,J5] at h2
    |cons d0 r =>
     simp_all [Cells,J5]<;>grind
   unfold Lay at hL;split at hL
   .grind [trod_bool,cells_one,Bj]
   .grind [trod_int,cells_one,Bj]
   .grind [DM,cells_one,Bj]
   next e hu=>
    rcases trod_slice hu h with ⟨hb,_⟩|⟨a,len,cap,hb,_⟩
    all_goals grind [cells_one,Bj]
   all_goals simp_all [absurd,XZ]
theorem QE {r:Reach}{b0:Nat}:∀(ts:List TypeId) (ls:List (List CT)) (vs:List Value) (ds:List (DataW H)) (ps:List MemPlace),Ii P ts ls=W->(∀(j:Nat) t v,ts[j]? =J t->vs[j]? =J v->Value.okWide P w r b0 t v) ->
  DataW.TrodAll enc P w 0 (λ_=>W) held ts vs ds ps ->
  (∃as,rX P ts ls as/\J5 (G0 w) I0 N0 w as vs)/\∀w',Kept w w' ->∀sp:Nat->Bool,(∀p,p∈ps->sp p.block=W)->DataW.TrodAll enc P w' 0 sp held ts vs ds ps
 |[],ls,vs,ds,ps,_,_,h=>by
  obtain ⟨rfl,rfl,rfl⟩:=Go.ChangeShapes.trodAll_nil h;exact ⟨⟨[],by rfl,by simp [J5]⟩,λ_ _ _ _=>rfl⟩
 |t::ts,ls,vs,ds,ps,hL,hval,h=>by
  simp [Ii,Bool.and_eq_true,Bool.not_eq_true'] at hL;obtain ⟨v,vs1,d,ds1,a,b,rfl,rfl,rfl,h1,h2⟩:=Go.ChangeShapes.trodAll_cons h;obtain ⟨⟨as,g1,g2⟩,g3⟩:=QE ts ls.tail vs1 ds1 b hL.2 (λj t' v' ht hv=>hval (j+1) t' v' M M) h2;obtain ⟨dd,e1,e2⟩:=aG5 hL.1.1 hL.1.2 (hval 0 t v rfl rfl) h1;refine ⟨⟨asArg (isStr P t) dd::as,?_,?_⟩,λw' hK sp hsp=>?_⟩
  .grind [rX]
  .grind [J5]
  .obtain ⟨fuel,hf⟩:=h1
   exact ⟨a,b,⟨fuel,Wg hK 20 t _ hL.1.1 fuel _ _ (λp hp=>hsp p M) hf⟩,g3 w' hK sp (λp hp=>hsp p (by simp [hp])),rfl⟩
end
open Go.ChangeShapes Go.WideShapes Go.ChangeAt Go.RowKit
end Go.B3
namespace Go.B3
def K3 (A:Prog)(n:Nat)(l:H8)(b:Nat):Env:=⟨call A n,A.prom,A.mode,A.idle,l,b⟩
def Ex (A:Prog)(l:H8)(b:Nat)(c:p6)(st:St)(Q:E6->St->Prop):Prop :=
 ∃x s N,Q x s/\∀n,N<=n->exec (K3 A n l b) n c st=J (x,s)
def Rn (A:Prog)(l:H8)(b:Nat)(ops:List o4)(draw:Bool)(T:List c7)(H:n9)(Q:List c7->n9->List c7->Prop):Prop :=
 ∃r N,Q r.T r.H r.L/\∀n,N<=n->S0 (K3 A n l b) ops draw T H=J r
section
variable {A:Prog} {l:H8} {b:Nat}
theorem Ex.mono {c:p6}{st:St}{Q R:E6->St->Prop}(h:Ex A l b c st Q)(k:∀x s,Q x s->R x s):Ex A l b c st R:=by
 obtain ⟨x,s,N,hq,h⟩:=h;exact ⟨x,s,N,k x s hq,h⟩
theorem Ex.skip {st:St}{Q:E6->St->Prop}(h:Q .normal st):Ex A l b .skip st Q:=⟨_,_,0,h,λ_ _=>rfl⟩
theorem Ex.exit {id:Nat}{st:St}{Q:E6->St->Prop}(h:Q (.exit id) st):Ex A l b (.exit id) st Q:=⟨_,_,0,h,λ_ _=>rfl⟩
theorem Ex.ret {st:St}{Q:E6->St->Prop}(h:Q .ret st):Ex A l b .ret st Q:=⟨_,_,0,h,λ_ _=>rfl⟩
theorem Ex.region {ops:List o4}{draw:Bool}{T:List c7}{H:n9}{Q:E6->St->Prop}(h:Rn A l b ops draw T H λT' H' _=>Q .normal ⟨T',H'⟩):Ex A l b (.region ops draw) ⟨T,H⟩ Q:=by
 obtain ⟨r,N,hq,h⟩:=h;refine ⟨_,_,N,hq,λn hn=>?_⟩;simp_all [exec]
def xC (Q:E6->St->Prop)(go:St->Prop):E6->St->Prop
 | .normal,s=>go s
 | .exit i,s=>Q (.exit i) s
 | .ret,s=>Q .ret s
theorem Ex.seq {c d:p6}{st:St}{Q:E6->St->Prop}(h:Ex A l b c st (xC Q λs=>Ex A l b d s Q)):Ex A l b (.seq c d) st Q:=by
 obtain ⟨x,s,N,hq,h⟩:=h;cases x with
 |normal =>
  obtain ⟨x2,s2,N2,IP,h2⟩:=hq;refine ⟨x2,s2,max N N2,IP,λn hn=>?_⟩
  grind [exec]
 |exit i=>exact ⟨_,_,N,hq,λn hn=>by simp_all [exec]⟩
 |ret=>exact ⟨_,_,N,hq,λn hn=>by simp_all [exec]⟩
def JT (id:Nat)(Q:E6->St->Prop):E6->St->Prop
 | .exit i,s=>if i=id then Q .normal s else Q (.exit i) s
 | .normal,s=>Q .normal s
 | .ret,s=>Q .ret s
theorem Ex.block {id:Nat}{c:p6}{st:St}{Q:E6->St->Prop}(h:Ex A l b c st (JT id Q)):Ex A l b (.block id c) st Q:=by
 obtain ⟨x,s,N,hq,h⟩:=h;cases x with
 |normal=>exact ⟨_,_,N,hq,λn hn=>by simp_all [exec]⟩
 |ret=>exact ⟨_,_,N,hq,λn hn=>by simp_all [exec]⟩
 |exit i =>
  simp [JT] at hq;split at hq
  .exact ⟨_,_,N,hq,λn hn=>by simp_all [exec,if_pos]⟩
  .exact ⟨_,_,N,hq,λn hn=>by simp_all [exec,if_neg]⟩
theorem Ex.test {ops:List o4}{draw:Bool}{c:z6}{d e:p6}{T:List c7}{H:n9}{Q:E6->St->Prop}
  (h:Rn A l b ops draw T H λT' H' L=>∃t,G5 T' L c= .d (.bool t)/\(t=W->Ex A l b d ⟨T',H'⟩ Q)/\(t=F->Ex A l b e ⟨T',H'⟩ Q)):Ex A l b (.test ops draw c d e) ⟨T,H⟩ Q:=by
 obtain ⟨r,N,⟨t,h1,h2,h3⟩,h⟩:=h;cases t with
 |true =>
  obtain ⟨x,s,N2,hq,k⟩:=h2 rfl;exact ⟨x,s,max N N2,hq,λn hn=>by grind [exec]⟩
 |false =>
  obtain ⟨x,s,N2,hq,k⟩:=h3 rfl;exact ⟨x,s,max N N2,hq,λn hn=>by grind [exec]⟩
theorem Ex.cond {c:z6}{d e:p6}{st:St}{t:Bool}{Q:E6->St->Prop}(h1:G5 st.T [] c= .d (.bool t))
  (h2:t=W->Ex A l b d st Q) (h3:t=F->Ex A l b e st Q):Ex A l b (.cond c d e) st Q:=by
 cases t with
 |true =>
  obtain ⟨x,s,N2,hq,k⟩:=h2 rfl;exact ⟨x,s,N2,hq,λn hn=>by simp_all [exec]⟩
 |false =>
  obtain ⟨x,s,N2,hq,k⟩:=h3 rfl;exact ⟨x,s,N2,hq,λn hn=>by simp_all [exec]⟩
theorem Ex.loop {mask:List Bool}{body:p6}{st:St}{Q:E6->St->Prop}(Inv:Nat->St->Prop)
  (hb:∀k s,Inv k s->Ex A l b body (clean mask l.strict (O st.H) s) (xC Q λs' =>∃k',k' <k/\Inv k' s')) {k:Nat} (h:Inv k st):Ex A l b (.loop mask body) st Q:=by
 have main:∀k s,Inv k s->∃x s2 N,Q x s2/\∀n,N<=n->∀j,N<=j->ji (exec (K3 A n l b) n body) mask l.strict (O st.H) j s=J (x,s2):=by
  intro k
  induction k using Nat.strongRecOn with
  |_ k ih =>
   intro s hs;obtain ⟨x,s1,N,hq,h1⟩:=hb k s hs;cases x with
   |normal =>
    obtain ⟨k',hk,hi⟩:=hq;obtain ⟨x,s2,N2,IP,h2⟩:=ih k' hk s1 hi;refine ⟨x,s2,max N N2+1,IP,λn hn j hj=>?_⟩;obtain ⟨j,rfl⟩:∃j',j=j' +1:=⟨j - 1,V⟩
    grind [ji]
   |exit i =>
    refine ⟨_,_,N+1,hq,λn hn j hj=>?_⟩;obtain ⟨j,rfl⟩:∃j',j=j' +1:=⟨j - 1,V⟩
    grind [ji]
   |ret =>
    refine ⟨_,_,N+1,hq,λn hn j hj=>?_⟩;obtain ⟨j,rfl⟩:∃j',j=j' +1:=⟨j - 1,V⟩
    grind [ji]
 obtain ⟨x,s2,N,hq,h⟩:=main k st h;exact ⟨x,s2,N,hq,λn hn=>by exact h n hn n hn⟩
def Pf (A:Prog)(f:FuncId)(args:List c7)(v:c7):Prop :=
 ∃N,∀n,N<=n->call A n f args [] Q9=J (v,[])
def Pf.bd3 {f:FuncId}{af:q6}{args:List c7}{v:c7}(T:List c7)(hp:A.gQ f=K)(hf:A.fn f=J af)(hn:O args=af.nparams)
  (hT:args++List.replicate (O af.names - O args) .any=T) (h:Ex A Q9 0 af.body ⟨T,[]⟩ λx s=>aZ af 0 (J (x,s))=J (v,[])):Pf A f args v:=by
 obtain ⟨x,s,N,hq,h⟩:=h;refine ⟨N+1,λn hn' =>?_⟩;obtain ⟨n,rfl⟩:∃j,n=j+1:=⟨n - 1,V⟩;simp_all [Iq,uX,K3,List.length_nil]
def KF (H:n9)(strict k:Nat):I4 H strict k 0=0:=by
 cases k<;>simp [I4]
def iU {E:Env}{k:Nat}{f:FuncId}{args:List c7}{st:G4}{v:c7}(mL:E.prom f=F)(hm:E.mode f=1)(hb:C0 args=0)
  (hc:E.cf f args [] Q9=J (v,[])):D7 E k f args st=J (put st k v):=by
 simp [D7,hb,KF];have h0:I7 st.H E.lim.strict 0=0:=by rfl
 have h1:E.cf f args [] ⟨0,0,0,0⟩=J (v,[]):=hc
 grind [Q5]
def uk (ops:List o4):Bool:=ops.all λi=> !i.op.A6&&i.dm.all λe=>decide (e<O ops)
end
theorem wrap_small {n:Int}(h: -9223372036854775808<=n)(h2:n<9223372036854775808):IntKind.wrap .i64 n=n:=by
 grind [IntKind.wrap,IntKind.signed,IntKind.bits]
section
variable {A:Prog} {l:H8} {b:Nat}
def s7.rdr:s7->Bool
 | .load _ _=>W
 | .lookup .. =>W
 |_=>F
def xh:List o4->Nat
 |[]=>0
 |i::is=>max (if i.op.rdr then (i.dm.map (·+1)).foldl max 0 else 0) (xh is)
theorem PM {ρ:z6->c7}{H:n9}{op:s7}{v:c7}{rs:List Nat}(h:l8 ρ H op=J (v,rs))(hr:op.rdr=F):rs=[]:=by
 cases op<;>simp [s7.rdr] at hr<;>simp [l8] at h<;>repeat' split at h
 all_goals simp_all
theorem DE {E:Env}{j9:List o4}{y4:Option Nat}{k:Nat}{i:o4}{st st' :G4}{rs:List Nat}(h:A2 E j9 y4 k i st=J (st',rs))(hr:i.op.rdr=F):rs=[]:=by
 simp [A2] at h;split at h
 .split at h
  next st1 rs1 h1=>
   split at h
   .simp [D3] at h1
    split at h1
    .grind
    grind [Option.some.injEq,Prod.mk.injEq,PM]
   .cases h
  .cases h
 all_goals grind
theorem vz:∀(l:List Nat) (a:Nat),a<=l.foldl max a
 |[],_=>o6 _
 |x::l,a=>A3 (Nat.le_max_left a x) (vz l (max a x))
theorem tw:∀(l:List Nat) (a x:Nat),x∈l->x<=l.foldl max a
 |y::l,a,x,h=>by
  rcases C4.1 h with rfl|h
  .grind [A3,Nat.le_max_right,vz]
  .exact tw l _ x h
theorem BO:∀{j9:List o4} {i:o4} {e:Nat},i∈j9->i.op.rdr=W->e∈i.dm->e<xh j9
 |j::j9,i,e,h,hr,he=>by
  simp only [xh]
  rcases C4.1 h with rfl|h
  .have:=tw (i.dm.map (·+1)) 0 (e+1) (List.mem_map.2 ⟨e,he,rfl⟩)
   rw [hr,if_pos rfl];omega
  .have:=BO h hr he
   omega
def Rx (A:Prog)(l:H8)(b:Nat)(dr:Bool)(j9 ops:List o4)(T:List c7)(H:n9)(pre:List c7)(o5:List Touch)(Q:List c7->n9->List c7->Prop):Prop :=
 ∃r N,Q r.T r.H r.L/\∀n,N<=n->if dr=W then ∀na,∃lg:List jx,R9 (K3 A n l b) j9 ops (O pre) na ⟨T,H,pre++List.replicate (O ops) .any,o5⟩=J (r,lg)/\O lg=O ops/\∀k e,lg[k]? =J e->(O pre+k<xh j9->∀rs,I9 e.KZ rs=F)/\∀i,ops[k]? =J i->i.op.rdr=F->e.reads=[]
  else gI (K3 A n l b) j9 ops (O pre) ⟨T,H,pre++List.replicate (O ops) .any,o5⟩=J r
variable {dr:Bool} {j9 ops:List o4} {T:List c7} {H:n9} {pre:List c7} {o5:List Touch} {Q:List c7->n9->List c7->Prop}
def Rx.nil (h:Q T H pre):Rx A l b dr j9 [] T H pre o5 Q:=by
 refine ⟨⟨T,H,pre,o5⟩,0,h,λn _=>?_⟩;simp_all [gI,R9]
def Rx.Mt {i:o4}{T' pre' :List c7}{H' :n9}{v:c7}{cF :List Touch}{rs:List Nat}{N1:Nat}(hl:O pre'=O pre)
  (hk:F9 ⟨T,H,pre++ .any::List.replicate (O ops) .any,o5⟩ i.op=F) (ha:i.op.A6=F)
  (h:∀n,N1<=n->A2 (K3 A n l b) j9 K (O pre) i ⟨T,H,pre++ .any::List.replicate (O ops) .any,o5⟩=J (⟨T',H',pre' ++v::List.replicate (O ops) .any,cF⟩,rs))
  (ht:O pre<xh j9->∀rs,I9 (cF.take (O cF - O o5)) rs=F) (h2:Rx A l b dr j9 ops T' H' (pre' ++[v]) cF Q):Rx A l b dr j9 (i::ops) T H pre o5 Q:=by
 obtain ⟨r,N,hq,h2⟩:=h2;refine ⟨r,max N N1,hq,λn hn=>?_⟩;have h3:=h2 n V;have h4:=h n V;cases dr with
 |false =>
  simp_all [e8,if_false,List.length_cons,List.replicate_succ,gI]
 |true =>
  simp [List.length_cons,List.replicate_succ] at h3 ⊢;intro na;obtain ⟨lg,e1,e2,e3⟩:=h3 na;refine ⟨aM (K3 A n l b) i K ⟨T,H,pre++ .any::List.replicate (O ops) .any,o5⟩ ⟨T',H',pre' ++v::List.replicate (O ops) .any,cF⟩ rs::lg,?_,by simp [e2],?_⟩
  .simp_all [R9,lu,Bool.false_and,e8,if_false]
  .intro k e he
   cases k with
   |zero =>
    grind [List.getElem?_cons_zero,Option.some.injEq,aM,cD,DE]
   |succ k =>
    grind
def Rx.stepG {i:o4}{T' pre' :List c7}{H' :n9}{v:c7}{cF :List Touch}{rs:List Nat}{N1:Nat}(hl:O pre'=O pre)
  (hk:F9 ⟨T,H,pre++ .any::List.replicate (O ops) .any,o5⟩ i.op=F) (ha:i.op.A6=F)
  (h:∀n,N1<=n->A2 (K3 A n l b) j9 K (O pre) i ⟨T,H,pre++ .any::List.replicate (O ops) .any,o5⟩=J (⟨T',H',pre' ++v::List.replicate (O ops) .any,cF⟩,rs))
  (ht:∀rs,I9 (cF.take (O cF - O o5)) rs=F) (h2:Rx A l b dr j9 ops T' H' (pre' ++[v]) cF Q):Rx A l b dr j9 (i::ops) T H pre o5 Q :=
 Rx.Mt hl hk ha h (λ_=>ht) h2
def Rx.step {i:o4}{T' :List c7}{H' :n9}{v:c7}{cF :List Touch}{rs:List Nat}{N1:Nat}(hk:F9 ⟨T,H,pre++ .any::List.replicate (O ops) .any,o5⟩ i.op=F)(ha:i.op.A6=F)
  (h:∀n,N1<=n->A2 (K3 A n l b) j9 K (O pre) i ⟨T,H,pre++ .any::List.replicate (O ops) .any,o5⟩=J (⟨T',H',pre++v::List.replicate (O ops) .any,cF⟩,rs))
  (ht:∀rs,I9 (cF.take (O cF - O o5)) rs=F) (h2:Rx A l b dr j9 ops T' H' (pre++[v]) cF Q):Rx A l b dr j9 (i::ops) T H pre o5 Q :=
 Rx.stepG rfl hk ha h ht h2
def opv (T pre:List c7):z6->Option c7
 | .slot s=>T[s]?
 | .loc j=>pre[j]?
 | .const v=>J v
def Op (T pre:List c7)(x:z6)(v:c7):Prop:=opv T pre x=J v/\v.F4=v
theorem Op.G5 {x:z6}{v:c7}(h:Op T pre x v)(m:Nat):G5 T (pre++ .any::List.replicate m .any) x=v:=by
 obtain ⟨h1,h2⟩:=h;cases x with
 |slot s=>simp_all [opv,B3.G5]
 |loc j =>
  grind [opv,x9,List.getElem?_eq_none,B3.G5,s8]
 |const u=>simp_all [opv,Option.some.injEq,B3.G5,Xc]
theorem N5 (pre:List c7)(a v:c7)(r:List c7):(pre++a::r).set (O pre) v=pre++v::r:=by
 simp
def Rx.pure {op:s7}{u:List Nat}{v:c7}{rs:List Nat}(hE:op.D4=F)(hp:∀m,l8 (B3.G5 T (pre++ .any::List.replicate m .any)) H op=J (v,rs))
  (h2:Rx A l b dr j9 ops T H (pre++[v]) o5 Q):Rx A l b dr j9 (⟨op,K,K,u⟩::ops) T H pre o5 Q:=by
 have hm:∀x,op≠ .S1 x:=by
  rintro x rfl;simp_all [l8]
 refine Rx.step (N1:=0) (rs:=rs) ?_ ?_ ?_ ?_ h2
 .cases op<;>first|rfl|grind [s7.D4]
 .cases op<;>first|rfl|(simp [s7.D4] at hE)|skip
  rename_i ob;cases ob
  .rfl
  simp_all
 .intro n _
  have h3:D3 (K3 A n l b) j9 K (O pre) op ⟨T,H,pre++ .any::List.replicate (O ops) .any,o5⟩=J (⟨T,H,pre++v::List.replicate (O ops) .any,o5⟩,rs):=by
   simp_all [absurd,D3,e8,if_false,put,N5,s7.D4]
  grind [A2,A9,y8,F2]
 simp_all [I9]
theorem Op.F1 {x:z6}{v:c7}(h:Op T pre x v)(m:Nat):B3.F1 ⟨T,H,pre++ .any::List.replicate m .any,o5⟩ x=(v,⟨T,H,pre++ .any::List.replicate m .any,o5⟩):=by
 have hr:=h.G5 m;cases x with
 |slot s=>grind [B3.F1]
 |loc j =>
  obtain ⟨h1,h2⟩:=h
  grind [opv,x9,List.getElem?_eq_none,B3.F1,s8,c7.F4]
 |const u =>
  obtain ⟨h1,h2⟩:=h;simp [opv,Option.some.injEq] at h1;subst h1;rfl
theorem Rx.S1 {x:z6}{u:List Nat}{v:c7}(hx:Op T pre x v)(h2:Rx A l b dr j9 ops T H (pre++[v]) o5 Q):Rx A l b dr j9 (⟨.S1 x,K,K,u⟩::ops) T H pre o5 Q:=by
 refine Rx.step (N1:=0) (rs:=[]) rfl rfl (λn _=>?_) (λrs=>by simp [I9]) h2;simp [A2,A9,D3,s7.D4,e8,if_false,hx.F1,put,N5,y8,F2]
def Rx.bc7 {x:z6}{u:List Nat}{v:c7}{s:Nat}(hx:Op T pre x v)(hs:T[s]?.isSome=W)(h2:Rx A l b dr j9 ops (T.set s v) H (pre++[v]) (.slot s::o5) Q) :
  Rx A l b dr j9 (⟨.S1 x,J s,K,u⟩::ops) T H pre o5 Q:=by
 refine Rx.step (N1:=0) (rs:=[]) rfl rfl (λn _=>?_) (λrs=>?_) h2
 .have hv:=hx.2
  have hs:s<O T:=by
   simp_all
  simp only [A2,A9,D3,s7.D4,e8,if_false,hx.F1,put,N5,y8,F2,hs,if_true];have h3:B3.F1 ⟨T,H,pre++v::List.replicate (O ops) .any,o5⟩ (.loc (O pre))=(v,⟨T,H,pre++v::List.replicate (O ops) .any,o5⟩):=by
   grind [B3.F1,c7.F4,B3.G5]
  rw [h3]
 simp_all [I9,Touch.G8]
def Rx.aM2 {s:Nat}{u:List Nat}{z n:Nat}{cs:List Data}(hx:T[s]? =J (.own z n cs))(h2:Rx A l b dr j9 ops T H (pre++[.d (.slice n cs)]) o5 Q):Rx A l b dr j9 (⟨.S1 (.slot s),K,K,u⟩::ops) T H pre o5 Q:=by
 refine Rx.step (N1:=0) (rs:=[]) rfl rfl (λn _=>?_) (λrs=>by simp [I9]) h2;simp_all [A2,A9,D3,s7.D4,e8,if_false,B3.F1,put,N5,y8,F2,B3.G5,c7.F4]
def kB (s:Nat)(o5:List Touch)(rs:List Nat):I9 ((Touch.slot s::o5).take (O (Touch.slot s::o5) - O o5)) rs=F:=by
 simp_all [I9,Touch.G8]
theorem Rx.append {j s sz bytes:Nat}{y:z6}{u u' :List Nat}{d' :Option Nat}{g' :Option (Nat×Bool)}{n' len m:Nat}{cs' cells new:List Data}{vy:c7}{cs:List c7}
  (hj:pre[j]? =J (.d (.slice n' cs'))) (ha:j9[j]? =J ⟨.S1 (.slot s),d',g',u'⟩) (ht:o5.any (Touch.V7 s)=F) (hT:T[s]? =J (.own sz len cells))
  (hy:∀m,B3.G5 T (pre++ .any::List.replicate m .any) y=vy) (hc:C1 H sz vy=J (m,cs)) (hd:L5 cs=J new) (hr:roomFor (len+m) bytes=W) (h0:0<sz)
  (h2:Rx A l b dr j9 ops (T.set s (.d (.slice len cells))) H (pre++[.own sz (len+m) (cells++new)]) (.slot s::o5) Q):Rx A l b dr j9 (⟨.append sz bytes F (.loc j) y,K,K,u⟩::ops) T H pre o5 Q:=by
 have hjl:j<O pre:=by
  grind
 have hL:∀r:List c7,(pre++ .any::r)[j]? =J (.d (.slice n' cs')):=λr=>by grind
 have aK2:B3.G5 T (pre++ .any::List.replicate (O ops) .any) (.loc j)= .d (.slice n' cs'):=by simp [B3.G5,hL,c7.F4]
 refine Rx.step (N1:=0) (rs:=[]) (by simp_all [F9]) rfl (λn _=>?_) (kB s o5) h2;simp_all [A2,A9,D3,s7.D4,D9,K0,Q7,aJ,put,y8,F2]<;>grind
def Rx.Yq {j s:Nat}{u:List Nat}{z n0:Nat}{cs:List Data}(hj:pre[j]? =J (.own z n0 cs))(hs:T[s]?.isSome=W)
  (h2:Rx A l b dr j9 ops (T.set s (.own z n0 cs)) H (pre.set j (.d (.slice n0 cs))++[.d (.slice n0 cs)]) (.slot s::o5) Q):Rx A l b dr j9 (⟨.S1 (.loc j),J s,K,u⟩::ops) T H pre o5 Q:=by
 have hjl:j<O pre:=by
  grind
 have hs:s<O T:=by
  simp_all
 refine Rx.stepG (N1:=0) (rs:=[]) U rfl rfl (λn _=>?_) (kB s o5) h2;have hL:∀r:List c7,(pre++ .any::r)[j]? =J (.own z n0 cs):=λr=>by grind
 have h4:∀(a v:c7) (r:List c7),(pre.set j (.d (.slice n0 cs))++a::r).set (O pre) v=pre.set j (.d (.slice n0 cs))++v::r:=λa v r=>M
 simp_all [A2,A9,D3,s7.D4,e8,if_false,B3.F1,put,y8,F2,if_true]
def Rn.ar1 {T:List c7}{H:n9}(h:Rx A l b F ops ops T H [] [] Q):Rn A l b ops F T H Q:=by
 obtain ⟨r,N,hq,h⟩:=h;exact ⟨r,N,hq,λn hn=>by simp_all [S0]⟩
def Rn.ar0 {T:List c7}{H:n9}(hp:uk ops=W)(h:Rx A l b W ops ops T H [] [] Q):Rn A l b ops W T H Q:=by
 obtain ⟨r,N,hq,h⟩:=h;refine ⟨r,N,hq,λn hn=>?_⟩;have h1:=h n hn;obtain ⟨lg,e1,e2,e3⟩:=h1 (O H);simp only [uk,L4,Bool.and_eq_true,Bool.not_eq_true',decide_eq_true_eq] at hp;have Ka:Z2 ops=[]:=by
  simp_all [Z2,List.map_eq_nil_iff,List.filter_eq_nil_iff,Bool.not_eq_true]
 have ED:slotsOf ops=[]:=by
  simp_all [slotsOf,List.filterMap_eq_nil_iff]
 have bG5:fK ops lg=W:=by
  simp only [fK,L4];rintro ⟨i,le⟩ EZ e he;obtain ⟨j,hj,hji⟩:=O8 EZ;simp [List.length_zip] at hj;have hj1:j<O ops:=V
  have hj2:j<O lg:=V
  simp [List.getElem_zip] at hji;obtain ⟨rfl,rfl⟩:=hji;have hi:ops[j]∈ops:=List.getElem_mem hj1;have hlt:=(hp _ hi).2 e he;have this:e<O lg:=V
  have hmk:ops[j].op.makes=F:=by
   have:=(hp _ hi).1;cases ho:ops[j].op<;>rw [ho] at this<;>first|rfl|exact this
  cases hr:ops[j].op.rdr with
  |true =>
   have h5:=(e3 e _ (n5 this)).1 (by simpa using BO hi hr he);simp_all
  |false =>
   have h5:=(e3 j _ (n5 hj2)).2 _ (n5 hj1) hr
   grind [I9]
 simp_all [List.length_nil,List.nil_append,S0,if_true,List.append_nil]
theorem Rx.call {f:FuncId}{xs:List z6}{u:List Nat}{v:c7}{args:List c7}(mL:A.prom f=F)(hm:A.mode f=1)(ha:∀m,xs.map (B3.G5 T (pre++ .any::List.replicate m .any))=args)
  (hb:C0 args=0) (hc:Pf A f args v) (h2:Rx A l b dr j9 ops T H (pre++[v]) o5 Q):Rx A l b dr j9 (⟨.call f xs,K,K,u⟩::ops) T H pre o5 Q:=by
 obtain ⟨f8,hc⟩:=hc;refine Rx.step (N1:=f8) (rs:=[]) rfl rfl (λn hn=>?_) (λrs=>by simp [I9]) h2;have h3:D7 (K3 A n l b) (O pre) f args ⟨T,H,pre++ .any::List.replicate (O ops) .any,o5⟩=J (put ⟨T,H,pre++ .any::List.replicate (O ops) .any,o5⟩ (O pre) v) :=
  iU mL hm hb (hc n hn)
 simp_all [A2,A9,D3,s7.D4,if_true,D9,y8,F2,put,N5]
def QH {o:BinOp}{c d e:Int}(h:o= .add/\c+d=e\/o= .sub/\c - d=e)(h0: -9223372036854775808<=e)(h1:e<9223372036854775808):O2 o (.int .i64 c) (.int .i64 d)=J (.int .i64 e):=by
 grind [O2,aI,cC,wrap_small]
end
abbrev M6:=List UInt8
def B8 {α:Type}(f:α->List Data)(l:List α):Data:= .slice (O l) (l.flatMap f)
def Z (n:Int):Data:= .int .i64 n
structure bU where
 op:Int
 kind:Int
 int:Int
 text:M6
 col:Int
def bU.enc (t:bU):List Data:=[Z t.op,Z t.kind,Z t.int,.str t.text,Z t.col]
structure dY where
 name:M6
 type:Int
 space:M6
 refs:M6
 L0:List Int
 jG:Int
 oA:Int
def dY.enc (c:dY):List Data:=[.str c.name,Z c.type,.str c.space,.str c.refs,B8 (λn=>[Z n]) c.L0,Z c.jG,Z c.oA]
structure jt where
 name:M6
 p9:List dY
 erase:Int
 cE:Int
def jt.enc (t:jt):List Data:=[.str t.name,B8 dY.enc t.p9,Z t.erase,Z t.cE]
structure Wk where
 name:M6
 expr:List bU
def Wk.enc (x:Wk):List Data:=[.str x.name,B8 bU.enc x.expr]
structure Ke where
 name:M6
 func:Int
 expr:List bU
def Ke.enc (x:Ke):List Data:=[.str x.name,Z x.func,B8 bU.enc x.expr]
structure Vw where
 name:M6
 kind:Int
 left:M6
 right:M6
 on:List (Int×Int)
 wh:List bU
 items:List Wk
 distinct:Bool
 L7:List Ke
def Vw.enc (v:Vw):List Data:=[.str v.name,Z v.kind,.str v.left,.str v.right,B8 (λp=>[Z p.1,Z p.2]) v.on,B8 bU.enc v.wh,B8 Wk.enc v.items,.bool v.distinct,B8 Ke.enc v.L7]
structure pe where
 name:M6
 source:M6
 col:Int
def pe.enc (x:pe):List Data:=[.str x.name,.str x.source,Z x.col]
structure oh where
 name:M6
 source:M6
 col:Int
 kind:Int
 width:Int
 depth:Int
def oh.enc (x:oh):List Data:=[.str x.name,.str x.source,Z x.col,Z x.kind,Z x.width,Z x.depth]
structure rY where
 name:M6
 source:M6
 col:Int
 ttl:Int
def rY.enc (x:rY):List Data:=[.str x.name,.str x.source,Z x.col,Z x.ttl]
structure qh where
 name:M6
 source:M6
 thr:Int
def qh.enc (x:qh):List Data:=[.str x.name,.str x.source,Z x.thr]
structure uP where
 name:M6
 table:M6
def uP.enc (x:uP):List Data:=[.str x.name,.str x.table]
structure uO where
 name:M6
 tables:List M6
 keep:Int
def uO.enc (x:uO):List Data:=[.str x.name,B8 (λs=>[.str s]) x.tables,Z x.keep]
structure s6 where
 k9:List jt
 views:List Vw
 idxs:List pe
 M7:List oh
 O0:List rY
 R1:List qh
 S8:List uP
 W6:List uO
def s6.enc (c:s6):List Data:=[B8 jt.enc c.k9,B8 Vw.enc c.views,B8 pe.enc c.idxs,B8 oh.enc c.M7,B8 rY.enc c.O0,B8 qh.enc c.R1,B8 uP.enc c.S8,B8 uO.enc c.W6]
def JZ:CT:= .int .i64
def xM (n:Int):Prop:= -9223372036854775808<=n/\n<9223372036854775808
def ur {α:Type}{e:List CT}{enc:α->List Data}{ok:α->Prop}(hr:∀r,Z6 e r->∃a,r=enc a/\ok a){d:Data}(h:Fits (.slice e) d) :
  ∃l:List α,d=B8 enc l/\O l<=maxLen/\∀a,a∈l->ok a:=by
 obtain ⟨rows,rfl,hl,hall⟩:=h;have:∀rows:List (List Data),(∀r,r∈rows->Z6 e r)->∃l:List α,O l=O rows/\rows.flatten=l.flatMap enc/\∀a,a∈l->ok a:=by
  intro rows
  induction rows with
  |nil=>simp_all
  |cons r rs ih =>
   intro h;obtain ⟨a,ha,hok⟩:=hr r (h r U);obtain ⟨l,h1,h2,h3⟩:=ih (λr hr' =>h r (by simp [hr']));refine ⟨a::l,by simp [h1],by simp [h2,ha],?_⟩;simp_all
 obtain ⟨l,h1,h2,h3⟩:=this rows hall
 grind [B8]
def nx {d:Data}(h:Fits JZ d):∃n,d=Z n/\xM n:=by
 obtain ⟨n,rfl,hw⟩:=h;refine ⟨n,rfl,?_⟩;simp [Lit.wf] at hw;have hm:IntKind.i64.min= -9223372036854775808:=rfl
 grind [xM]
def Zl {r:List Data}(h:Z6 [JZ,JZ] r):∃p:Int×Int,r=[Z p.1,Z p.2]/\xM p.1/\xM p.2:=by
 obtain ⟨d,_,rfl,h1,e,_,rfl,h2,rfl⟩:=h;obtain ⟨n,rfl,hn⟩:=nx h1;obtain ⟨m,rfl,hm⟩:=nx h2;simp_all<;>grind
structure bU.ok (x:bU):Prop where
 op:xM x.op
 kind:xM x.kind
 int:xM x.int
 text:O x.text<=maxLen
 col:xM x.col
structure dY.ok (x:dY):Prop where
 name:O x.name<=maxLen
 type:xM x.type
 space:O x.space<=maxLen
 refs:O x.refs<=maxLen
 L0:O x.L0<=maxLen/\∀a,a∈x.L0->xM a
 jG:xM x.jG
 oA:xM x.oA
structure jt.ok (x:jt):Prop where
 name:O x.name<=maxLen
 p9:O x.p9<=maxLen/\∀a,a∈x.p9->a.ok
 erase:xM x.erase
 cE:xM x.cE
structure Wk.ok (x:Wk):Prop where
 name:O x.name<=maxLen
 expr:O x.expr<=maxLen/\∀a,a∈x.expr->a.ok
structure Ke.ok (x:Ke):Prop where
 name:O x.name<=maxLen
 func:xM x.func
 expr:O x.expr<=maxLen/\∀a,a∈x.expr->a.ok
structure Vw.ok (x:Vw):Prop where
 name:O x.name<=maxLen
 kind:xM x.kind
 left:O x.left<=maxLen
 right:O x.right<=maxLen
 on:O x.on<=maxLen/\∀a,a∈x.on->xM a.1/\xM a.2
 wh:O x.wh<=maxLen/\∀a,a∈x.wh->a.ok
 items:O x.items<=maxLen/\∀a,a∈x.items->a.ok
 distinct:True
 L7:O x.L7<=maxLen/\∀a,a∈x.L7->a.ok
structure pe.ok (x:pe):Prop where
 name:O x.name<=maxLen
 source:O x.source<=maxLen
 col:xM x.col
structure oh.ok (x:oh):Prop where
 name:O x.name<=maxLen
 source:O x.source<=maxLen
 col:xM x.col
 kind:xM x.kind
 width:xM x.width
 depth:xM x.depth
structure rY.ok (x:rY):Prop where
 name:O x.name<=maxLen
 source:O x.source<=maxLen
 col:xM x.col
 ttl:xM x.ttl
structure qh.ok (x:qh):Prop where
 name:O x.name<=maxLen
 source:O x.source<=maxLen
 thr:xM x.thr
structure uP.ok (x:uP):Prop where
 name:O x.name<=maxLen
 table:O x.table<=maxLen
structure uO.ok (x:uO):Prop where
 name:O x.name<=maxLen
 tables:O x.tables<=maxLen/\∀a,a∈x.tables->O a<=maxLen
 keep:xM x.keep
structure s6.ok (x:s6):Prop where
 k9:O x.k9<=maxLen/\∀a,a∈x.k9->a.ok
 views:O x.views<=maxLen/\∀a,a∈x.views->a.ok
 idxs:O x.idxs<=maxLen/\∀a,a∈x.idxs->a.ok
 M7:O x.M7<=maxLen/\∀a,a∈x.M7->a.ok
 O0:O x.O0<=maxLen/\∀a,a∈x.O0->a.ok
 R1:O x.R1<=maxLen/\∀a,a∈x.R1->a.ok
 S8:O x.S8<=maxLen/\∀a,a∈x.S8->a.ok
 W6:O x.W6<=maxLen/\∀a,a∈x.W6->a.ok
section
variable {A:Prog} {l:H8} {b:Nat}
variable {dr:Bool} {j9 ops:List o4} {T:List c7} {H:n9} {pre:List c7} {o5:List Touch} {Q:List c7->n9->List c7->Prop}
theorem qL {j:Nat}{v:c7}(h:pre[j]? =J v)(r:List c7):(pre++r)[j]? =J v:=by
 grind
def Rx.au6 {op:s7}{j:Nat}{want w:Bool}{u:List Nat}(h:pre[j]? =J (.d (.bool w)))(hw:(w==want)=F)(hk:F9 ⟨T,H,pre++ .any::List.replicate (O ops) .any,o5⟩ op=F)(ha:op.A6=F)
  (h2:Rx A l b dr j9 ops T H (pre++[.tuple []]) o5 Q):Rx A l b dr j9 (⟨op,K,J (j,want),u⟩::ops) T H pre o5 Q:=by
 refine Rx.step (N1:=0) (rs:=[]) hk ha (λn _=>?_) (λrs=>by simp [I9]) h2
 grind [A2,A9,qL,put,N5,y8,F2]
theorem xq {mask:List Bool}{strict n:Nat}(h:O H=n):clean mask strict n ⟨T,H⟩=⟨U3 mask T,H⟩:=by
 grind [clean]
def JM {E:Env}{y4:Option Nat}{k j:Nat}{op:s7}{dst:Option Nat}{want w:Bool}{u:List Nat}{st:G4}(h:st.L[j]? =J (.d (.bool w)))(hw:(w==want)=W) :
  A2 E j9 y4 k ⟨op,dst,J (j,want),u⟩ st=A2 E j9 y4 k ⟨op,dst,K,u⟩ st:=by
 simp_all [A2,A9]
def Rx.wanted {op:s7}{dst:Option Nat}{j:Nat}{want w:Bool}{u:List Nat}(h:pre[j]? =J (.d (.bool w)))(hw:(w==want)=W)
  (h2:Rx A l b dr j9 (⟨op,dst,K,u⟩::ops) T H pre o5 Q):Rx A l b dr j9 (⟨op,dst,J (j,want),u⟩::ops) T H pre o5 Q:=by
 obtain ⟨r,N,hq,hr⟩:=h2;refine ⟨r,N,hq,λn hn=>?_⟩;have h3:=hr n hn;have h4:∀E y4,A2 E j9 y4 (O pre) ⟨op,dst,J (j,want),u⟩ ⟨T,H,pre++List.replicate (O ops+1) .any,o5⟩=A2 E j9 y4 (O pre) ⟨op,dst,K,u⟩ ⟨T,H,pre++List.replicate (O ops+1) .any,o5⟩ :=
  λE y4=>JM (qL h _) hw
 cases dr with
 |false =>
  simp_all [e8,if_false,List.length_cons,gI]
 |true =>
  simp [List.length_cons,R9,lu] at h3 ⊢;intro na;rw [h4];obtain ⟨lg,e1,e2,e3⟩:=h3 na;refine ⟨lg,e1,e2,λk e he=>⟨(e3 k e he).1,λi hi hr=>?_⟩⟩
  grind
def Rx.stepT {i:o4}{T' pre' :List c7}{H' :n9}{v:c7}{cF :List Touch}{rs:List Nat}{N1:Nat}(hl:O pre'=O pre)
  (h:∀n,N1<=n->A2 (K3 A n l b) j9 K (O pre) i ⟨T,H,pre++ .any::List.replicate (O ops) .any,o5⟩=J (⟨T',H',pre' ++v::List.replicate (O ops) .any,cF⟩,rs))
  (h2:Rx A l b F j9 ops T' H' (pre' ++[v]) cF Q):Rx A l b F j9 (i::ops) T H pre o5 Q:=by
 obtain ⟨r,N,hq,h2⟩:=h2;refine ⟨r,max N N1,hq,λn hn=>?_⟩
 grind [gI]
def Rx.aW6 {x:z6}{u:List Nat}{v:c7}{cs:List c7}{s:Nat}(hx:Op T pre x v)(hc:v.cells? =J cs)(hs:T[s]?.isSome=W)
  (h2:Rx A l b F j9 ops (T.set s (.ptr (O H) 0)) (H++[.cells cs]) (pre++[.ptr (O H) 0]) (.slot s::o5) Q):Rx A l b F j9 (⟨.box x,J s,K,u⟩::ops) T H pre o5 Q:=by
 have hs:s<O T:=by
  simp_all
 refine Rx.stepT (N1:=0) (rs:=[]) rfl (λn _=>?_) h2;have h3:∀r:List c7,(pre++ .ptr (O H) 0::r)[O pre]? =J (.ptr (O H) 0):=λr=>U
 simp [A2,A9,D3,s7.D4,if_true,D9,hx.G5,hc,E1,newId,put,y8,F2,hs,B3.F1];simp [B3.G5,c7.F4]
def Rx.bd5 {s z n0:Nat}{cs:List Data}{u:List Nat}(hs:T[s]?.isSome=W)(h2:Rx A l b dr j9 ops (T.set s (.own z n0 cs)) H (pre++[.d (.slice n0 cs)]) (.slot s::o5) Q) :
  Rx A l b dr j9 (⟨.S1 (.const (.own z n0 cs)),J s,K,u⟩::ops) T H pre o5 Q:=by
 have hs:s<O T:=by
  simp_all
 refine Rx.step (N1:=0) (rs:=[]) rfl rfl (λn _=>?_) (kB s o5) h2;simp_all [A2,A9,D3,s7.D4,e8,if_false,B3.F1,put,N5,y8,F2,if_true]
def Ex.Ga {mask:List Bool}{body:p6}{R:E6->St->Prop}(Inv:Nat->List c7->n9->Prop)(hl:∀k T' H',Inv k T' H' ->O H'=O H)
  (hb:∀k T' H',Inv k T' H' ->Ex A l b body ⟨U3 mask T',H'⟩ (xC R λs=>∃k',k' <k/\Inv k' s.T s.H)) {k:Nat} (h:Inv k T H):Ex A l b (.loop mask body) ⟨T,H⟩ R:=by
 refine Ex.loop (λk s=>Inv k s.T s.H) (λk s hs=>?_) (k:=k) h;obtain ⟨T',H'⟩:=s
 grind [xq]
end
theorem oC {α:Type}{enc:α->List Data}{sz:Nat}(hs:∀a,O (enc a)=sz):∀(l:List α) (i:Nat) (h:i<O l),(l.flatMap enc).drop (i * sz)=enc l[i]++(l.drop (i+1)).flatMap enc
 |a::l,0,h=>U
 |a::l,i+1,h=>by
  have h1:=oC hs l i (by simpa using h);rw [List.flatMap_cons,Nat.succ_mul,Nat.add_comm,<- List.drop_drop];rw [show (enc a++l.flatMap enc).drop sz=l.flatMap enc by rw [<- hs a,List.drop_left]];simpa using h1
def Xk {α:Type}{enc:α->List Data}{sz:Nat}(hs:∀a,O (enc a)=sz)(l:List α)(i:Nat)(h:i<O l) :
  (l.flatMap enc).drop ((i:Int).toNat * sz)=enc l[i]++(l.drop (i+1)).flatMap enc:=by
 rw [Int.toNat_natCast];exact oC hs l i h
def s6.names (c:s6):List M6:=c.k9.map jt.name++c.views.map Vw.name++c.idxs.map pe.name++c.M7.map oh.name++c.O0.map rY.name++c.R1.map qh.name++c.S8.map uP.name++c.W6.map uO.name
def cat (c:s6):c7:= .agg (c.enc.map .d)
def s6.lH (c:s6):Prop:=O c.k9<=1000/\O c.views<=1000/\O c.idxs<=1000/\O c.M7<=1000/\O c.O0<=1000/\O c.R1<=1000/\O c.S8<=1000/\O c.W6<=1000
open Go
def ay4 (P:Program)(g:FuncId->Option q6)(f:Nat):Bool:=match g f with
 |none=>W
 |some af=>match P.funcs[f]? with
  |some fn=>jU P fn af
  |none=>F
def upTo (n:Nat)(g:FuncId->Option q6)(f:FuncId):Option q6:=match Nat.blt f n with
 |true=>g f
 |false=>K
def jy (P:Program)(g:FuncId->Option q6)(k:Nat):Bool:=(List.range' (32 * k) 32).all (ay4 P g)
def aw3 {P:Program}{g:FuncId->Option q6}{n:Nat}(h:∀k,k<n->jy P g k=W)(f:FuncId)(af:q6)(hf:upTo (32 * n) g f=J af):∃fn,P.funcs[f]? =J fn/\jU P fn af=W:=by
 unfold upTo at hf;split at hf
 next hb=>
  have hb:Nat.lt f (32 * n):=l5 hb;have hb: @LT.lt Nat _ f (32 * n):=hb;have h1:=L4.1 (h (f / 32) (Nat.div_lt_of_lt_mul hb)) f (List.mem_range'_1.2 ⟨Nat.mul_div_le f 32,Nat.lt_mul_div_succ f (by decide)⟩);unfold ay4 at h1;rw [hf] at h1;simp only at h1;split at h1
  next fn hfn=>
   exact ⟨fn,hfn,h1⟩
  .cases h1
 .cases hf
end Go.B3
namespace Go.B3
def lI {α:Type}(a b:Option α):Prop:=∀r,a=J r->b=J r
theorem lI.refl {α:Type}(a:Option α):lI a a:=λ_ h=>h
def lI.no {α:Type}(b:Option α):lI K b:=λ_ h=>by cases h
def LeC (c c' :uS):Prop:=∀f args H l,lI (c f args H l) (c' f args H l)
section
variable {cf Wm :uS} (hc:LeC cf Wm) {p:FuncId->Bool} {md:FuncId->Nat} {uR:FuncId->Bool} {l:H8} {e:Nat}
include hc
def BS (k:Nat)(f:FuncId)(args:List c7)(st:G4):lI (D7 ⟨cf,p,md,uR,l,e⟩ k f args st) (D7 ⟨Wm,p,md,uR,l,e⟩ k f args st):=by
 unfold D7;simp only;split
 .cases h:cf f args st.H l with
  |none=>exact lI.no _
  |some r=>rw [hc _ _ _ _ _ h];exact lI.refl _
 .split
  .split
   .cases h:cf f args (List.take (I4 st.H l.strict 8 (C0 args)) st.H) { l with base:=I4 st.H l.strict 8 (C0 args),strict:=I7 st.H l.strict (I4 st.H l.strict 8 (C0 args)) } with
    |none=>exact lI.no _
    |some r=>rw [hc _ _ _ _ _ h];exact lI.refl _
   .cases h:cf f args (List.take (I4 st.H l.strict 8 (C0 args)) st.H) ⟨0,I4 st.H l.strict 8 (C0 args),I4 st.H l.strict 8 (C0 args),I7 st.H l.strict (I4 st.H l.strict 8 (C0 args))⟩ with
    |none=>exact lI.no _
    |some r=>rw [hc _ _ _ _ _ h];exact lI.refl _
   .cases h:cf f args (List.take (I4 st.H l.strict 8 (C0 args)) st.H) (l.qD (args.headD .any).K9 (I4 st.H l.strict 8 (C0 args)) (I4 st.H l.strict 8 (C0 args)) (I7 st.H l.strict (I4 st.H l.strict 8 (C0 args)))) with
    |none=>exact lI.no _
    |some r=>rw [hc _ _ _ _ _ h];exact lI.refl _
  .exact lI.no _
def Xh (j9:List o4)(y4:Option Nat)(k:Nat)(st:G4)(op:s7):lI (D9 ⟨cf,p,md,uR,l,e⟩ j9 y4 k st op) (D9 ⟨Wm,p,md,uR,l,e⟩ j9 y4 k st op):=by
 cases op
 case call f xs=>exact BS hc k f _ st
 case J3 sz len z ps b=>cases b<;>exact lI.refl _
 case Y2 x xs =>
  simp [D9];split
  all_goals simp_all [BS,lI.no]
 all_goals exact lI.refl _
def ZQ (j9:List o4)(y4:Option Nat)(k:Nat)(op:s7)(st:G4):lI (D3 ⟨cf,p,md,uR,l,e⟩ j9 y4 k op st) (D3 ⟨Wm,p,md,uR,l,e⟩ j9 y4 k op st):=by
 unfold D3;split
 .intro r hr
  cases hx:D9 ⟨cf,p,md,uR,l,e⟩ j9 y4 k st op with
  |none=>simp_all
  |some x =>
   rw [hx] at hr;rw [Xh hc j9 y4 k st op _ hx];exact hr
 .exact lI.refl _
def Mr (j9:List o4)(y4:Option Nat)(k:Nat)(i:o4)(st:G4):lI (A2 ⟨cf,p,md,uR,l,e⟩ j9 y4 k i st) (A2 ⟨Wm,p,md,uR,l,e⟩ j9 y4 k i st):=by
 unfold A2;split
 .intro r hr
  cases hx:D3 ⟨cf,p,md,uR,l,e⟩ j9 y4 k i.op st with
  |none=>simp_all
  |some x =>
   rw [hx] at hr;rw [ZQ hc j9 y4 k i.op st _ hx];exact hr
 all_goals simp_all [lI.refl]
theorem Gs (j9:List o4):∀(is:List o4) (k:Nat) (st:G4),lI (gI ⟨cf,p,md,uR,l,e⟩ j9 is k st) (gI ⟨Wm,p,md,uR,l,e⟩ j9 is k st)
 |[],_,_=>lI.refl _
 |i::is,k,st=>by
  unfold gI;intro r hr;cases hx:A2 ⟨cf,p,md,uR,l,e⟩ j9 K k i st with
  |none=>simp_all
  |some x =>
   rw [hx] at hr;rw [Mr hc j9 K k i st _ hx];exact Gs j9 is (k+1) x.1 r hr
def ZP (j9:List o4)(y4:Option Nat)(k:Nat)(i:o4)(st:G4):lI (lu ⟨cf,p,md,uR,l,e⟩ j9 y4 k i st) (lu ⟨Wm,p,md,uR,l,e⟩ j9 y4 k i st):=by
 unfold lu;split
 .exact lI.refl _
 .intro r hr
  cases hx:A2 ⟨cf,p,md,uR,l,e⟩ j9 y4 k i st with
  |none=>simp_all
  |some x =>
   rw [hx] at hr;rw [Mr hc j9 y4 k i st _ hx];exact hr
theorem Dg (j9:List o4):∀(is:List o4) (k na:Nat) (st:G4),lI (R9 ⟨cf,p,md,uR,l,e⟩ j9 is k na st) (R9 ⟨Wm,p,md,uR,l,e⟩ j9 is k na st)
 |[],_,_,_=>lI.refl _
 |i::is,k,na,st=>by
  unfold R9;intro r hr;cases hx:lu ⟨cf,p,md,uR,l,e⟩ j9 (if i.op.A6 then J na else K) k i st with
  |none=>simp_all
  |some x =>
   rw [hx] at hr;rw [ZP hc j9 _ k i st _ hx];simp at hr ⊢;cases hy:R9 ⟨cf,p,md,uR,l,e⟩ j9 is (k+1) (if i.op.A6 then na+1 else na) x.1 with
   |none=>simp_all
   |some y =>
    rw [hy] at hr;rw [Dg j9 is (k+1) _ x.1 _ hy];exact hr
def vQ (j9:List o4)(draw:Bool)(T:List c7)(H:n9):lI (S0 ⟨cf,p,md,uR,l,e⟩ j9 draw T H) (S0 ⟨Wm,p,md,uR,l,e⟩ j9 draw T H):=by
 unfold S0;split
 .intro r hr
  cases hx:R9 ⟨cf,p,md,uR,l,e⟩ j9 j9 0 (O H) ⟨T,H++Z2 j9,List.replicate (O j9) .any,slotsOf j9⟩ with
  |none=>simp_all
  |some x =>
   rw [hx] at hr;rw [Dg hc j9 j9 0 _ _ _ hx];exact hr
 simp_all [Gs]
end
theorem Lz {body body' :St->Option (E6×St)}(hb:∀st,lI (body st) (body' st))(mask:List Bool)(strict n:Nat):∀(k k' :Nat) (_:k<=k') (st:St),lI (ji body mask strict n k st) (ji body' mask strict n k' st)
 |0,_,_,_=>lI.no _
 |k+1,0,h,_=>V
 |k+1,k' +1,h,st=>by
  unfold ji;intro r hr;cases hx:body (clean mask strict n st) with
  |none=>simp_all
  |some x =>
   rw [hx] at hr;rw [hb _ _ hx];obtain ⟨x1,x2⟩:=x;cases x1 with
   |normal=>exact Lz hb mask strict n k k' V x2 r hr
   |exit i=>exact hr
   |ret=>exact hr
theorem iX {cf Wm :uS}(hc:LeC cf Wm){p:FuncId->Bool}{md:FuncId->Nat}{uR:FuncId->Bool}{l:H8}{e n n' :Nat}(hn:n<=n'):∀(c:p6) (st:St),lI (exec ⟨cf,p,md,uR,l,e⟩ n c st) (exec ⟨Wm,p,md,uR,l,e⟩ n' c st)
 | .skip,_=>lI.refl _
 | .exit _,_=>lI.refl _
 | .ret,_=>lI.refl _
 | .bad,_=>lI.refl _
 | .fz _,_=>lI.refl _
 | .region ops draw,st=>by
  unfold exec;intro r hr;cases hx:S0 ⟨cf,p,md,uR,l,e⟩ ops draw st.T st.H with
  |none=>simp_all
  |some x =>
   rw [hx] at hr;rw [vQ hc ops draw st.T st.H _ hx];exact hr
 | .seq a b,st=>by
  unfold exec;intro r hr;cases hx:exec ⟨cf,p,md,uR,l,e⟩ n a st with
  |none=>simp_all
  |some x =>
   rw [hx] at hr;rw [iX hc hn a st _ hx];obtain ⟨x1,x2⟩:=x;cases x1 with
   |normal=>exact iX hc hn b x2 r hr
   |exit i=>exact hr
   |ret=>exact hr
 | .cond c a b,st=>by
  unfold exec;split
  .exact iX hc hn a st
  .exact iX hc hn b st
  .exact lI.refl _
 | .test ops draw c a b,st=>by
  unfold exec;intro r hr;cases hx:S0 ⟨cf,p,md,uR,l,e⟩ ops draw st.T st.H with
  |none=>simp_all
  |some x =>
   rw [hx] at hr;rw [vQ hc ops draw st.T st.H _ hx];simp at hr ⊢;split at hr
   .exact iX hc hn a _ r hr
   .exact iX hc hn b _ r hr
   .cases hr
 | .block id body,st=>by
  unfold exec;intro r hr;cases hx:exec ⟨cf,p,md,uR,l,e⟩ n body st with
  |none=>simp_all
  |some x =>
   rw [hx] at hr;rw [iX hc hn body st _ hx];exact hr
 | .loop mask body,st=>by
  exact Lz (λst=>iX hc hn body st) mask _ _ n n' hn st
theorem Ir (A:Prog):∀(n n' :Nat),n<=n' ->LeC (call A n) (call A n')
 |0,_,_=>λ_ _ _ _=>lI.no _
 |n+1,0,h=>V
 |n+1,n' +1,h=>λf args H l=>by
  unfold call;split
  .exact lI.refl _
  .split
   next af _=>
    unfold jf;split
    .intro r hr
     cases hx:exec ⟨call A n,A.prom,A.mode,A.idle,l,O H⟩ n af.body ⟨args++List.replicate (O af.names - O args) .any,H⟩ with
     |none=>simp_all
     |some x =>
      rw [hx] at hr;rw [iX (Ir A n n' V) V _ _ _ hx];exact hr
    .exact lI.no _
   .exact lI.refl _
def Pf.aq9 {A:Prog}{n:Nat}{f:FuncId}{args:List c7}{v:c7}(h:call A n f args [] Q9=J (v,[])):Pf A f args v :=
 ⟨n,λm hm=>Ir A n m hm f args [] Q9 _ h⟩
open Go.ChangeShapes Go.WideShapes Go.ChangeAt Go.RowKit
section
variable {H:Type} {enc:TypeId×Value->H} {P:Program} {w:World} {held:Bool} {base:Nat} {spare:Nat->Bool}
def aa7 {t e:TypeId}{fuel:Nat}{a:Addr}{len cap:Nat}{x:DataW H×List MemPlace}(hu:P.underlying t=J (.slice e))(h:DataW.trod enc P w base spare held fuel t [.slice (J a) len cap]=J x):∃elems rest,x.1= .slice elems rest/\O elems=len:=by
 cases fuel with
 |zero=>simp [DataW.trod] at h
 |succ fuel =>
  unfold DataW.trod at h
  grind [Option.bind_eq_some_iff,Option.map_eq_some_iff,List.length_map,jV,List.length_range]
def Szd (P:Program)(ts:List TypeId)(as:List c7):Prop:=∀(j:Nat) (t e:TypeId) (n:Nat) (cells:List Data),ts[j]? =J t->P.underlying t=J (.slice e)->as[j]? =J (.d (.slice n cells))->n * P.bytesOf e<=reachBytes
theorem ZY:∀(ts:List TypeId) (vs:List Value) (ds:List (DataW H)) (ps:List MemPlace) (as:List c7),DataW.TrodAll enc P w base spare held ts vs ds ps->J5 (G0 w) I0 N0 w as vs->(DataW.weightsEach P ts ds).all (·<=reachBytes)=W->Szd P ts as
 |[],_,_,_,_,_,_,_=>λj t e n cells ht=>by simp at ht
 |t::ts,vs,ds,ps,as,h,hv,hs=>λj t' e n cells ht hu ha=>by
  obtain ⟨v,vs1,d,ds1,a,b,rfl,rfl,rfl,h1,h2⟩:=Go.ChangeShapes.trodAll_cons h;cases as with
  |nil=>simp at ha
  |cons a0 as =>
   obtain ⟨v',xs,e1,hv1,hv2⟩:=hv;cases e1;simp only [DataW.weightsEach,List.all_append,Bool.and_eq_true] at hs;cases j with
   |succ j=>exact ZY ts _ _ _ as h2 hv2 hs.2 j t' e n cells M hu M
   |zero =>
    simp [List.getElem?_cons_zero,Option.some.injEq] at ht ha;subst ht ha
    rcases hv1 with ⟨_,rfl,_⟩|⟨bb,o,cap,rfl,_,_⟩
    .simp
    .obtain ⟨fuel,hf⟩:=h1
     obtain ⟨elems,rest,e2,e3⟩:=aa7 hu hf;have:=sized_slice (ts:=[t]) (ds:=[.slice elems rest]) (by simp_all [DataW.weightsEach,List.all_append,Bool.and_eq_true]) (j:=0) rfl rfl hu
     grind
end
def Fa {H:Type}{enc:TypeId×Value->H}{P:Program}{A:Prog}(hok:qg P A){fid:FuncId}{f:Func}{s:ChangeSpec}(hvars:s.vars=[]){tb:TypeId}(hrt:f.resultTypes= #[tb])(htb:P.underlying tb=J .bool)
  {ls:List (List CT)} (UW:Ii P f.params.toList ls=W) {d8:World} {base:Nat} {args:Array Value} {ds gs:List (DataW H)} {before:List MemPlace} {r:Reach}
  (hfn:s.fn H ds={ results:=[.lit (.bool W)],args:=ds })
  (hval:∀(j:Nat) t v,f.params[j]? =J t->args[j]? =J v->Value.okWide P d8 r base t v) (hW:DataW.Whole enc P f.params.toList s.vars F d8 args.toList ds gs before)
  (hsz:(DataW.weightsEach P (f.params.toList++s.plain.varTypes P) (ds++gs)).all (·<=reachBytes)=W)
  (bb8:∀as,rX P f.params.toList ls as->Szd P f.params.toList as->∃n,call A n fid as [] Q9=J (.d (.bool W),[])) :
  Calls P fid args d8 λe W' =>∃v,e= .returned v/\s.post enc P f F W F F d8 args v W' :=by
 have hW' :=hW;obtain ⟨p,q,hA,hV,rfl,hfz,Wr⟩:=hW;rw [hvars] at hV;obtain ⟨rfl,rfl⟩:=trodVars_none hV;have bI4 :(DataW.weightsEach P f.params.toList ds).all (·<=reachBytes)=W:=by
  simp_all [ChangeSpec.plain,DataSpec.varTypes,List.append_nil]
 obtain ⟨⟨as,a1,a2⟩,a3⟩:=QE f.params.toList ls args.toList ds p UW (λj t v ht hv=>hval j t v M M) hA;obtain ⟨n,hn⟩:=bb8 as a1 (ZY _ _ _ _ _ hA a2 bI4);refine (Vi hok hn a2).mono ?_;rintro e W' ⟨rfl,hK⟩;have aZ4 :s.fn H (ds++[])={ results:=[.lit (.bool W)],args:=ds }:=M
 refine ⟨_,rfl,VA (pa:=p) (pv:=[]) hW' hK (λb sp hd=>?_) (λsp hsp=>?_) (λsp _=>?_) rfl (λj t v ht hv=>?_)⟩
 .rw [aZ4,hrt]
  exact trodAll_cons_mk (shut_bool htb _) trodAll_mk0
 .simp_all
 .rw [aZ4,hvars]
  rfl
 grind [Value.resultList,okWide_bool_mk]
end Go.B3


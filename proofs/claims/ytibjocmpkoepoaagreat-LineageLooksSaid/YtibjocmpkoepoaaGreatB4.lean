import Derived.Test.YtibjocmpkoepoaaGreatB2
import Derived.Defers
import Derived.Recover
import Derived.ChangeSame
import Derived.ProofKit
import Derived.OpenShut
import Derived.SizedLaws
set_option linter.all false
open Bool renaming false_eq_true→j4,true→W,false→F
open Int renaming toNat_natCast→J9
open List renaming all_eq_true→M1,getElem?_append_left→B9,getElem?_append_right→y3,getElem?_eq_getElem→o6,getElem_of_mem→R3,map_cons→K0,mem_append→D7,mem_append_left→K8,mem_cons→B6,mem_map→J4,length→O
open Nat renaming add_assoc→O8,le_of_ble_eq_true→j9,le_refl→l6,le_trans→C9,lt_or_ge→A5
open Option renaming map_some→O9,some→J,none→K
namespace Go.A1
variable [E5]
def I6.EJ:I6->Exit
 | .normal=> .normal
 | .exit id=> .exit id
 | .ret=> .ret
def CO (P:Program)(names:List Tmp)(ops:Array Oper)(n:Nat)(c' :Operand)(c:y7):Bool:=Cx.ck ⟨P,names,ops⟩ (λj=>decide (j<n)) c' c
def aC (P:Program)(names:List Tmp)(nt:Nat):Code->q7->Bool
 |c,.seq (.fz _) k=>aC P names nt c k
 | .skip,.skip=>W
 | .region _ ops d',.region l5 d=>d==d' &&fF P names nt ops l5 d
 | .seq (.region _ ops d') (.seq (.cond c' x' y') z'),.seq (.test l5 d c x y) k =>
  d==d' &&fF P names nt ops l5 d&&CO P names ops (O l5) c' c&&aC P names nt x' x&&aC P names nt y' y&&aC P names nt z' k
 | .seq (.region _ ops d') (.cond c' x' y'),.test l5 d c x y =>
  d==d' &&fF P names nt ops l5 d&&CO P names ops (O l5) c' c&&aC P names nt x' x&&aC P names nt y' y
 | .seq (.region i ops d') (.seq (.cond c' x' y') z'),.seq (.seq (.region l5 d) (.cond c x y)) k =>
  aC P names nt (.region i ops d') (.region l5 d)&&aC P names nt (.cond c' x' y') (.cond c x y)&&aC P names nt z' k
 | .seq x' y',.seq x y=>aC P names nt x' x&&aC P names nt y' y
 | .cond c' x' y',.cond c x y=>CO P names #[] 0 c' c&&aC P names nt x' x&&aC P names nt y' y
 | .block id' b',.block id b=>id' ==id&&aC P names nt b' b
 | .loop b',.loop _ b=>aC P names nt b' b
 | .exit id',.exit id=>id' ==id
 | .ret,.ret=>W
 |_,.bad=>W
 |_,_=>F
theorem tr:∀(m:List Bool) (T:List c8) (s:Nat),(V4 m T).getD s .any=T.getD s .any\/(V4 m T).getD s .any= .any
 |[],[],s=>by simp [V4]
 |[],v::vs,0=>by simp [V4]
 |[],v::vs,s+1=>by simpa [V4] using tr [] vs s
 |b::m,[],s=>by simp_all [V4]
 |true::m,v::vs,0=>by simp [V4]
 |false::m,v::vs,0=>by simp [V4]
 |true::m,v::vs,s+1=>by simpa [V4] using tr m vs s
 |false::m,v::vs,s+1=>by simpa [V4] using tr m vs s
theorem nU:∀(m:List Bool) (T:List c8),O (V4 m T)=O T
 |[],[]=>by simp [V4]
 |[],v::vs=>by simpa [V4] using nU [] vs
 |b::m,[]=>by simp_all [V4]
 |true::m,v::vs=>by simpa [V4] using nU m vs
 |false::m,v::vs=>by simpa [V4] using nU m vs
def least {p:Nat->Prop}(h:∃m,p m):∃m,p m/\∀k,p k->m<=k:=by
 obtain ⟨m,hm⟩:=h
 induction m using Nat.strongRecOn with
 |_ m ih =>
  grind
def aY2 {α β:Type}(d4:Nat->α->β->Prop):∃μ:α->β->Nat,∀a b,(∃m,d4 m a b)->d4 (μ a b) a b/\∀k,d4 k a b->μ a b<=k:=by
 have:∀a b,∃m,(∃m,d4 m a b)->d4 m a b/\∀k,d4 k a b->m<=k:=by
  intro a b
  by_cases h:∃m,d4 m a b
  all_goals simp_all [least,absurd]
 exact ⟨λa b=>Classical.choose (this a b),λa b=>Classical.choose_spec (this a b)⟩
section
variable {P:Program} {names:List Tmp} {E:Env} {nt:Nat}
def LF {st:St}{a:Act}{w:World}{G:Gh}{I:U3}{N:Nat->Prop}(h:Cd P names E nt st a w G I N)(mask:List Bool){n:Nat}(hn:E.entry<=n) :
  ∃N',Cd P names E nt (clean mask E.lim.strict n st) a w G I N' /\bB E st.H w G I N (clean mask E.lim.strict n st).H w G I N' :=by
 have hT:∀(s:Nat) t,names[s]? =J t->VR G I N w (.slot s) ((V4 mask st.T).getD s .any) (a.tmps.getD t undef):=by
  intro s t ht
  rcases tr mask st.T s with e|e
  .rw [e];exact h.T s t ht
  simp_all [VR]
 unfold clean;split
 next hc=>
  refine ⟨λi=>N i/\i<n,⟨λs t ht=>VR.low n _ _ _ ?_ (hT s t ht),λid o ho=>?_,h.wf,λid o ho=>?_,?_,λid hid=>?_,?_,h.size,h.idle⟩,?_⟩
  .cases hg:(V4 mask st.T)[s]? with
   |none=>simp [hg,c8.L7]
   |some v =>
    have:=vU _ _ _ hg
    grind
  .have hlt:id<n:=by grind
   rw [List.getElem?_take_of_lt hlt] at ho;exact OR.low hlt o (zv h.X7 hc.2 hlt ho) (h.H id o ho)
  .have hlt:id<n:=by grind
   rw [List.getElem?_take_of_lt hlt] at ho;exact h.X7 id o ho
  .simp [nU];exact h.X8
  .have:=h.cz id hid.1
   simp;omega
  .have:=h.Jw
   simp;omega
  .refine ⟨Ext.refl _ _,nr.refl _ _ _,λ_ _ _=>rfl,λid hid hN=>⟨hN,V⟩,λid _ hN=>hN.1,λid o' _ ho=>?_⟩
   grind
 .exact ⟨N,⟨hT,h.H,h.wf,h.X7,by simp [nU];exact h.X8,h.cz,h.Jw,h.size,h.idle⟩,bB.refl _ _ _ _ _ _⟩
def Sound (P:Program)(names:List Tmp)(nt:Nat)(E:Env)(C:Code)(run:St->Option (I6×St)):Prop :=
 ∀st x st' a w G I N,run st=J (x,st')->Cd P names E nt st a w G I N->∀Q:Exit->Act->World->Prop,
  (∀a' w' G' I' N',Cd P names E nt st' a' w' G' I' N' ->FU E st.H w G I N st'.H w' G' I' N' ->Q x.EJ a' w')->C.wp P Q a w
def EI {X:Cx}{l5:List p7}{S:Nat->Prop}{r:I9}{a:Act}{w:World}{G:Gh}{I:U3}{N:Nat->Prop}{i6:Nat->Bool}(h:Rg X l5 E nt S r a w G I N)(hD:∀j,i6 j=W->S j){c' :Operand}{c:y7}(hc:X.ck i6 c' c=W){b:Bool}
  (hv:K4 r.T r.L c= .d (.bool b)):a.eval c' = .bool b:=by
 have:=h.ri.U5 hD c' c hc;simp_all [VR,DR]
def CV {st:St}{a:Act}{w:World}{G:Gh}{I:U3}{N:Nat->Prop}(h:Cd P names E nt st a w G I N){c' :Operand}{c:y7}(hc:CO P names #[] 0 c' c=W){b:Bool}(hv:K4 st.T [] c= .d (.bool b)):a.eval c' = .bool b:=by
 have hR:Rg ⟨P,names,#[]⟩ [] E nt (λ_=>False) ⟨st.T,st.H,[],[]⟩ a w G I N:=h.start _ rfl (λ_ h=>h) [] U U rfl [];exact EI hR (i6:=λj=>decide (j<0)) (λj hj=>by simp at hj) hc hv
def andThen (rx ry:St->Option (I6×St)):St->Option (I6×St):=λst=>match rx st with
 |some (.normal,st')=>ry st'
 |r=>r
def Eu {x y:Code}{rx ry:St->Option (I6×St)}(hx:Sound P names nt E x rx)(hy:Sound P names nt E y ry)
  {st:St} {e:I6} {st' :St} {a:Act} {w:World} {G:Gh} {I:U3} {N:Nat->Prop} (hrun:andThen rx ry st=J (e,st')) (h:Cd P names E nt st a w G I N) (Q:Exit->Act->World->Prop)
  (hQ:∀a' w' G' I' N',Cd P names E nt st' a' w' G' I' N' ->FU E st.H w G I N st'.H w' G' I' N' ->Q e.EJ a' w'):x.wp P (Exit.then (y.wp P Q) Q) a w:=by
 unfold andThen at hrun;split at hrun
 next st1 h1=>
  refine hx st .normal st1 a w G I N h1 h _ ?_;intro a1 w1 G1 I1 N1 hc hs;simp only [I6.EJ,Exit.then];refine hy st1 e st' a1 w1 G1 I1 N1 hrun hc Q ?_;intro a2 w2 G2 I2 N2 qn hs2;exact hQ a2 w2 G2 I2 N2 qn (hs.trans hs2)
 next hne=>
  refine hx st e st' a w G I N hrun h _ ?_;intro a1 w1 G1 I1 N1 hc hs;have:=hQ a1 w1 G1 I1 N1 hc hs;cases e with
  |normal=>exact absurd hrun (hne st')
  |exit id=>exact this
  |ret=>exact this
def zw {x y:Code}{rx ry:St->Option (I6×St)}(hx:Sound P names nt E x rx)(hy:Sound P names nt E y ry) :
  Sound P names nt E (.seq x y) (andThen rx ry) :=
 λ_ _ _ _ _ _ _ _ hrun h Q hQ=>wp_seq (Eu hx hy hrun h Q hQ)
def FX (rx ry rz:St->Option (I6×St)):andThen (andThen rx ry) rz=andThen rx (andThen ry rz):=by
 grind [andThen]
def Et (hE:RV P E)(hn:mg names=W){ops:Array Oper}{l5:List p7}{d:Bool}{c:y7}{c' :Operand}(bX5:fF P names nt ops l5 d=W)(hck:CO P names ops (O l5) c' c=W)
  {st:St} {a:Act} {w:World} {G:Gh} {I:U3} {N:Nat->Prop} (h:Cd P names E nt st a w G I N) {r:I9} (hr:T5 E l5 d st.T st.H=J r) {b:Bool} (hv:K4 r.T r.L c= .d (.bool b)) (id:Nat) (Q:Exit->Act->World->Prop)
  (hQ:∀a' w' G' I' N',Cd P names E nt ⟨r.T,r.H⟩ a' w' G' I' N' ->FU E st.H w G I N r.H w' G' I' N' ->a'.eval c' = .bool b->Q .normal a' w'):(Code.region id ops d).wp P Q a w:=by
 refine wZ hE hn bX5 h hr id Q ?_;intro a' w' G' I' N' hR hs;exact hQ a' w' G' I' N' (Cd.done rfl hR) hs.trn (EI hR (i6:=λj=>decide (j<O l5)) (λj hj=>by simpa using hj) hck hv)
def Ru {c:Code}{body:St->Option (I6×St)}(hb:Sound P names nt E c body)(mask:List Bool)(fuel:Nat) :
  Sound P names nt E (.loop c) (λst=>jl body mask E.lim.strict (O st.H) fuel st):=by
 intro st e st' a w G I N hrun h Q hQ;simp only at hrun;generalize hn:O st.H=n at hrun;have hen:E.entry<=n:=by rw [<- hn];exact h.Jw
 let d4:Nat->Act->World->Prop:=λm a' w' =>∃st1 G1 I1 N1,jl body mask E.lim.strict n m st1=J (e,st')/\Cd P names E nt st1 a' w' G1 I1 N1/\FU E st.H w G I N st1.H w' G1 I1 N1
 obtain ⟨μ,bq0⟩:=aY2 d4;refine wp_loop (I:=λa' w' =>∃m,d4 m a' w') (μ:=μ) ⟨fuel,st,G,I,N,hrun,h,FU.refl _ _ _ _ _ _⟩ ?_;intro a1 w1 hJ;obtain ⟨hm,hmin⟩:=bq0 a1 w1 hJ;generalize hμ:μ a1 w1=m at hm;obtain ⟨st1,G1,I1,N1,GY,hc1,hs1⟩:=hm;cases m with
 |zero=>simp [jl] at GY
 |succ m =>
  simp only [jl] at GY;obtain ⟨N2,qn,hs2⟩:=LF hc1 mask hen;split at GY
  next st2 hb2=>
   refine hb _ .normal st2 a1 w1 G1 I1 N2 hb2 qn _ ?_;intro a3 w3 G3 I3 N3 hc3 hs3;simp only [I6.EJ,Exit.then];have hJ3:d4 m a3 w3:=⟨st2,G3,I3,N3,GY,hc3,(hs1.trans hs2.trn).trans hs3⟩;refine ⟨⟨m,hJ3⟩,?_⟩;exact Nat.lt_succ_of_le ((bq0 a3 w3 ⟨m,hJ3⟩).2 m hJ3)
  next hne=>
   refine hb _ e st' a1 w1 G1 I1 N2 GY qn _ ?_;intro a3 w3 G3 I3 N3 hc3 hs3;have:=hQ a3 w3 G3 I3 N3 hc3 ((hs1.trans hs2.trn).trans hs3);cases e with
   |normal=>exact absurd GY (hne st')
   |exit id=>exact this
   |ret=>exact this
def Dg {lim:Nat}(x y:q7):exec E lim (.seq x y)=andThen (exec E lim x) (exec E lim y):=by
 rfl
def Qy (hE:RV P E)(hn:mg names=W)(lim:Nat):∀(n:Nat) (c:q7) (C:Code),SizeOf.sizeOf c<n->aC P names nt C c=W->Sound P names nt E C (exec E lim c):=by
 intro n
 induction n with
 |zero=>intro c C h;omega
 |succ n ih =>
 intro c C hsz hc;unfold aC at hc;split at hc
 all_goals (try (cases hc;done))
 ·
  rename_i s k;simp only [q7.seq.sizeOf_spec] at hsz;have ik:=ih k C V hc;intro st e st' a w G I N hrun h Q hQ;simp only [exec] at hrun;cases hf:pE E.lim E.entry s st with
  |none=>rw [hf] at hrun;cases hrun
  |some st1 =>
   rw [hf] at hrun;obtain ⟨G1,I1,N1,h1,s1⟩:=aS7 h hf;exact ik st1 e st' a w G1 I1 N1 hrun h1 Q (λa' w' G' I' N' wH hs' =>hQ a' w' G' I' N' wH (s1.trans hs'))
 ·
  intro st e st' a w G I N hrun h Q hQ;simp only [exec] at hrun;cases hrun;exact wp_skip (hQ a w G I N h (FU.refl _ _ _ _ _ _))
 ·
  rename_i id ops d' l5 d;simp only [Bool.and_eq_true,beq_iff_eq] at hc;obtain ⟨rfl,hc⟩:=hc;intro st e st' a w G I N hrun h Q hQ;simp only [exec] at hrun;split at hrun
  next r hr=>
   cases hrun;refine wZ hE hn hc h hr id Q ?_;intro a' w' G' I' N' hR hs;exact hQ a' w' G' I' N' (Cd.done rfl hR) hs.trn
  .cases hrun
 ·
  rename_i id ops d' c' x' y' z' l5 d c x y k;simp only [Bool.and_eq_true,beq_iff_eq] at hc;obtain ⟨⟨⟨⟨⟨rfl,h1⟩,h2⟩,h3⟩,h4⟩,h5⟩:=hc;simp only [q7.seq.sizeOf_spec,q7.test.sizeOf_spec] at hsz;have ix:=ih x x' V h3;have iy:=ih y y' V h4;have iz:=ih k z' V h5;intro st e st' a w G I N hrun h Q hQ;simp only [exec] at hrun;refine wp_seq ?_;cases hr:T5 E l5 d st.T st.H with
  |none=>rw [hr] at hrun;cases hrun
  |some r =>
   rw [hr] at hrun;simp only at hrun;have both:∀(b:Bool) (z:Code) (rz:St->Option (I6×St)),K4 r.T r.L c= .d (.bool b)->Sound P names nt E z rz->andThen rz (exec E lim k) ⟨r.T,r.H⟩=J (e,st')->(if b then x' else y')=z->(Code.region id ops d).wp P (Exit.then ((Code.seq (.cond c' x' y') z').wp P Q) Q) a w:=by
    intro b z rz hv hz hrz hbz;refine Et hE hn h1 h2 h hr hv id _ ?_;intro a' w' G' I' N' wH hs' hev;simp only [Exit.then];refine wp_seq (wp_cond hev ?_);rw [hbz];refine Eu hz iz hrz wH Q ?_;intro a2 w2 G2 I2 N2 qn hs2;exact hQ a2 w2 G2 I2 N2 qn (hs'.trans hs2)
   cases hv:K4 r.T r.L c with
   |d v =>
    cases v with
    |bool b =>
     rw [hv] at hrun;cases b with
     |true=>exact both W x' _ hv ix hrun rfl
     |false=>exact both F y' _ hv iy hrun rfl
    |_=>rw [hv] at hrun;cases hrun
   |_=>rw [hv] at hrun;cases hrun
 ·
  rename_i id ops d' c' x' y' l5 d c x y;simp only [Bool.and_eq_true,beq_iff_eq] at hc;obtain ⟨⟨⟨⟨rfl,h1⟩,h2⟩,h3⟩,h4⟩:=hc;simp only [q7.test.sizeOf_spec] at hsz;have ix:=ih x x' V h3;have iy:=ih y y' V h4;intro st e st' a w G I N hrun h Q hQ;simp only [exec] at hrun;refine wp_seq ?_;cases hr:T5 E l5 d st.T st.H with
  |none=>rw [hr] at hrun;cases hrun
  |some r =>
   rw [hr] at hrun;simp only at hrun;have both:∀(b:Bool) (z:Code) (rz:St->Option (I6×St)),K4 r.T r.L c= .d (.bool b)->Sound P names nt E z rz->rz ⟨r.T,r.H⟩=J (e,st')->(if b then x' else y')=z->(Code.region id ops d).wp P (Exit.then ((Code.cond c' x' y').wp P Q) Q) a w:=by
    intro b z rz hv hz hrz hbz;refine Et hE hn h1 h2 h hr hv id _ ?_;intro a' w' G' I' N' wH hs' hev;simp only [Exit.then];refine wp_cond hev ?_;rw [hbz];refine hz _ e st' a' w' G' I' N' hrz wH Q ?_;intro a2 w2 G2 I2 N2 qn hs2;exact hQ a2 w2 G2 I2 N2 qn (hs'.trans hs2)
   cases hv:K4 r.T r.L c with
   |d v =>
    cases v with
    |bool b =>
     rw [hv] at hrun;cases b with
     |true=>exact both W x' _ hv ix hrun rfl
     |false=>exact both F y' _ hv iy hrun rfl
    |_=>rw [hv] at hrun;cases hrun
   |_=>rw [hv] at hrun;cases hrun
 ·
  rename_i i ops d' c' x' y' z' l5 d c x y k;simp only [Bool.and_eq_true] at hc;simp only [q7.seq.sizeOf_spec] at hsz;rw [Dg,Dg,FX];exact zw (ih (.region l5 d) _ V hc.1.1) (zw (ih (.cond c x y) _ V hc.1.2) (ih k z' V hc.2))
 ·
  rename_i x' y' x y _ _ _;simp only [Bool.and_eq_true] at hc;simp only [q7.seq.sizeOf_spec] at hsz;rw [Dg];exact zw (ih x x' V hc.1) (ih y y' V hc.2)
 ·
  rename_i c' x' y' c x y;simp only [Bool.and_eq_true] at hc;simp only [q7.cond.sizeOf_spec] at hsz;intro st e st' a w G I N hrun h Q hQ;simp only [exec] at hrun;split at hrun
  next hv=>
   exact wp_cond_true (CV h hc.1.1 hv) (ih x x' V hc.1.2 st e st' a w G I N hrun h Q hQ)
  next hv=>
   exact wp_cond_false (CV h hc.1.1 hv) (ih y y' V hc.2 st e st' a w G I N hrun h Q hQ)
  .cases hrun
 ·
  rename_i id' b' id b;simp only [Bool.and_eq_true,beq_iff_eq] at hc;obtain ⟨rfl,hc⟩:=hc;simp only [q7.block.sizeOf_spec] at hsz;have ib:=ih b b' V hc;intro st e st' a w G I N hrun h Q hQ;simp only [exec] at hrun;refine wp_block ?_;split at hrun
  next i1 st1 h1=>
   refine ib st (.exit i1) st1 a w G I N h1 h _ ?_;intro a' w' G' I' N' wH hs';simp only [I6.EJ,Exit.inBlock];split at hrun
   next he=>
    cases hrun;rw [if_pos he];exact hQ a' w' G' I' N' wH hs'
   next he=>
    cases hrun;rw [if_neg he];exact hQ a' w' G' I' N' wH hs'
  next hne=>
   refine ib st e st' a w G I N hrun h _ ?_;intro a' w' G' I' N' wH hs';have:=hQ a' w' G' I' N' wH hs';cases e with
   |normal=>exact this
   |exit i=>exact absurd hrun (hne i st')
   |ret=>exact this
 ·
  rename_i b' mask b;simp only [q7.loop.sizeOf_spec] at hsz;exact Ru (ih b b' V hc) mask lim
 ·
  rename_i id' id;intro st e st' a w G I N hrun h Q hQ;simp only [beq_iff_eq] at hc;subst hc;simp only [exec] at hrun;cases hrun;exact wp_exit (hQ a w G I N h (FU.refl _ _ _ _ _ _))
 ·
  intro st e st' a w G I N hrun h Q hQ;simp only [exec] at hrun;cases hrun;exact wp_ret (hQ a w G I N h (FU.refl _ _ _ _ _ _))
 ·
  intro st e st' a w G I N hrun h Q hQ;simp only [exec] at hrun;cases hrun
end
end Go.A1
namespace Go.A1
variable [E5]
def freeze (G:Gh)(n:Nat):Gh:=λb =>
 match G b with
 | .obj id=>if n<=id then .nj else .obj id
 |x=>x
section
variable {P:Program} {G:Gh} {I:U3} {N:Nat->Prop} {w:World} {n:Nat}
def PY {b o:Nat}(h:kA G b o):kA (freeze G n) b o:=by
 grind [kA,freeze]
def uW:Ext G w (freeze G n) w where
 os:=rfl
 tape:=rfl
 output:=rfl
 drawn _:=l6 _
 size:=l6 _
 nj b o h:=⟨PY h,rfl⟩
 still b h:=⟨by grind [freeze],rfl⟩
 shape _ c _ _ h:=⟨c,h,rfl⟩
def pz (q:Place):cR q G w (freeze G n) w:=λb m hb=>⟨by simp [freeze,hb],rfl⟩
def Dr {b id:Nat}(h:id<n)(hb:G b= .obj id):freeze G n b= .obj id:=by simp_all [freeze,if_neg]
def Wz (h:WF G w):WF (freeze G n) w:=λb hb=>by simp [freeze,h b hb]
theorem GU {pl:Place}{a:c8}{x:Value}(h:VR G I N w pl a x):VR (freeze G n) I N w pl a x :=
 VR.mono uW.sub (λ_ _=>rfl) (λ_ h=>h) _ _ _ (Or.inr (pz pl)) h
theorem av9 {pl:Place}{a:c8}{d:Data}{x:Value}(h:a.data? =J d)(hv:VR G I N w pl a x):DR G w d x:=by
 unfold c8.data? at h;split at h
 .simp_all [VR]
 .have:=hv.K7 (Av := .none)
  simp_all [c8.K7,VR]
 .have:=hv.K7 (Av := .none)
  simp_all [c8.K7,VR]
 .cases h
theorem sZ:∀(cs:List c8) (xs:List Data),P7 cs=J xs->O xs=O cs/\∀(i:Nat) x,xs[i]? =J x->∃a,cs[i]? =J a/\a.data? =J x
 |[],xs,h=>by simp_all [P7]
 |c::cs,xs,h=>by
  unfold P7 at h;split at h
  .split at h
   next ys hys=>
    obtain ⟨g1,g2⟩:=sZ cs ys hys
    grind
   .cases h
  .cases h
theorem th {H:q6}(hH:HR G I N w H):∀(fuel:Nat) (as bs:List c8),cV H n fuel as=J bs->O bs=O as/\∀(i:Nat) a pl x,as[i]? =J a->VR G I N w pl a x->∃b,bs[i]? =J b/\VR (freeze G n) I N w pl b x
 |0,as,bs,h=>by simp [cV] at h
 |fuel+1,[],bs,h=>by
  simp_all [cV]
 |fuel+1,v::vs,bs,h=>by
  simp [cV] at h;split at h
  .cases h
  next ws hws=>
   obtain ⟨l1,l2⟩:=th hH fuel vs ws hws;have fin:∀(u:c8),(∀pl x,VR G I N w pl v x->VR (freeze G n) I N w pl u x)->bs=u::ws->O bs=O (v::vs)/\∀(i:Nat) a pl x,(v::vs)[i]? =J a->VR G I N w pl a x->∃b,bs[i]? =J b/\VR (freeze G n) I N w pl b x:=by
    grind
   have cM3:∀(l l' :List c8),cV H n fuel l=J l' ->∀xs,L3 G I N w l xs->L3 (freeze G n) I N w l' xs:=by
    intro l l' hl xs hx;obtain ⟨m1,m2⟩:=th hH fuel l l' hl;have hlen:=L3.length _ _ hx
    grind [U4,y5,o6,L3.get]
   split at h
   next id sz lo len=>
    split at h
    .grind [GU]
    .split at h
     next us hus=>
      split at h
      next us' bY7=>
       split at h
       next xs hxs=>
        cases h;refine fin _ (λpl x hv=>?_) rfl;simp only [VR] at hv ⊢;obtain ⟨hN,cap,rfl,hcap,c,e,f,hc,hsz⟩:=hv;refine Or.inr ⟨(I id).1,(I id).2+lo,cap,rfl,hcap,?_⟩;obtain ⟨d1,d2⟩:=sZ us' xs hxs;obtain ⟨m1,m2⟩:=th hH fuel us us' bY7;refine Cp _ xs λi y hi=>?_
        have hpos:0<len * sz:=by
         all_goals grind [rd,y5]
        obtain ⟨_,zs,g1,g2,g3,g4⟩:=hH.rd hus hpos;have Af:i<len * sz:=by grind
        have WG:G (I id).1= .obj id:=by
         unfold rd at hus;split at hus
         next l0 hl0=>
          have:=hH id _ hl0
          grind [OR]
         .cases hus
        refine ⟨?_,?_⟩
        .simp_all [freeze,if_pos,kA]
        .have hz:zs[i]? =J zs[i]:=o6 V
         have hu:us[i]? =J us[i]:=o6 V
         grind [av9]
       .cases h
      .cases h
     .cases h
   .grind [VR]
   all_goals grind [VR,GU]
end
def gB (P:Program)(names:List Tmp):List ResultVar->List FR->Bool
 |[],[]=>W
 | .tmp t::r,.slot s::q=>names[s]? ==J t&&gB P names r q
 | .cell a t::r,.cell s n::q=>names[s]? ==J a&&vj P t n&&gB P names r q
 |_,_=>F
def vB (tmps:Array Value):ResultVar->Sem Value
 | .tmp t=>pure (tmps.getD t undef)
 | .cell a t=>do loadVar t (<- asAddr (tmps.getD a undef))
section
variable {P:Program} {names:List Tmp} {E:Env} {nt:Nat} {st:St} {a:Act} {w:World} {G:Gh} {I:U3} {N:Nat->Prop}
def aC8 (h:Cd P names E nt st a w G I N){rv:ResultVar}{ar:FR}(hc:gB P names [rv] [ar]=W){v:c8}(hv:kZ st.T st.H ar=J v):∃x s,(vB a.tmps rv).run P w= .ok x w/\VR G I N w (.slot s) v x:=by
 cases rv with
 |tmp t =>
  cases ar with
  |slot s =>
   simp only [gB,Bool.and_eq_true,beq_iff_eq] at hc;simp [kZ] at hv;have:=h.T s t hc.1;simp_all [vB]<;>grind
  |cell s n=>simp [gB] at hc
 |cell t ty =>
  cases ar with
  |slot s=>simp [gB] at hc
  |cell s n =>
   simp only [gB,Bool.and_eq_true,beq_iff_eq] at hc;obtain ⟨⟨h1,h2⟩,_⟩:=hc;cases n with
   |none =>
    simp [kZ] at hv;split at hv
    next id off hT=>
     split at hv
     next u hu=>
      cases hv;have hp:=h.T s t h1;rw [bZ hT] at hp;simp [VR] at hp;obtain ⟨_,xs,g1,_,g3,g4⟩:=h.H.rd hu V;obtain ⟨z,rfl⟩:∃z,xs=[z]:=List.length_eq_one_iff.1 g1;have hz:=g3 0 z rfl;have hvz:=g4 0 u z rfl rfl;have ha:fm P ty=J F:=by simp_all [vj]
      refine ⟨z,s,?_,hvz.K7⟩;simp_all [vB,asAddr,loadVar,dP]
     .cases hv
    .cases hv
   |some n =>
    simp [kZ] at hv;split at hv
    next id off hT=>
     split at hv
     next us hu=>
      cases hv;have hp:=h.T s t h1;rw [bZ hT] at hp;simp [VR] at hp;have ha:fm P ty=J W/\P.cellsOf ty=n/\0<n:=by simp_all [vj,and_assoc]
      obtain ⟨_,xs,g1,g2,g3,g4⟩:=h.H.rd hu ha.2.2;have hs:(sizeOf ty).run P w= .ok n w:=by
       grind [run_sizeOf,fm,info_of_underlying]
      have hl:=run_loadCells_list (P:=P) w (ad (I id).1 ((I id).2+off)) xs (λj v hj=>by simp_all [bX]);refine ⟨.agg xs.toArray,s,?_,?_⟩
      .simp_all [vB,asAddr,loadVar,dP]
      .refine ⟨_,rfl,U4 _ _ (by simp [g1,g2]) λj b v hj hv=>?_⟩
       simp at hj hv;obtain ⟨b',hb',rfl⟩:=hj;exact (g4 j b' v hb' hv).K7
     .cases hv
    .cases hv
theorem Ty (h:Cd P names E nt st a w G I N):∀(rvs:List ResultVar) (ars:List FR) (vs:List c8),gB P names rvs ars=W->bz st.T st.H ars=J vs ->
  ∃xs:List Value,(rvs.mapM (vB a.tmps)).run P w= .ok xs w/\O xs=O vs/\∀(i:Nat) v x,vs[i]? =J v->xs[i]? =J x->∃s,VR G I N w (.slot s) v x
 |[],ars,vs,hc,hv=>by
  cases ars with
  |cons _ _=>simp [gB] at hc
  |nil =>
   simp_all [bz]
 |rv::rvs,ars,vs,hc,hv=>by
  cases ars with
  |nil=>simp_all [gB]
  |cons ar ars =>
   have hc1:gB P names [rv] [ar]=W/\gB P names rvs ars=W:=by
    cases rv<;>cases ar<;>simp_all [gB]
   simp [bz] at hv;split at hv
   next v hv1=>
    split at hv
    next vs' hvs=>
     obtain ⟨x,s,h1,h2⟩:=aC8 h hc1.1 hv1;obtain ⟨xs,h3,h4,h5⟩:=Ty h rvs ars vs' hc1.2 hvs;simp_all<;>grind
    .cases hv
   .cases hv
end
end Go.A1
namespace Go.A1
variable [E5]
structure jc (w w' :World):Prop where
 heap:w'.heap=w.heap
 os:w'.os=w.os
 tape:w'.tape=w.tape
 output:w'.output=w.output
 drawn:w.drawn<=w'.drawn
theorem jc.refl (w:World):jc w w:=⟨rfl,rfl,rfl,rfl,l6 _⟩
theorem jc.trans {w w1 w2:World}(h:jc w w1)(k:jc w1 w2):jc w w2:=⟨k.heap.trans h.heap,k.os.trans h.os,k.tape.trans h.tape,k.output.trans h.output,C9 h.drawn k.drawn⟩
theorem jc.ext {G:Gh}{w w' :World}(h:jc w w'):Ext G w G w' where
 os:=h.os
 tape:=h.tape
 output:=h.output
 drawn _:=h.drawn
 size:=by rw [h.heap];exact l6 _
 nj b o hi:=⟨hi,nB h.heap _⟩
 still b _:=⟨rfl,by rw [h.heap]⟩
 shape b c e f hc:=⟨c,by rw [h.heap];exact hc,rfl⟩
def jc.keeps {G:Gh}{w w' :World}(h:jc w w')(q:Place):cR q G w G w' :=λb n hb=>⟨hb,by rw [h.heap]⟩
def Idle (P:Program)(f:FuncId):Prop :=
 V2 P f=W/\∀args w,CallsD P f args .returning w λe u' w' =>(∃v,e= .returned v)/\u' = .returning/\jc w w'
section
variable {P:Program} {names:List Tmp} {E:Env} {nt:Nat} {st:St} {a:Act} {w w' :World} {G:Gh} {I:U3} {N:Nat->Prop}
def Cd.same (h:Cd P names E nt st a w G I N)(hw:jc w w'):Cd P names E nt st a w' G I N where
 T s t ht:=VR.mono hw.ext.sub (λ_ _=>rfl) (λ_ h=>h) _ _ _ (Or.inr (hw.keeps _)) (h.T s t ht)
 H id o ho:=OR.mono hw.ext.sub (λ_ _=>rfl) (λ_ h=>h) id o (λh=>⟨h,by rw [hw.heap]⟩) (λ_=>hw.keeps _) (h.H id o ho)
 wf b hb:=h.wf b (by rw [<- hw.heap];exact hb)
 X7:=h.X7
 X8:=h.X8
 cz:=h.cz
 Jw:=h.Jw
 size:=h.size
 idle:=h.idle
def bB.same {H0 H:q6}{w0:World}{G0:Gh}{I0:U3}{N0:Nat->Prop}(h:bB E H0 w0 G0 I0 N0 H w G I N)(hw:jc w w'):bB E H0 w0 G0 I0 N0 H w' G I N :=
 h.trans ⟨hw.ext,λid _=>⟨λb hb=>⟨hb,by rw [hw.heap]⟩,λ_=>hw.keeps _⟩,λ_ _ _=>rfl,λ_ _ h=>h,λ_ _ h=>h,λ_ o _ ho=>Or.inr ⟨o,ho,l6 _⟩⟩
theorem An {idle:FuncId->Bool}(GW:∀f,idle f=W->Idle P f){fn:Func}{tmps:Array Value}{R:Ending->World->Prop}:∀(ds:List Deferred) (w:World),(∀d,d∈ds->Lf P idle d) ->
  (∀w',jc w w' ->∃v,(results fn tmps).run P w' = .ok v w' /\R (.returned v) w')->Leaves P fn tmps R ds .returning w
 |[],w,_,h=>h w (jc.refl w)
 |d::ds,w,hd,h=>by
  obtain ⟨f,cap,h1,h2⟩:=hd d U;obtain ⟨hcan,hD⟩:=GW f h2;obtain ⟨tgt,dargs⟩:=d;subst h1;refine leaves_cons (f:=f) (args:=dargs++cap) U (by simp_all [invoke,xg]) ?_;refine CallsD.mono (hD _ w) ?_;rintro e u' w' ⟨⟨v,rfl⟩,rfl,hw⟩;exact An GW ds w' (λd hd' =>hd d (by simp [hd'])) (λw'' hw' =>h w'' (hw.trans hw'))
def Ns {fn:Func}{tmps:Array Value}{xs:List Value}(h:(fn.results.toList.mapM (vB tmps)).run P w= .ok xs w) :
  (results fn tmps).run P w= .ok (if h:O xs=1 then xs[0]' V else .tuple xs.toArray) w:=by
 have e:results fn tmps=(fn.results.mapM (vB tmps) >>= λvs=>pure (if h:vs.size=1 then vs[0] else .tuple vs)):=by
  rfl
 grind [Array.mapM_eq_mapM_toList,map_eq_pure_bind,Sem.run_bind,Result.andThen_ok,Sem.run_pure,List.size_toArray]
def bc2 {vs:List c8}{xs:List Value}(hl:O xs=O vs)(h:∀(i:Nat) v x,vs[i]? =J v->xs[i]? =J x->∃s,VR G I N w (.slot s) v x) :
  ∃pl G2,lY pl G w G2/\(∀id off,pl≠ .cell id off)/\VR G2 I N w .ret (j3 vs) (if h:O xs=1 then xs[0]' V else .tuple xs.toArray):=by
 by_cases h1:O xs=1
 .obtain ⟨x,rfl⟩:=List.length_eq_one_iff.1 h1
  obtain ⟨v,rfl⟩:=List.length_eq_one_iff.1 (hl.symm.trans h1);obtain ⟨s,hv⟩:=h 0 v x rfl rfl;simp [j3]
  by_cases ho:∃z n c,v= .own z n c
  .obtain ⟨z,n,c,rfl⟩:=ho
   obtain ⟨G2,hm,hv2⟩:=kW (Av := .ret) U hv
   grind
  .exact ⟨.slot s,G,lY.refl _ _ _,U,by simpa using hv.Ll (λz n c e=>ho ⟨z,n,c,e⟩)⟩
 .refine ⟨.ret,G,lY.refl _ _ _,U,?_⟩
  rw [dif_neg h1];have e:j3 vs= .tuple (vs.map c8.K7):=by
   simp_all [j3]<;>grind
  rw [e];refine ⟨_,rfl,U4 _ _ (by simp [hl]) λj b v hj hv=>?_⟩;simp at hj hv;obtain ⟨b',hb',rfl⟩:=hj;obtain ⟨s,hs⟩:=h j b' v hb' hv;exact hs.K7
end
def jX (P:Program)(fn:Func)(af:q9):Bool :=
 match fn.body with
 |some c=>mg af.names&&decide (af.nparams<=O af.names)&&(af.names.take af.nparams==List.range af.nparams)&&decide (af.nparams<=fn.ntmps) &&
   aC P af.names fn.ntmps c af.body && gB P af.names fn.results.toList af.results && fn.name != "runtime.NumGoroutine"
 |none=>F
def Qi {P:Program}{A:Prog}(GW:∀f,A.idle f=W->Idle P f){cf:vR}{n:Nat}(SK:qF P cf A.prom)(hcan:∀f args H lm r,cf f args H lm=J r->V2 P f=W)
  {f:FuncId} {fn:Func} {af:q9} (hf:P.funcs[f]? =J fn) (Mb:jX P fn af=W) {args:List c8} {H:q6} {l:I7} {v:c8} {H1:q6} (hrun:jh A cf n af args H l=J (v,H1))
  {w:World} {G:Gh} {I:U3} {N:Nat->Prop} {J5:Array Value} (hpre:Cn l H w G I N args J5) (hbase:af.bw=F->l.base=O H) :
  Calls P f J5 w λe w' =>∃x G' I' N',e= .returned x/\nq l H w G I N v H1 x w' G' I' N' :=by
 unfold jX at Mb;cases hbody:fn.body with
 |none=>rw [hbody] at Mb;cases Mb
 |some c =>
  rw [hbody] at Mb;simp only [Bool.and_eq_true,decide_eq_true_eq,beq_iff_eq] at Mb;obtain ⟨⟨⟨⟨⟨⟨aU1,hnp⟩,bp3⟩,hnt⟩,bm5⟩,hres⟩,_⟩:=Mb;unfold jh at hrun;split at hrun
  next hlen=>
   have hvl:J5.size=O args:=by simpa using L3.length _ _ hpre.args
   have hstart:Cd P af.names ⟨cf,A.prom,A.mode,A.idle,l,O H⟩ fn.ntmps ⟨args++List.replicate (O af.names - O args) .any,H⟩ { tmps:=J5++Array.replicate (fn.ntmps - J5.size) undef,defers:=[] } w G I N:=by
    refine ⟨λs t ht=>?_,hpre.hr,hpre.wf,hpre.X7,?_,hpre.cz,l6 _,?_,U⟩
    .simp only
     by_cases hs:s<O args
     .have hst:t=s:=by
       have h1:(af.names.take af.nparams)[s]? =J t:=by rw [List.getElem?_take_of_lt V];exact ht
       rw [bp3,List.getElem?_range V] at h1;cases h1;rfl
      subst hst;obtain ⟨x,g1,g2⟩:=L3.get _ _ hpre.args t args[t] (o6 hs);have e1:(args++List.replicate (O af.names - O args) c8.any).getD t .any=args[t]:=by
       rw [List.getD,B9 hs,o6 hs];rfl
      have e2:(J5++Array.replicate (fn.ntmps - J5.size) undef).getD t undef=x:=by
       have hv:J5[t]? =J x:=by simpa using g1
       have hlt:t<J5.size:=Nat.lt_of_lt_of_eq hs hvl.symm;simp [Array.getElem?_append_left hlt,hv]
      rw [e1,e2];exact g2.place
     .have e1:(args++List.replicate (O af.names - O args) c8.any).getD s .any= .any:=by
       rw [List.getD,y3 V]
       rcases A5 (s - O args) (O af.names - O args) with h|h
       .simp [h]
       .rw [List.getElem?_eq_none (by simpa using h)];rfl
      rw [e1];simp [VR]
    .simp;omega
    .simp;omega
   have hE:RV P ⟨cf,A.prom,A.mode,A.idle,l,O H⟩:=⟨SK,hcan,hpre.strict,hpre.base⟩;refine calls_of_wp_defers hf hbody ?_;have fin:∀(st:St) (vs:List c8),bz st.T st.H af.results=J vs->finish af.bw (O H) vs st.H=J (v,H1)->∀a' w' G' I' N',Cd P af.names ⟨cf,A.prom,A.mode,A.idle,l,O H⟩ fn.ntmps st a' w' G' I' N' ->
     bB ⟨cf,A.prom,A.mode,A.idle,l,O H⟩ H w G I N st.H w' G' I' N' ->Leaves P fn a'.tmps (λe w' =>∃x G' I' N',e= .returned x/\nq l H w G I N v H1 x w' G' I' N') a'.defers .returning w' :=by
    intro st vs hvs uX a' w' G' I' N' hc hs;refine An GW a'.defers w' hc.idle ?_;intro w'' bp5;have qn:=hc.same bp5;have hs2:=hs.same bp5;obtain ⟨xs,h1,h2,h3⟩:=Ty qn fn.results.toList af.results vs hres hvs;refine ⟨_,Ns h1,(if h:O xs=1 then xs[0]' V else .tuple xs.toArray),?_⟩;obtain ⟨pl,G2,hm,Du,hv⟩:=bc2 (w:=w'') (G:=G') (I:=I') (N:=N') h2 h3;have QE:Ext G w G2 w'' :=hs2.ext.trans hm.ext;have aK3:nr l G w G2 w'' :=hs2.gj.trans λid _=>⟨λb hb=>⟨hm.obj b id hb,rfl⟩,λoff=>hm.keeps _ (λe=>Du id off e.symm)⟩
    have hhr:HR G2 I' N' w'' st.H:=qn.H.MM hm Du;unfold finish at uX;split at uX
    .cases uX
     refine ⟨G2,I',N',rfl,hv,hhr,hm.wf qn.wf,QE,aK3,λid hid hN=>hs2.inj id hid hN,λid hN=>hs2.mono id (hpre.cz id hN) hN,λid hid hN=>hs2.old id hid hN,qn.cz,hs2.hle,qn.X7⟩
    next Ah=>
     have Ah:af.bw=F:=by simpa using Ah
     have hb:=hbase Ah;split at uX
     next u hu=>
      split at uX
      next yO=>
       cases uX;obtain ⟨_,hfz⟩:=th (n:=O H) hhr 1000000 _ _ hu;obtain ⟨b,e1,e2⟩:=hfz 0 _ .ret _ rfl hv;simp at e1;subst e1;have Zn:=VR.low (O H) _ _ _ yO e2;have hlt:∀(id:Nat) o,(st.H.take (O H))[id]? =J o->id<O H/\st.H[id]? =J o:=by
        intro id o ho;have:id<O H:=by have:=y5 ho;simp at this;omega
        rw [List.getElem?_take_of_lt this] at ho;exact ⟨this,ho⟩
       refine ⟨freeze G2 (O H),I',λi=>N' i/\i<O H,rfl,Zn,λid o ho=>?_,Wz (hm.wf qn.wf),QE.trans uW,λid hid=>?_,λid hid hN=>hs2.inj id hid hN,λid hN=>⟨hs2.mono id (hpre.cz id hN) hN,hpre.cz id hN⟩,
        λid hid hN=>hs2.old id hid hN.1,λid hN=>?_,λid o' hid ho=>?_,λid o ho=>?_⟩
       .obtain ⟨h4,h5⟩:=hlt id o ho
        have qm:=(qn.X7 id o h5).2 (by simp only;omega);simp only at qm;exact OR.mono uW.sub (λ_ _=>rfl) (λ_ h=>h) id o (λhb=>⟨Dr h4 hb,rfl⟩) (λ_=>pz _) (OR.low h4 o V (hhr id o h5))
       .obtain ⟨p1,p2⟩:=aK3 id hid
        refine ⟨λb hb=>?_,λoff b m hb=>?_⟩
        .obtain ⟨q1,q2⟩:=p1 b hb
         exact ⟨Dr (hpre.nQ b id hb) q1,q2⟩
        .obtain ⟨q1,q2⟩:=p2 off b m hb
         obtain ⟨q3,_⟩:=pz (w:=w'') (n:=O H) (.cell id off) b m q1;exact ⟨q3,q2⟩
       .have:=qn.cz id hN.1;simp;omega
       .obtain ⟨h4,h5⟩:=hlt id o' ho
        exact hs2.hle id o' hid h5
       .obtain ⟨h4,h5⟩:=hlt id o ho
        exact qn.X7 id o h5
      .cases uX
     .cases uX
   split at hrun
   .cases hrun
   next x st hne hex=>
    split at hrun
    next vs hvs=>
     refine Qy hE aU1 n _ af.body c (Nat.lt_succ_self _) bm5 _ x st _ w G I N hex hstart _ ?_;intro a' w' G' I' N' hc hs;have:=fin st vs hvs hrun a' w' G' I' N' hc (hs H w G I N hpre.bZ9 (bB.refl _ _ _ _ _ _));cases x with
     |normal=>exact this
     |ret=>exact this
     |exit id=>exact absurd rfl (hne id)
    .cases hrun
   .cases hrun
  .cases hrun
def cL (P:Program)(prom:FuncId->Bool)(f:FuncId)(p:List c8->q6->I7->Option (c8×q6)):Prop :=
 V2 P f=W/\∀args H l v H1,p args H l=J (v,H1)->∀w G I N J5,Cn l H w G I N args J5->(prom f=F->l.base=O H) ->
  Calls P f J5 w λe w' =>∃x G' I' N',e= .returned x/\nq l H w G I N v H1 x w' G' I' N'
structure qH (P:Program)(A:Prog):Prop where
 idle:∀f,A.idle f=W->Idle P f
 cM:∀f p,A.cM f=J p->cL P A.prom f p
 fn:∀f af,A.cM f=K->A.fn f=J af->∃fn,P.funcs[f]? =J fn/\jX P fn af=W
def Qk {P:Program}{f:FuncId}{fn:Func}{af:q9}(hf:P.funcs[f]? =J fn)(h:jX P fn af=W):V2 P f=W:=by
 grind [jX,V2]
theorem oR {P:Program}{A:Prog}(h:qH P A):∀n,qF P (call A n) A.prom/\∀f args H lm r,call A n f args H lm=J r->V2 P f=W
 |0=>⟨λf args H l v H1 hc=>by simp [call] at hc,λf args H lm r hc=>by simp [call] at hc⟩
 |n+1=>by
  obtain ⟨ih1,ih2⟩:=oR h n;refine ⟨λf args H l v H1 hc w G I N J5 hpre hb=>?_,λf args H lm r hc=>?_⟩
  .simp [call] at hc
   split at hc
   next p hp=>
    exact (h.cM f p hp).2 args H l v H1 hc w G I N J5 hpre hb
   next hp=>
    split at hc
    next af haf=>
     obtain ⟨fn,h1,h2⟩:=h.fn f af hp haf;exact Qi h.idle ih1 ih2 h1 h2 hc hpre (λjG=>hb (by simp_all [Prog.prom]))
    .cases hc
  .simp [call] at hc
   split at hc
   next p hp=>
    exact (h.cM f p hp).1
   next hp=>
    split at hc
    next af haf=>
     obtain ⟨fn,h1,h2⟩:=h.fn f af hp haf;exact Qk h1 h2
    .cases hc
end Go.A1
namespace Go.A1
variable [E5]
def kE (o:Oper):Bool:=match o.op with
 | .call ⟨.builtin .recover,args,_⟩=>args.isEmpty&&o.guard.isNone
 |_=>F
def JK (P:Program)(d:Option Tmp)(o:Oper):Bool:=match o.op with
 | .binOp .neq t (.tmp x) (.const .nilIface) _=>d==J x&&o.guard.isNone&&(match P.underlying t with
  |some (.interface _)=>W
  |_=>F)
 |_=>F
def dF (P:Program)(fn:Func):Bool :=
 fn.name != "runtime.NumGoroutine" && fn.results.isEmpty && (match fn.body with
 |some (.region _ ops F)=>(match ops.toList with
  |[o]=>kE o
  |_=>F)
 |some (.seq (.region _ ops F) (.cond (.tmp c) _ .skip))=>(match ops.toList with
  |[o1,o2]=>kE o1&&JK P o1.dst o2&&o2.dst==J c&&(match o1.dst with
   |some d=>decide (d<fn.ntmps)&&decide (c<fn.ntmps)
   |none=>F)
  |_=>F)
 |_=>F)
def Az {P:Program}{o:Oper}(h:kE o=W)(a:Act)(w:World):(execOp a.eval o).run P w= .ok .recover w:=by
 unfold kE at h;split at h
 next args argTypes hop=>
  obtain ⟨dst,gh,ty,pos,after,guard⟩:=o;simp only at hop;subst hop;simp [execOp,resolve,invoke,builtin]
 .cases h
def rL {o:Oper}(h:kE o=W)(y:Nat->Option Bool):Region.wanted o y=W:=by
 unfold kE at h;split at h
 .simp only [Bool.and_eq_true] at h
  have:o.guard=K:=by simpa using h.2
  simp [Region.wanted,this]
 .cases h
def al0 {P:Program}{o:Oper}{d:Option Tmp}(h:JK P d o=W)(a:Act)(w:World)(ha:∀x,d=J x->a.tmps.getD x undef= .nilIface):(execOp a.eval o).run P w= .ok (.value (.bool F)) w:=by
 unfold JK at h;split at h
 next t x yt hop=>
  simp only [Bool.and_eq_true,beq_iff_eq] at h;obtain ⟨⟨h1,h2⟩,h3⟩:=h;obtain ⟨dst,gh,ty,pos,after,guard⟩:=o;simp only at hop;subst hop;have hx:a.eval (.tmp x)= .nilIface:=by simp only [Act.eval];exact ha x h1
  split at h3
  next ms hu=>
   have h1:(execOp a.eval (⟨dst,.binOp .neq t (.tmp x) (.const .nilIface) yt,ty,pos,after,guard⟩:Oper)).run P w= .ok (.value (.bool F)) w:=by
    simp only [execOp,hx];have hc:a.eval (.const .nilIface)= .nilIface:=rfl;rw [hc];simp only [eqGuard,binOp];simp [Gj hu]
   exact h1
  .cases h3
 .cases h
def aq {P:Program}{f:FuncId}{fn:Func}(hf:P.funcs[f]? =J fn)(h:dF P fn=W):Idle P f:=by
 unfold dF at h;simp only [Bool.and_eq_true] at h;obtain ⟨⟨hname,hres⟩,h⟩:=h;have bo7 :fn.results= #[]:=by simpa using hres
 have hrun:∀tmps w,(results fn tmps).run P w= .ok (.tuple #[]) w:=by
  intro tmps w;simp [results,bo7]
 have aK0:∀(c₀:Frame) (cs:List Frame),c₀.mode= .returning->recoverD (c₀::cs)=K:=by
  intro c₀ cs hm;simp [recoverD,hm]
 split at h
 next id ops hb=>
  refine ⟨by simp only [V2,hf,hb];simpa using hname,λargs w=>?_⟩;refine callsD_of_wpS hf hb ?_;intro c₀ cs hm;split at h
  next o ho=>
   have Zs:ops= #[o]:=by apply Array.toList_inj.1;simpa using ho
   subst Zs;refine wpS_region ?_;have Mc:(#[o]:Array Oper)[0]? =J o:=rfl;show wpOpsS P #[o] _ [0] _ _ _
   simp only [wpOpsS,Mc,rL h,if_true,Az h,aK0 c₀ cs hm];refine ⟨by rw [oT],.returning,?_,.tuple #[],hrun _ _,⟨_,rfl⟩,rfl,jc.refl _⟩;cases c₀;simp only at hm;subst hm;rfl
  .cases h
 next id ops c thn hb=>
  refine ⟨by simp only [V2,hf,hb];simpa using hname,λargs w=>?_⟩;refine callsD_of_wpS hf hb ?_;intro c₀ cs hm;split at h
  next o1 o2 ho=>
   have Zs:ops= #[o1,o2]:=by apply Array.toList_inj.1;simpa using ho
   subst Zs;simp only [Bool.and_eq_true,beq_iff_eq] at h;obtain ⟨⟨⟨h1,h2⟩,h3⟩,h4⟩:=h;cases hd:o1.dst with
   |none=>rw [hd] at h4;cases h4
   |some d =>
    rw [hd] at h4;simp only [Bool.and_eq_true,decide_eq_true_eq] at h4;refine wpS_seq (wpS_region ?_);have hg0:(#[o1,o2]:Array Oper)[0]? =J o1:=rfl;have hg1:(#[o1,o2]:Array Oper)[1]? =J o2:=rfl;show wpOpsS P #[o1,o2] _ [0,1] _ _ _
    simp only [wpOpsS,hg0,hg1,rL h1,if_true,Az h1,aK0 c₀ cs hm];have hw2:∀y,Region.wanted o2 y=W:=by
     intro y;unfold JK at h2;split at h2
     .simp only [Bool.and_eq_true] at h2
      have:o2.guard=K:=by simpa using h2.1.2
      simp [Region.wanted,this]
     .cases h2
    have hlt:d<(args++Array.replicate (fn.ntmps - args.size) undef).size:=Nat.lt_of_lt_of_le h4.1 D;have hlt2:c<(args++Array.replicate (fn.ntmps - args.size) undef).size:=Nat.lt_of_lt_of_le h4.2 D;have hr2:=λa hh=>al0 (P:=P) h2 a w hh
    simp only [hw2,if_true];rw [hr2 _ (by
     intro x hx;rw [hd] at hx;cases hx;rw [hd];exact cH hlt)]
    simp only [Oper.upon,Exit.thenS];refine wpS_cond (t:=F) ?_ ?_
    .rw [h3]
     simp only [Act.eval];exact cH (by rw [size_put];exact hlt2)
    .refine wpS_of_wp (wp_skip ?_)
     refine ⟨by rw [oT,oT],.returning,?_,.tuple #[],hrun _ _,⟨_,rfl⟩,rfl,jc.refl _⟩;cases c₀;simp only at hm;subst hm;rfl
  .cases h
 .cases h
end Go.A1
namespace Go.A1
open Go
def aI3 (P:Program)(g:FuncId->Option q9)(f:Nat):Bool:=match g f with
 |none=>W
 |some af=>match P.funcs[f]? with
  |some fn=>jX P fn af
  |none=>F
def upTo (n:Nat)(g:FuncId->Option q9)(f:FuncId):Option q9:=match Nat.blt f n with
 |true=>g f
 |false=>K
def jF (P:Program)(g:FuncId->Option q9)(k:Nat):Bool:=(List.range' (32 * k) 32).all (aI3 P g)
def aG3 {P:Program}{g:FuncId->Option q9}{n:Nat}(h:∀k,k<n->jF P g k=W)(f:FuncId)(af:q9)(hf:upTo (32 * n) g f=J af):∃fn,P.funcs[f]? =J fn/\jX P fn af=W:=by
 unfold upTo at hf;split at hf
 next hb=>
  have hb:Nat.lt f (32 * n):=j9 hb;have hb: @LT.lt Nat _ f (32 * n):=hb;have h1:=M1.1 (h (f / 32) (Nat.div_lt_of_lt_mul hb)) f (List.mem_range'_1.2 ⟨Nat.mul_div_le f 32,Nat.lt_mul_div_succ f (by decide)⟩);unfold aI3 at h1;rw [hf] at h1;simp only at h1;split at h1
  next fn hfn=>
   exact ⟨fn,hfn,h1⟩
  .cases h1
 .cases hf
end Go.A1
namespace Go.A1
variable [E5]
mutual
def Jy:Data->Data->Bool
 | .bool a,.bool b=>a==b
 | .int k a,.int k' b=>k==k' &&a==b
 | .str a,.str b=>a==b
 | .slice n xs,.slice m ys=>n==m&&yH xs ys
 | .dg,.dg=>W
 | .R2,.R2=>W
 | .ew,.ew=>W
 | .nilIface,.nilIface=>W
 |_,_=>F
def yH:List Data->List Data->Bool
 |[],[]=>W
 |x::xs,y::ys=>Jy x y&&yH xs ys
 |_,_=>F
end
mutual
theorem GQ:∀(a b:Data),Jy a b=W->a=b
 | .slice n xs,b,h=>by
  cases b<;>simp [Jy,Bool.and_eq_true,beq_iff_eq,j4] at h;rw [h.1,Dd _ _ h.2]
 | .bool _,b,h| .int _ _,b,h| .str _,b,h| .dg,b,h| .R2,b,h| .ew,b,h| .nilIface,b,h=>by cases b<;>simp_all [Jy]
theorem Dd:∀(a b:List Data),yH a b=W->a=b
 |[],[],_=>rfl
 |x::xs,y::ys,h=>by
  simp [yH,Bool.and_eq_true] at h;rw [GQ x y h.1,Dd xs ys h.2]
 |[],_::_,h=>by simp [yH] at h
 |_::_,[],h=>by simp [yH] at h
end
def eqC:c8->c8->Bool
 | .d x,.d y=>Jy x y
 |_,_=>F
def Ww:List c8->List c8->Bool
 |[],[]=>W
 |x::xs,y::ys=>eqC x y&&Ww xs ys
 |_,_=>F
def eqA:c8->c8->Bool
 | .agg l,.agg m=>Ww l m
 |a,b=>eqC a b
def Wv:List c8->List c8->Bool
 |[],[]=>W
 |x::xs,y::ys=>eqA x y&&Wv xs ys
 |_,_=>F
theorem GP {a b:c8}(h:eqC a b=W):a=b:=by
 unfold eqC at h
 grind [GQ]
theorem Dc:∀(a b:List c8),Ww a b=W->a=b
 |[],[],_=>rfl
 |x::xs,y::ys,h=>by
  simp [Ww,Bool.and_eq_true] at h;rw [GP h.1,Dc xs ys h.2]
 |[],_::_,h=>by simp [Ww] at h
 |_::_,[],h=>by simp [Ww] at h
def Wu {a b:c8}(h:eqA a b=W):a=b:=by
 unfold eqA at h
 grind [Dc,GP]
theorem Db:∀(a b:List c8),Wv a b=W->a=b
 |[],[],_=>rfl
 |x::xs,y::ys,h=>by
  simp [Wv,Bool.and_eq_true] at h;rw [Wu h.1,Db xs ys h.2]
 |[],_::_,h=>by simp [Wv] at h
 |_::_,[],h=>by simp [Wv] at h
structure Gz where
 f:FuncId
 args:List c8
 res:c8
def W8:I7:=⟨0,0,0,0⟩
def I7.isZero (l:I7):Bool:=l.XU==0&&l.XT==0&&l.base==0&&l.strict==0
theorem JL {l:I7}(h:l.isZero=W):l=W8:=by
 obtain ⟨a,b,c,d⟩:=l;simp [I7.isZero] at h;obtain ⟨⟨⟨rfl,rfl⟩,rfl⟩,rfl⟩:=h;rfl
def look (f:FuncId)(args:List c8):List Gz->Option c8
 |[]=>K
 |e::es=>if e.f==f&&Wv e.args args then J e.res else look f args es
theorem DC {f:FuncId}{args:List c8}{v:c8}:∀(es:List Gz),look f args es=J v->∃e,e∈es/\e.f=f/\e.args=args/\e.res=v
 |[],h=>by simp [look] at h
 |e::es,h=>by
  unfold look at h;split at h
  .grind [Db]
  .obtain ⟨e',h1,h2⟩:=DC es h
   grind
def memo (A:Prog)(es:List Gz):Prog :=
 ⟨A.fn,A.idle,A.mode,λf=>if es.any (λe=>e.f==f) then J (λargs H l=>if H.isEmpty&&l.isZero then (match look f args es with
  |some v=>J (v,[])
  |none=>K) else K) else A.cM f⟩
end Go.A1
namespace Go.A1
variable [E5]
structure Kept (w w' :World):Prop where
 os:w'.os=w.os
 output:w'.output=w.output
 size:w.heap.size<=w'.heap.size
 old:∀b:Nat,b<w.heap.size->w'.heap[b]? =w.heap[b]?
def Kept.but {w w' :World}(h:Kept w w')(may:MemPlace->Prop):w.keptBut w' may:=by
 refine ⟨h.os,h.output,λi hi=>?_⟩;rw [h.old i hi];split
 next qV lU=>
  rw [qV] at lU;cases lU;exact ⟨rfl,rfl,rfl,λ_ _=>rfl⟩
 next qV lU=>
  rw [qV] at lU;cases lU;exact Or.inr ⟨rfl,rfl⟩
 .rfl
theorem Kept.frozen {w w' :World}(h:Kept w w'){a:Addr}(ha:a.block<w.heap.size):w'.frozen? a=w.frozen? a:=by
 simp [World.frozen?,h.old a.block ha]
def G0 (w:World):Gh:=λb=>if b<w.heap.size then .nj else .free
def WR {P:Program}{A:Prog}(h:qH P A){n:Nat}{f:FuncId}{args:List c8}{J5:Array Value}{w:World}(hc:call A n f args [] W8=J (.d (.bool W),[]))
  (hargs:L3 (G0 w) (λ_=>(0,0)) (λ_=>False) w args J5.toList):Calls P f J5 w λe w' =>e= .returned (.bool W)/\Kept w w' :=by
 have hpre:Cn W8 [] w (G0 w) (λ_=>(0,0)) (λ_=>False) args J5:=by
  refine ⟨hargs,?_,?_,?_,?_,l6 _,l6 _,?_,λ_ b n pl hb=>by simp [G0] at hb;split at hb<;>cases hb⟩
  .intro id o ho;simp at ho
  .intro b hb;simp only [G0];rw [if_neg V]
  .intro id hid;exact hid.elim
  .intro id o ho;simp at ho
  .intro b id hb
   simp [G0] at hb;split at hb<;>cases hb
 refine Calls.mono ((oR h n).1 f args [] W8 _ _ hc w _ _ _ J5 hpre (λ_=>rfl)) ?_;rintro e w' ⟨x,G',I',N',rfl,hp⟩;have hx:=hp.val;subst hx;refine ⟨rfl,hp.ext.os,hp.ext.output,hp.ext.size,λb hb=>?_⟩;refine (hp.ext.still b (Or.inl ?_)).2;simp only [G0];rw [if_pos hb]
def Jk {A:Prog}{n:Nat}{f:FuncId}{af:q9}{args:List c8}{H:q6}{l:I7}(hp:A.cM f=K)(hf:A.fn f=J af):call A (n+1) f args H l=jh A (call A n) n af args H l:=by
 simp [call,hp,hf]
def ep (af:q9)(n:Nat)(o:Option (I6×St)):Option (c8×q6):=match o with
 |some (.exit _,_)=>K
 |some (_,st)=>(match bz st.T st.H af.results with
  |some vs=>finish af.bw n vs st.H
  |none=>K)
 |none=>K
def vZ {A:Prog}{cf:vR}{n:Nat}{af:q9}{args:List c8}{H:q6}{l:I7}(h:O args=af.nparams) :
  jh A cf n af args H l=ep af (O H) (exec ⟨cf,A.prom,A.mode,A.idle,l,O H⟩ n af.body ⟨args++List.replicate (O af.names - O args) .any,H⟩):=by
 unfold jh ep;rw [if_pos h];rfl
section
variable {H:Type} {enc:TypeId×Value->H} {P:Program}
open Go.ChangeShapes Go.WideShapes
def Xe {f:Func}{s:ChangeSpec}{apart fresh handsOn again:Bool}{f9 W' :World}{args:Array Value}{v:Value}{ds gs:List (DataW H)}{before pa pv:List MemPlace}
  (hW:DataW.Whole enc P f.params.toList s.vars apart f9 args.toList ds gs before) (hK:Kept f9 W')
  (hres:∀(b:Nat) (sp:Nat->Bool) (hd:Bool),DataW.TrodAll enc P W' b sp hd f.resultTypes.toList (v.resultList f.resultTypes.size) (s.fn H (ds++gs)).results [])
  (hargs:∀sp:Nat->Bool,(∀p∈before,sp p.block=W)->DataW.TrodAll enc P W' 0 sp W f.params.toList args.toList (s.fn H (ds++gs)).args pa)
  (hvars:∀sp:Nat->Bool,(∀p∈before,sp p.block=W)->DataW.TrodVars enc P W' sp s.vars (s.fn H (ds++gs)).vars pv)
  (hps:before=pa++pv)
  (hok:∀(j:Nat) (t:TypeId) (r:Value),f.resultTypes[j]? =J t->(v.resultList f.resultTypes.size)[j]? =J r->Value.okWide P W' .any 0 t r) :
  s.post enc P f apart fresh handsOn again f9 args v W' :=by
 have hlt:=hW.lt;have hin:∀p,p∈pa++pv->p∈before:=λp hp=>by rw [hps];exact hp
 refine ⟨ds,gs,before,[],pa,pv,hW,hres _ _ _,hargs _ (λp hp=>by simpa using hlt p hp),hvars _ (λp hp=>by simpa using hlt p hp),World.keptBut_mono (λp hp=>⟨hp,?_⟩) (hK.but _),λ_=>?_⟩
 .rw [hps,D7] at hp
  exact Or.inr hp
 .obtain ⟨_,_,_,_,_,hz,hn⟩:=hW
  refine ⟨hok,_,_,([]++pa)++pv,⟨[]++pa,pv,trodAll_append (hargs _ (λ_ _=>rfl)) (hres _ _ _),hvars _ (λ_ _=>rfl),rfl,λb off hp=>?_,λha=>?_⟩,λp hp _=>?_⟩
  .have hb:=hin _ (by simpa using hp)
   rw [hK.frozen (hlt _ hb)];exact hz b off hb
  .have:=hn ha
   rw [hps] at this;simpa using this
  .exact hin p (by simpa using hp)
end
end Go.A1
namespace Go.A1
instance:E5:=⟨False⟩
inductive CT where
 |bool
 |int (k:IntKind)
 |str
 |slice (e:List CT)
mutual
def Fits:CT->Data->Prop
 | .bool,d=>∃b,d= .bool b
 | .int k,d=>∃n,d= .int k n/\(Lit.int k n).wf=W
 | .str,d=>∃s:List UInt8,d= .str s/\O s<=maxLen
 | .slice e,d=>∃rows:List (List Data),d= .slice (O rows) rows.flatten/\O rows<=maxLen/\∀r,r∈rows->aF e r
def aF:List CT->List Data->Prop
 |[],ds=>ds=[]
 |c::cs,ds=>∃d r,ds=d::r/\Fits c d/\aF cs r
end
theorem aF.length:∀(l:List CT) (ds:List Data),aF l ds->O ds=O l
 |[],ds,h=>by simp_all [aF]
 |c::cs,ds,h=>by
  obtain ⟨d,r,rfl,_,h3⟩:=h;simp [aF.length cs r h3]
theorem oM:∀{l m:List CT} {ds es:List Data},aF l ds->aF m es->aF (l++m) (ds++es)
 |[],m,ds,es,h,k=>by simp_all [aF]
 |c::cs,m,ds,es,h,k=>by
  obtain ⟨d,r,rfl,h2,h3⟩:=h;exact ⟨d,r++es,rfl,h2,oM h3 k⟩
def Yl (a:Addr)(m n:Nat):a.add (m+n)=(a.add m).add n:=by
 grind [Addr.add,O8]
def PZ (P:Program)(lay:TypeId->List CT->Bool):List Field->Nat->List CT->Bool
 |[],_,l=>l.isEmpty
 |f::fs,o,l=>f.offset==o&&decide (P.cellsOf f.type<=O l)&&lay f.type (l.take (P.cellsOf f.type))&&PZ P lay fs (o+P.cellsOf f.type) (l.drop (P.cellsOf f.type))
def Wc (lay:List CT->Bool)(c:Nat):Nat->List CT->Bool
 |0,l=>l.isEmpty
 |m+1,l=>decide (c<=O l)&&lay (l.take c)&&Wc lay c m (l.drop c)
def Lay (P:Program):Nat->TypeId->List CT->Bool
 |0,_,_=>F
 |n+1,t,l=>match P.underlying t with
  |some .bool=>(match l with
   |[.bool]=>W
   |_=>F)
  |some (.int k)=>(match l with
   |[.int k']=>k==k'
   |_=>F)
  |some .string=>(match l with
   |[.str]=>W
   |_=>F)
  |some (.slice e)=>(match l with
   |[.slice le]=>Lay P n e le&&P.cellsOf e==O le&&decide (0<O le)
   |_=>F)
  |some (.struct fs)=>P.cellsOf t==O l&&PZ P (Lay P n) fs.toList 0 l
  |some (.array m e)=>P.cellsOf t==O l&&Wc (Lay P n e) (P.cellsOf e) m l
  |_=>F
abbrev I0:U3:=λ_=>(0,0)
abbrev N0:Nat->Prop:=λ_=>False
theorem Kept.cell {w w' :World}(h:Kept w w'){a:Addr}{v:Value}(hv:w.cell? a=J v):w'.cell? a=J v:=by
 have:a.block<w.heap.size:=by
  grind [A5,World.cell?,Array.getElem?_eq_none]
 have e:w'.cell? a=w.cell? a:=by
  unfold World.cell?;rw [h.old _ this]
 simp_all
theorem kF {α β:Type}{f g:α->Option β}:∀{l:List α} {ys:List β},(∀x y,x∈l->y∈ys->f x=J y->g x=J y)->l.mapM f=J ys->l.mapM g=J ys
 |[],ys,_,h=>by simpa using h
 |x::xs,ys,hfg,h=>by
  rw [List.mapM_cons] at h ⊢;cases hf:f x with
  |none=>simp_all
  |some y =>
   rw [hf] at h;cases hr:xs.mapM f with
   |none=>simp_all
   |some r =>
    simp [hr] at h;subst h;rw [hfg x y U U hf,kF (λa b ha hb=>hfg a b (by simp [ha]) (by simp [hb])) hr];rfl
theorem ki {α β:Type}{f:α->Option β}:∀{l:List α} {ys:List β},l.mapM f=J ys->O ys=O l/\∀(i:Nat) x,l[i]? =J x->∃y,ys[i]? =J y/\f x=J y
 |[],ys,h=>M
 |x::xs,ys,h=>by
  rw [List.mapM_cons] at h;cases hf:f x with
  |none=>simp_all
  |some y =>
   rw [hf] at h;cases hr:xs.mapM f with
   |none=>simp_all
   |some r =>
    simp  at h;obtain ⟨h1,h2⟩:=ki hr
    grind
theorem Kept.cells {w w' :World}(h:Kept w w'){base:Nat}{a:Addr}{n:Nat}{cs:List Value}(hc:w.cells? base a n=J cs):w'.cells? base a n=J cs:=by
 unfold World.cells? at hc ⊢;split at hc
 next hb=>
  rw [if_pos hb];exact kF (λx y _ _ hx=>h.cell hx) hc
 .cases hc
section
variable {H:Type} {enc:TypeId×Value->H} {P:Program} {w:World} {base:Nat} {spare:Nat->Bool} {held:Bool}
theorem trod_bool {t:TypeId}{fuel:Nat}{cs:List Value}{x:DataW H×List MemPlace}(hu:P.underlying t=J .bool)(h:DataW.trod enc P w base spare held (fuel+1) t cs=J x):∃b,cs=[.bool b]/\x=(.lit (.bool b),[]):=by
 unfold DataW.trod at h
 grind
theorem trod_int {t:TypeId}{k:IntKind}{fuel:Nat}{cs:List Value}{x:DataW H×List MemPlace}(hu:P.underlying t=J (.int k))(h:DataW.trod enc P w base spare held (fuel+1) t cs=J x):∃n,cs=[.int k n]/\(Lit.int k n).wf=W/\x=(.lit (.int k n),[]):=by
 unfold DataW.trod at h
 grind
theorem EO {t:TypeId}{fuel:Nat}{cs:List Value}{x:DataW H×List MemPlace}(hu:P.underlying t=J .string)(h:DataW.trod enc P w base spare held (fuel+1) t cs=J x):∃s:ByteArray,cs=[.string s]/\s.size<=maxLen/\x=(.lit (.string s.data.toList),[]):=by
 unfold DataW.trod at h
 grind
def trod_slice {t e:TypeId}{fuel:Nat}{cs:List Value}{x:DataW H×List MemPlace}(hu:P.underlying t=J (.slice e))(h:DataW.trod enc P w base spare held (fuel+1) t cs=J x) :
  (cs=[.slice K 0 0]/\x=(.nil,[]))\/∃a len cap,cs=[.slice (J a) len cap]/\base<=a.block/\len<=cap/\cap<=maxLen /\
   (∃elems,((List.range len).mapM λi=>(w.cells? base (a.add (i * P.cellsOf e)) (P.cellsOf e)).bind (DataW.trod enc P w base spare held fuel e))=J elems) /\
   (spare a.block=W->∃rest,((List.range (cap - len)).mapM λj=>(w.cells? base (a.add ((len+j) * P.cellsOf e)) (P.cellsOf e)).bind (DataW.trod enc P w base spare held fuel e))=J rest):=by
 unfold DataW.trod at h;rw [hu] at h
 match cs,h with
 |[],h=>cases h
 |[v],h =>
  cases v<;>try (cases h)
  rename_i o len cap;cases o with
  |none =>
   cases len with
   |zero =>
    cases cap with
    |zero=>simp_all
    |succ c=>cases h
   |succ n=>cases h
  |some a =>
   simp only at h;split at h
   next hc=>
    refine Or.inr ⟨a,len,cap,rfl,hc.1,hc.2.1,hc.2.2,?_⟩;cases hm:(List.range len).mapM λi=>(w.cells? base (a.add (i * P.cellsOf e)) (P.cellsOf e)).bind (DataW.trod enc P w base spare held fuel e) with
    |none=>simp_all
    |some elems =>
     refine ⟨⟨elems,rfl⟩,λhs=>?_⟩;cases hr:(List.range (cap - len)).mapM λj=>(w.cells? base (a.add ((len+j) * P.cellsOf e)) (P.cellsOf e)).bind (DataW.trod enc P w base spare held fuel e) with
     |none=>simp_all
     |some rest=>simp_all
   .cases h
 |v::_::_,h=>simp_all
def trod_array {t e:TypeId}{m:Nat}{fuel:Nat}{cs:List Value}{x:DataW H×List MemPlace}(hu:P.underlying t=J (.array m e))(h:DataW.trod enc P w base spare held (fuel+1) t cs=J x) :
  O cs=P.cellsOf t/\∃xs,((List.range m).mapM λi=>DataW.trod enc P w base spare held fuel e ((cs.drop (i * P.cellsOf e)).take (P.cellsOf e)))=J xs/\x=(.agg (xs.map (·.1)),xs.flatMap (·.2)):=by
 simp_all [DataW.trod]<;>grind
def trod_struct {t:TypeId}{fs:Array Field}{fuel:Nat}{cs:List Value}{x:DataW H×List MemPlace}(hu:P.underlying t=J (.struct fs))(h:DataW.trod enc P w base spare held (fuel+1) t cs=J x) :
  O cs=P.cellsOf t/\∃xs,(fs.toList.mapM λf=>DataW.trod enc P w base spare held fuel f.type ((cs.drop f.offset).take (P.cellsOf f.type)))=J xs/\x=(.agg (xs.map (·.1)),xs.flatMap (·.2)):=by
 simp_all [DataW.trod]<;>grind
abbrev Cells (w:World)(ds:List Data)(cs:List Value):Prop:=L3 (G0 w) I0 N0 w (ds.map .d) cs
theorem Cells.append {ds es:List Data}{cs fs:List Value}(h:Cells w ds cs)(k:Cells w es fs):Cells w (ds++es) (cs++fs):=by
 simp_all [Cells,List.map_append,uI]
theorem aQ9 {b o:Nat}{v:Value}(h:w.cell? (ad b o)=J v):kA (G0 w) b o:=by
 grind [A5,World.cell?,Array.getElem?_eq_none,kA,G0]
def af6 (hspare:∀b,spare b=W):∀(n:Nat) (t:TypeId) (l:List CT),Lay P n t l=W->∀(fuel:Nat) (cs:List Value) (x:DataW H×List MemPlace),DataW.trod enc P w base spare held fuel t cs=J x->∃ds,aF l ds/\Cells w ds cs:=by
 intro n
 induction n with
 |zero=>simp_all [Lay]
 |succ n ih =>
  intro t l hL fuel cs x h;cases fuel with
  |zero=>simp [DataW.trod] at h
  |succ fuel =>
   unfold Lay at hL;split at hL
   next hu=>
    split at hL
    .obtain ⟨b,rfl,_⟩:=trod_bool hu h
     exact ⟨[.bool b],by simp [aF,Fits],by simp [Cells,L3,VR,DR]⟩
    .cases hL
   next k hu=>
    split at hL
    next k'=>
     have:k=k' :=M
     subst this;obtain ⟨m,rfl,hw,_⟩:=trod_int hu h;exact ⟨[.int k m],by simp_all [aF,Fits],by simp [Cells,L3,VR,DR]⟩
    .cases hL
   next hu=>
    split at hL
    .obtain ⟨s,rfl,hs,_⟩:=EO hu h
     refine ⟨[.str s.data.toList],?_,by simp [Cells,L3,VR,DR]⟩;simp_all [aF,Fits]
    .cases hL
   next e hu=>
    split at hL
    next le=>
     simp only [Bool.and_eq_true,beq_iff_eq,decide_eq_true_eq] at hL;obtain ⟨⟨hLe,hce⟩,hpos⟩:=hL
     rcases trod_slice hu h with ⟨rfl,_⟩|⟨a,len,cap,rfl,hb,hlc,hcm,⟨elems,hel⟩,wK⟩
     .refine ⟨[.slice 0 []],?_,by simp [Cells,L3,VR,DR]⟩
      simp only [aF,Fits];exact ⟨_,_,rfl,⟨[],rfl,U,U⟩,rfl⟩
     ·
      obtain ⟨PS,pH⟩:=ki hel;have rows:∀m,m<=len->∃rows:List (List Data),O rows=m/\(∀r,r∈rows->aF le r)/\(∀(j:Nat) d,rows.flatten[j]? =J d->∃v,w.cell? (a.add j)=J v/\DR (G0 w) w d v):=by
       intro m
       induction m with
       |zero=>simp_all
       |succ m ihm =>
        intro hm;obtain ⟨rows,r1,r2,r3⟩:=ihm V;obtain ⟨y,_,hy⟩:=pH m m (List.getElem?_range V);cases hcell:w.cells? base (a.add (m * P.cellsOf e)) (P.cellsOf e) with
        |none=>simp_all
        |some ces =>
         rw [hcell] at hy;simp only [Option.bind_some] at hy;obtain ⟨ds,f1,f2⟩:=ih e le hLe fuel ces y hy;have hds:O ds=O le:=aF.length _ _ f1;have SL:O rows.flatten=m * O le:=by
          rw [List.length_flatten];have:∀q,q∈rows.map List.length->q=O le:=by
           grind [aF.length]
          have bX6:rows.map List.length=List.replicate m (O le):=by
           rw [List.eq_replicate_iff]
           grind
          rw [bX6];simp
         refine ⟨rows++[ds],by simp [r1],?_,?_⟩
         .grind
         .intro j d hj
          rw [List.flatten_append] at hj;simp only [List.flatten_cons,List.flatten_nil,List.append_nil] at hj
          by_cases hjl:j<O rows.flatten
          .grind
          .rw [y3 V] at hj
           have FQ:=y5 hj;unfold World.cells? at hcell;split at hcell
           .obtain ⟨c1,c2⟩:=ki hcell
            obtain ⟨v,v1,v2⟩:=c2 (j - O rows.flatten) (j - O rows.flatten) (List.getElem?_range V);have bV1:(a.add (m * P.cellsOf e)).add (j - O rows.flatten)=a.add j:=by
             rw [<- Yl];simp_all
            rw [bV1] at v2;obtain ⟨v',w1,w2⟩:=L3.get _ _ f2 (j - O rows.flatten) (.d d) M;simp_all [VR]
           .cases hcell
      obtain ⟨rows,r1,r2,r3⟩:=rows len (l6 _);refine ⟨[.slice (O rows) rows.flatten],?_,?_⟩
      .grind [aF,Fits]
      .simp only [Cells,K0,List.map_nil,L3,VR]
       refine ⟨_,_,rfl,?_,rfl⟩;simp only [DR]
       by_cases hcap:cap=0
       .simp_all
       ·
        have aT7:∃ces,w.cells? base (a.add 0) (P.cellsOf e)=J ces:=by
         by_cases hl0:len=0
         .obtain ⟨rest,hr⟩:=wK (hspare _)
          obtain ⟨_,c2⟩:=ki hr;obtain ⟨y,_,hy⟩:=c2 0 0 (by grind);rw [hl0] at hy;simp only [Nat.zero_add,Nat.zero_mul] at hy;cases WE:w.cells? base (a.add 0) (P.cellsOf e) with
          |none=>simp_all
          |some ces=>simp_all
         .obtain ⟨y,_,hy⟩:=pH 0 0 (by grind)
          simp only [Nat.zero_mul] at hy;cases WE:w.cells? base (a.add 0) (P.cellsOf e) with
          |none=>simp_all
          |some ces=>simp_all
        obtain ⟨ces,ax5⟩:=aT7;have hcell:∃v,w.cell? a=J v:=by
         unfold World.cells? at ax5;split at ax5
         .obtain ⟨_,c2⟩:=ki ax5
          obtain ⟨v,_,hv⟩:=c2 0 0 M;simp_all [Addr.add]
         .cases ax5
        obtain ⟨v,hv⟩:=hcell;have ha:a=ad a.block a.off:=by
         obtain ⟨b,o,sp⟩:=a;cases sp with
         |none=>rfl
         |some q =>
          grind [World.cell?]
        grind [Cp,bX,aQ9]
    .cases hL
   next fs hu=>
    simp only [Bool.and_eq_true,beq_iff_eq] at hL;obtain ⟨hlen,xs,hxs,_⟩:=trod_struct hu h;have fields:∀(fl:List Field) (o:Nat) (l:List CT) (ys:List (DataW H×List MemPlace)),PZ P (Lay P n) fl o l=W->(fl.mapM λf=>DataW.trod enc P w base spare held fuel f.type ((cs.drop f.offset).take (P.cellsOf f.type)))=J ys->O (cs.drop o)=O l ->
      ∃ds,aF l ds/\Cells w ds (cs.drop o):=by
     intro fl
     induction fl with
     |nil =>
      simp_all [PZ,aF,Cells,L3]<;>omega
     |cons f fl ihf =>
      intro o l ys hl hm hlen;simp only [PZ,Bool.and_eq_true,beq_iff_eq,decide_eq_true_eq] at hl;obtain ⟨⟨⟨ho,hle⟩,WH⟩,wK⟩:=hl;rw [List.mapM_cons] at hm;cases hf:DataW.trod enc P w base spare held fuel f.type ((cs.drop f.offset).take (P.cellsOf f.type)) with
      |none=>simp_all
      |some y =>
       rw [hf] at hm;cases hr:fl.mapM λf=>DataW.trod enc P w base spare held fuel f.type ((cs.drop f.offset).take (P.cellsOf f.type)) with
       |none=>simp_all
       |some r =>
        rw [ho] at hf;obtain ⟨d1,a1,a2⟩:=ih f.type _ WH fuel _ y hf;obtain ⟨d2,b1,b2⟩:=ihf (o+P.cellsOf f.type) (l.drop (P.cellsOf f.type)) r wK hr (by grind);refine ⟨d1++d2,?_,?_⟩
        .grind [List.take_append_drop,oM]
        .have:cs.drop o=(cs.drop o).take (P.cellsOf f.type)++cs.drop (o+P.cellsOf f.type):=by
          rw [<- List.drop_drop,List.take_append_drop]
         rw [this];exact a2.append b2
    grind
   next m e hu=>
    simp only [Bool.and_eq_true,beq_iff_eq] at hL;obtain ⟨hlen,xs,hxs,_⟩:=trod_array hu h;obtain ⟨_,hat⟩:=ki hxs;have elems:∀(q k:Nat) (l:List CT),k+q=m->Wc (Lay P n e) (P.cellsOf e) q l=W->O (cs.drop (k * P.cellsOf e))=O l->∃ds,aF l ds/\Cells w ds (cs.drop (k * P.cellsOf e)):=by
     intro q
     induction q with
     |zero =>
      simp_all [Wc,aF,Cells,L3]<;>omega
     |succ q ihq =>
      intro k l hkq hl hlen;simp only [Wc,Bool.and_eq_true,decide_eq_true_eq] at hl;obtain ⟨⟨hle,WH⟩,wK⟩:=hl;obtain ⟨y,_,hy⟩:=hat k k (by grind);obtain ⟨d1,a1,a2⟩:=ih e _ WH fuel _ y hy;obtain ⟨d2,b1,b2⟩:=ihq (k+1) (l.drop (P.cellsOf e)) V wK (by grind);refine ⟨d1++d2,?_,?_⟩
      .grind [List.take_append_drop,oM]
      .have:cs.drop (k * P.cellsOf e)=(cs.drop (k * P.cellsOf e)).take (P.cellsOf e)++cs.drop ((k+1) * P.cellsOf e):=by
        rw [Nat.succ_mul,<- List.drop_drop,List.take_append_drop]
       rw [this];exact a2.append b2
    have:=elems m 0 l V hL.2 M;simp_all
   .cases hL
def XJ {w' :World}(hK:Kept w w'){sp:Nat->Bool}:∀(n:Nat) (t:TypeId) (l:List CT),Lay P n t l=W->∀(fuel:Nat) (cs:List Value) (x:DataW H×List MemPlace),(∀p,p∈x.2->sp p.block=W) ->
  DataW.trod enc P w base (λ_=>W) held fuel t cs=J x->DataW.trod enc P w' base sp held fuel t cs=J x:=by
 intro n
 induction n with
 |zero=>simp_all [Lay]
 |succ n ih =>
  intro t l hL fuel cs x hsp h;cases fuel with
  |zero=>simp [DataW.trod] at h
  |succ fuel =>
   unfold Lay at hL;split at hL
   next hu=>
    obtain ⟨b,rfl,rfl⟩:=trod_bool hu h;simp [DataW.trod,hu]
   next k hu=>
    obtain ⟨m,rfl,hw,rfl⟩:=trod_int hu h;simp [DataW.trod,hu,hw]
   next hu=>
    obtain ⟨s,rfl,hs,rfl⟩:=EO hu h;simp [DataW.trod,hu,hs]
   next e hu=>
    split at hL
    next le=>
     simp only [Bool.and_eq_true,beq_iff_eq,decide_eq_true_eq] at hL;obtain ⟨⟨hLe,hce⟩,hpos⟩:=hL;have hel:∀(a:Addr) (y:DataW H×List MemPlace),(∀p,p∈y.2->sp p.block=W)->(w.cells? base a (P.cellsOf e)).bind (DataW.trod enc P w base (λ_=>W) held fuel e)=J y->(w'.cells? base a (P.cellsOf e)).bind (DataW.trod enc P w' base sp held fuel e)=J y:=by
      intro a y hy1 hy;cases hc:w.cells? base a (P.cellsOf e) with
      |none=>simp_all
      |some ces =>
       rw [hK.cells hc]
       grind
     rcases trod_slice hu h with ⟨rfl,rfl⟩|⟨a,len,cap,rfl,hb,hlc,hcm,⟨elems,bn0⟩,wK⟩
     .simp [DataW.trod,hu]
     .obtain ⟨rest,hr⟩:=wK rfl
      have hx:x=(.slice (elems.map (·.1)) (rest.map (·.1)),MemPlace.row a ((O elems+O rest) * P.cellsOf e)++(elems++rest).flatMap (·.2)):=by
       simp_all [DataW.trod,if_pos,Option.bind_some,if_true,O9,Option.some.injEq]
      subst hx;have hin:∀y,y∈elems++rest->∀p,p∈y.2->sp p.block=W:=by
       grind
      have hblk:cap - len=0\/sp a.block=W:=by
       by_cases hc0:cap=0
       .omega
       .right
        have h1:=(ki bn0).1;have h2:=(ki hr).1;simp only [List.length_range] at h1 h2;have:0<(O elems+O rest) * P.cellsOf e:=by
         rw [h1,h2,hce];exact Nat.mul_pos V hpos
        refine hsp (.cell a.block (a.off+0)) (K8 _ ?_);exact J4.2 ⟨0,List.mem_range.2 this,rfl⟩
      unfold DataW.trod;rw [hu];simp only;rw [if_pos ⟨hb,hlc,hcm⟩,kF (λi y _ hy' hy=>hel _ y (hin y (by simp [hy'])) hy) bn0];have hr' :=kF (g:=λj=>(w'.cells? base (a.add ((len+j) * P.cellsOf e)) (P.cellsOf e)).bind (DataW.trod enc P w' base sp held fuel e)) (λi y _ hy' hy=>hel _ y (hin y (by simp [hy'])) hy) hr
      grind
    .cases hL
   next fs hu=>
    obtain ⟨hlen,xs,hxs,rfl⟩:=trod_struct hu h;have fields:∀(fl:List Field) (o:Nat) (l:List CT),PZ P (Lay P n) fl o l=W->∀f,f∈fl->∃l',Lay P n f.type l' =W:=by
     intro fl
     induction fl with
     |nil=>simp_all
     |cons g fl ihf =>
      grind [PZ]
    have:=kF (g:=λf=>DataW.trod enc P w' base sp held fuel f.type ((cs.drop f.offset).take (P.cellsOf f.type))) (λf y hf hy' hy=>by
     grind) hxs
    simp_all [DataW.trod,if_pos]
   next m e hu=>
    obtain ⟨hlen,xs,hxs,rfl⟩:=trod_array hu h;have WH:m=0\/∃l',Lay P n e l' =W:=by
     cases m with
     |zero=>omega
     |succ m =>
      grind [Wc]
    have:=kF (g:=λi=>DataW.trod enc P w' base sp held fuel e ((cs.drop (i * P.cellsOf e)).take (P.cellsOf e))) (λi y hi hy' hy=>by
     grind) hxs
    simp_all [DataW.trod,if_pos]
   .cases hL
end
def isStr (P:Program)(t:TypeId):Bool:=match P.underlying t with
 |some (.struct _)=>W
 |_=>F
def asArg (agg:Bool)(ds:List Data):c8:=if agg then .agg (ds.map .d) else .d (ds.headD .dg)
def sR (P:Program):List TypeId->List (List CT)->List c8->Prop
 |[],_,as=>as=[]
 |t::ts,ls,as=>∃ds r,as=asArg (isStr P t) ds::r/\aF (ls.headD []) ds/\sR P ts ls.tail r
def ZB (P:Program)(t:TypeId):Bool:=match P.underlying t with
 |some (.array _ _)=>W
 |_=>F
def Ja (P:Program):List TypeId->List (List CT)->Bool
 |[],_=>W
 |t::ts,ls=>(Lay P 20 t (ls.headD [])&& !ZB P t)&&Ja P ts ls.tail
section
variable {H:Type} {enc:TypeId×Value->H} {P:Program} {w:World} {held:Bool}
theorem BT {t:TypeId}{r:Reach}{b0:Nat}{v:Value}(hval:Value.okWide P w r b0 t v){td:TypeDesc}(hu:P.underlying t=J td)(htd:td= .bool\/(∃k,td= .int k)\/td= .string\/∃e,td= .slice e):∀cs,v≠ .agg cs:=by
 simp_all [Value.okWide,Cell.okWide,Cell.ok]<;>grind
theorem cells_one {v u:Value}(hv:∀cs,v≠ .agg cs)(h:v.cells.toList=[u]):u=v:=by
 simp_all [Value.cells,absurd]
def aR5 {t:TypeId}{l:List CT}(hL:Lay P 20 t l=W)(hna:ZB P t=F){r:Reach}{b0:Nat}{v:Value}(hval:Value.okWide P w r b0 t v){d:DataW H}{ps:List MemPlace}(h:DataW.Trod enc P w 0 (λ_=>W) held t v d ps) :
  ∃ds,aF l ds/\VR (G0 w) I0 N0 w .none (asArg (isStr P t) ds) v:=by
 obtain ⟨fuel,h⟩:=h;obtain ⟨ds,h1,h2⟩:=af6 (λ_=>rfl) 20 t l hL fuel _ _ h;unfold isStr asArg;split
 .grind [Value.okWide,VR,Value.cells]
 .cases fuel with
  |zero=>simp [DataW.trod] at h
  |succ fuel =>
   have one:∀u,v.cells.toList=[u]->u=v->VR (G0 w) I0 N0 w .none (.d (ds.headD .dg)) v:=by
    rintro u hu rfl;rw [hu] at h2;cases ds with
    |nil=>simp [Cells,L3] at h2
    |cons d0 r =>
     simp_all [Cells,L3]<;>grind
   unfold Lay at hL;split at hL
   .grind [trod_bool,cells_one,BT]
   .grind [trod_int,cells_one,BT]
   .grind [EO,cells_one,BT]
   next e hu=>
    rcases trod_slice hu h with ⟨hb,_⟩|⟨a,len,cap,hb,_⟩
    all_goals grind [cells_one,BT]
   all_goals simp_all [absurd,ZB]
theorem Sg {r:Reach}{b0:Nat}:∀(ts:List TypeId) (ls:List (List CT)) (vs:List Value) (ds:List (DataW H)) (ps:List MemPlace),Ja P ts ls=W->(∀(j:Nat) t v,ts[j]? =J t->vs[j]? =J v->Value.okWide P w r b0 t v) ->
  DataW.TrodAll enc P w 0 (λ_=>W) held ts vs ds ps ->
  (∃as,sR P ts ls as/\L3 (G0 w) I0 N0 w as vs)/\∀w',Kept w w' ->∀sp:Nat->Bool,(∀p,p∈ps->sp p.block=W)->DataW.TrodAll enc P w' 0 sp held ts vs ds ps
 |[],ls,vs,ds,ps,_,_,h=>by
  obtain ⟨rfl,rfl,rfl⟩:=Go.ChangeShapes.trodAll_nil h;exact ⟨⟨[],by rfl,by simp [L3]⟩,λ_ _ _ _=>rfl⟩
 |t::ts,ls,vs,ds,ps,hL,hval,h=>by
  simp [Ja,Bool.and_eq_true,Bool.not_eq_true'] at hL;obtain ⟨v,vs1,d,ds1,a,b,rfl,rfl,rfl,h1,h2⟩:=Go.ChangeShapes.trodAll_cons h;obtain ⟨⟨as,g1,g2⟩,g3⟩:=Sg ts ls.tail vs1 ds1 b hL.2 (λj t' v' ht hv=>hval (j+1) t' v' M M) h2;obtain ⟨dd,e1,e2⟩:=aR5 hL.1.1 hL.1.2 (hval 0 t v rfl rfl) h1;refine ⟨⟨asArg (isStr P t) dd::as,?_,?_⟩,λw' hK sp hsp=>?_⟩
  .grind [sR]
  .grind [L3]
  .obtain ⟨fuel,hf⟩:=h1
   exact ⟨a,b,⟨fuel,XJ hK 20 t _ hL.1.1 fuel _ _ (λp hp=>hsp p M) hf⟩,g3 w' hK sp (λp hp=>hsp p (by simp [hp])),rfl⟩
end
open Go.ChangeShapes Go.WideShapes Go.ChangeAt Go.RowKit
end Go.A1
namespace Go.A1
def M0 (A:Prog)(n:Nat)(l:I7)(b:Nat):Env:=⟨call A n,A.prom,A.mode,A.idle,l,b⟩
def Ex (A:Prog)(l:I7)(b:Nat)(c:q7)(st:St)(Q:I6->St->Prop):Prop :=
 ∃x s N,Q x s/\∀n,N<=n->exec (M0 A n l b) n c st=J (x,s)
def Rn (A:Prog)(l:I7)(b:Nat)(ops:List p7)(draw:Bool)(T:List c8)(H:q6)(Q:List c8->q6->List c8->Prop):Prop :=
 ∃r N,Q r.T r.H r.L/\∀n,N<=n->T5 (M0 A n l b) ops draw T H=J r
section
variable {A:Prog} {l:I7} {b:Nat}
theorem Ex.mono {c:q7}{st:St}{Q R:I6->St->Prop}(h:Ex A l b c st Q)(k:∀x s,Q x s->R x s):Ex A l b c st R:=by
 obtain ⟨x,s,N,hq,h⟩:=h;exact ⟨x,s,N,k x s hq,h⟩
theorem Ex.skip {st:St}{Q:I6->St->Prop}(h:Q .normal st):Ex A l b .skip st Q:=⟨_,_,0,h,λ_ _=>rfl⟩
theorem Ex.exit {id:Nat}{st:St}{Q:I6->St->Prop}(h:Q (.exit id) st):Ex A l b (.exit id) st Q:=⟨_,_,0,h,λ_ _=>rfl⟩
theorem Ex.ret {st:St}{Q:I6->St->Prop}(h:Q .ret st):Ex A l b .ret st Q:=⟨_,_,0,h,λ_ _=>rfl⟩
theorem Ex.region {ops:List p7}{draw:Bool}{T:List c8}{H:q6}{Q:I6->St->Prop}(h:Rn A l b ops draw T H λT' H' _=>Q .normal ⟨T',H'⟩):Ex A l b (.region ops draw) ⟨T,H⟩ Q:=by
 obtain ⟨r,N,hq,h⟩:=h;refine ⟨_,_,N,hq,λn hn=>?_⟩;simp_all [exec]
def yM (Q:I6->St->Prop)(go:St->Prop):I6->St->Prop
 | .normal,s=>go s
 | .exit i,s=>Q (.exit i) s
 | .ret,s=>Q .ret s
theorem Ex.seq {c d:q7}{st:St}{Q:I6->St->Prop}(h:Ex A l b c st (yM Q λs=>Ex A l b d s Q)):Ex A l b (.seq c d) st Q:=by
 obtain ⟨x,s,N,hq,h⟩:=h;cases x with
 |normal =>
  obtain ⟨x2,s2,N2,hq2,h2⟩:=hq;refine ⟨x2,s2,max N N2,hq2,λn hn=>?_⟩
  grind [exec]
 |exit i=>exact ⟨_,_,N,hq,λn hn=>by simp_all [exec]⟩
 |ret=>exact ⟨_,_,N,hq,λn hn=>by simp_all [exec]⟩
def KL (id:Nat)(Q:I6->St->Prop):I6->St->Prop
 | .exit i,s=>if i=id then Q .normal s else Q (.exit i) s
 | .normal,s=>Q .normal s
 | .ret,s=>Q .ret s
theorem Ex.block {id:Nat}{c:q7}{st:St}{Q:I6->St->Prop}(h:Ex A l b c st (KL id Q)):Ex A l b (.block id c) st Q:=by
 obtain ⟨x,s,N,hq,h⟩:=h;cases x with
 |normal=>exact ⟨_,_,N,hq,λn hn=>by simp_all [exec]⟩
 |ret=>exact ⟨_,_,N,hq,λn hn=>by simp_all [exec]⟩
 |exit i =>
  simp [KL] at hq;split at hq
  .exact ⟨_,_,N,hq,λn hn=>by simp_all [exec,if_pos]⟩
  .exact ⟨_,_,N,hq,λn hn=>by simp_all [exec,if_neg]⟩
theorem Ex.test {ops:List p7}{draw:Bool}{c:y7}{d e:q7}{T:List c8}{H:q6}{Q:I6->St->Prop}
  (h:Rn A l b ops draw T H λT' H' L=>∃t,K4 T' L c= .d (.bool t)/\(t=W->Ex A l b d ⟨T',H'⟩ Q)/\(t=F->Ex A l b e ⟨T',H'⟩ Q)):Ex A l b (.test ops draw c d e) ⟨T,H⟩ Q:=by
 obtain ⟨r,N,⟨t,h1,h2,h3⟩,h⟩:=h;cases t with
 |true =>
  obtain ⟨x,s,N2,hq,k⟩:=h2 rfl;exact ⟨x,s,max N N2,hq,λn hn=>by grind [exec]⟩
 |false =>
  obtain ⟨x,s,N2,hq,k⟩:=h3 rfl;exact ⟨x,s,max N N2,hq,λn hn=>by grind [exec]⟩
theorem Ex.cond {c:y7}{d e:q7}{st:St}{t:Bool}{Q:I6->St->Prop}(h1:K4 st.T [] c= .d (.bool t))
  (h2:t=W->Ex A l b d st Q) (h3:t=F->Ex A l b e st Q):Ex A l b (.cond c d e) st Q:=by
 cases t with
 |true =>
  obtain ⟨x,s,N2,hq,k⟩:=h2 rfl;exact ⟨x,s,N2,hq,λn hn=>by simp_all [exec]⟩
 |false =>
  obtain ⟨x,s,N2,hq,k⟩:=h3 rfl;exact ⟨x,s,N2,hq,λn hn=>by simp_all [exec]⟩
theorem Ex.loop {mask:List Bool}{body:q7}{st:St}{Q:I6->St->Prop}(Inv:Nat->St->Prop)
  (hb:∀k s,Inv k s->Ex A l b body (clean mask l.strict (O st.H) s) (yM Q λs' =>∃k',k' <k/\Inv k' s')) {k:Nat} (h:Inv k st):Ex A l b (.loop mask body) st Q:=by
 have main:∀k s,Inv k s->∃x s2 N,Q x s2/\∀n,N<=n->∀j,N<=j->jl (exec (M0 A n l b) n body) mask l.strict (O st.H) j s=J (x,s2):=by
  intro k
  induction k using Nat.strongRecOn with
  |_ k ih =>
   intro s hs;obtain ⟨x,s1,N,hq,h1⟩:=hb k s hs;cases x with
   |normal =>
    obtain ⟨k',hk,hi⟩:=hq;obtain ⟨x,s2,N2,hq2,h2⟩:=ih k' hk s1 hi;refine ⟨x,s2,max N N2+1,hq2,λn hn j hj=>?_⟩;obtain ⟨j,rfl⟩:∃j',j=j' +1:=⟨j - 1,V⟩
    grind [jl]
   |exit i =>
    refine ⟨_,_,N+1,hq,λn hn j hj=>?_⟩;obtain ⟨j,rfl⟩:∃j',j=j' +1:=⟨j - 1,V⟩
    grind [jl]
   |ret =>
    refine ⟨_,_,N+1,hq,λn hn j hj=>?_⟩;obtain ⟨j,rfl⟩:∃j',j=j' +1:=⟨j - 1,V⟩
    grind [jl]
 obtain ⟨x,s2,N,hq,h⟩:=main k st h;exact ⟨x,s2,N,hq,λn hn=>by exact h n hn n hn⟩
def Pf (A:Prog)(f:FuncId)(args:List c8)(v:c8):Prop :=
 ∃N,∀n,N<=n->call A n f args [] W8=J (v,[])
def Pf.bs8 {f:FuncId}{af:q9}{args:List c8}{v:c8}(T:List c8)(hp:A.cM f=K)(hf:A.fn f=J af)(hn:O args=af.nparams)
  (hT:args++List.replicate (O af.names - O args) .any=T) (h:Ex A W8 0 af.body ⟨T,[]⟩ λx s=>ep af 0 (J (x,s))=J (v,[])):Pf A f args v:=by
 obtain ⟨x,s,N,hq,h⟩:=h;refine ⟨N+1,λn hn' =>?_⟩;obtain ⟨n,rfl⟩:∃j,n=j+1:=⟨n - 1,V⟩;simp_all [Jk,vZ,M0,List.length_nil]
def LI (H:q6)(strict k:Nat):G6 H strict k 0=0:=by
 cases k<;>simp [G6]
def iU {E:Env}{k:Nat}{f:FuncId}{args:List c8}{st:I9}{v:c8}(jG:E.prom f=F)(hm:E.mode f=1)(hb:C5 args=0)
  (hc:E.cf f args [] W8=J (v,[])):D5 E k f args st=J (put st k v):=by
 simp [D5,hb,LI];have h0:E9 st.H E.lim.strict 0=0:=by rfl
 have h1:E.cf f args [] ⟨0,0,0,0⟩=J (v,[]):=hc
 grind [P0]
def uQ (ops:List p7):Bool:=ops.all λi=> !i.op.B0&&i.cB.all λe=>decide (e<O ops)
end
theorem wrap_small {n:Int}(h: -9223372036854775808<=n)(h2:n<9223372036854775808):IntKind.wrap .i64 n=n:=by
 grind [IntKind.wrap,IntKind.signed,IntKind.bits]
section
variable {A:Prog} {l:I7} {b:Nat}
def x9.Yb:x9->Bool
 | .load _ _=>W
 | .lookup .. =>W
 |_=>F
def vW:List p7->Nat
 |[]=>0
 |i::is=>max (if i.op.Yb then (i.cB.map (·+1)).foldl max 0 else 0) (vW is)
theorem Rj {ρ:y7->c8}{H:q6}{op:x9}{v:c8}{rs:List Nat}(h:o7 ρ H op=J (v,rs))(hr:op.Yb=F):rs=[]:=by
 cases op<;>simp [x9.Yb] at hr<;>simp [o7] at h<;>repeat' split at h
 all_goals simp_all
theorem vG {E:Env}{l5:List p7}{A4:Option Nat}{k:Nat}{i:p7}{st st' :I9}{rs:List Nat}(h:z6 E l5 A4 k i st=J (st',rs))(hr:i.op.Yb=F):rs=[]:=by
 simp [z6] at h;split at h
 .split at h
  next st1 rs1 h1=>
   split at h
   .simp [E1] at h1
    split at h1
    .grind
    grind [Option.some.injEq,Prod.mk.injEq,Rj]
   .cases h
  .cases h
 all_goals grind
theorem wF:∀(l:List Nat) (a:Nat),a<=l.foldl max a
 |[],_=>l6 _
 |x::l,a=>C9 (Nat.le_max_left a x) (wF l (max a x))
theorem tX:∀(l:List Nat) (a x:Nat),x∈l->x<=l.foldl max a
 |y::l,a,x,h=>by
  rcases B6.1 h with rfl|h
  .grind [C9,Nat.le_max_right,wF]
  .exact tX l _ x h
theorem CB:∀{l5:List p7} {i:p7} {e:Nat},i∈l5->i.op.Yb=W->e∈i.cB->e<vW l5
 |j::l5,i,e,h,hr,he=>by
  simp only [vW]
  rcases B6.1 h with rfl|h
  .have:=tX (i.cB.map (·+1)) 0 (e+1) (J4.2 ⟨e,he,rfl⟩)
   rw [hr,if_pos rfl];omega
  .have:=CB h hr he
   omega
def Rx (A:Prog)(l:I7)(b:Nat)(dr:Bool)(l5 ops:List p7)(T:List c8)(H:q6)(pre:List c8)(o9:List Touch)(Q:List c8->q6->List c8->Prop):Prop :=
 ∃r N,Q r.T r.H r.L/\∀n,N<=n->if dr=W then ∀na,∃lg:List lQ,S6 (M0 A n l b) l5 ops (O pre) na ⟨T,H,pre++List.replicate (O ops) .any,o9⟩=J (r,lg)/\O lg=O ops/\∀k e,lg[k]? =J e->(O pre+k<vW l5->∀rs,J2 e.JH rs=F)/\∀i,ops[k]? =J i->i.op.Yb=F->e.reads=[]
  else gK (M0 A n l b) l5 ops (O pre) ⟨T,H,pre++List.replicate (O ops) .any,o9⟩=J r
variable {dr:Bool} {l5 ops:List p7} {T:List c8} {H:q6} {pre:List c8} {o9:List Touch} {Q:List c8->q6->List c8->Prop}
def Rx.nil (h:Q T H pre):Rx A l b dr l5 [] T H pre o9 Q:=by
 refine ⟨⟨T,H,pre,o9⟩,0,h,λn _=>?_⟩;simp_all [gK,S6]
def Rx.NN {i:p7}{T' pre' :List c8}{H' :q6}{v:c8}{dy :List Touch}{rs:List Nat}{N1:Nat}(hl:O pre'=O pre)
  (hk:I5 ⟨T,H,pre++ .any::List.replicate (O ops) .any,o9⟩ i.op=F) (ha:i.op.B0=F)
  (h:∀n,N1<=n->z6 (M0 A n l b) l5 K (O pre) i ⟨T,H,pre++ .any::List.replicate (O ops) .any,o9⟩=J (⟨T',H',pre' ++v::List.replicate (O ops) .any,dy⟩,rs))
  (ht:O pre<vW l5->∀rs,J2 (dy.take (O dy - O o9)) rs=F) (h2:Rx A l b dr l5 ops T' H' (pre' ++[v]) dy Q):Rx A l b dr l5 (i::ops) T H pre o9 Q:=by
 obtain ⟨r,N,hq,h2⟩:=h2;refine ⟨r,max N N1,hq,λn hn=>?_⟩;have h3:=h2 n V;have h4:=h n V;cases dr with
 |false =>
  simp_all [j4,if_false,List.length_cons,List.replicate_succ,gK]
 |true =>
  simp [List.length_cons,List.replicate_succ] at h3 ⊢;intro na;obtain ⟨lg,e1,e2,e3⟩:=h3 na;refine ⟨eO (M0 A n l b) i K ⟨T,H,pre++ .any::List.replicate (O ops) .any,o9⟩ ⟨T',H',pre' ++v::List.replicate (O ops) .any,dy⟩ rs::lg,?_,by simp [e2],?_⟩
  .simp_all [S6,lD,Bool.false_and,j4,if_false]
  .intro k e he
   cases k with
   |zero =>
    grind [List.getElem?_cons_zero,Option.some.injEq,eO,iI,vG]
   |succ k =>
    grind
def Rx.stepG {i:p7}{T' pre' :List c8}{H' :q6}{v:c8}{dy :List Touch}{rs:List Nat}{N1:Nat}(hl:O pre'=O pre)
  (hk:I5 ⟨T,H,pre++ .any::List.replicate (O ops) .any,o9⟩ i.op=F) (ha:i.op.B0=F)
  (h:∀n,N1<=n->z6 (M0 A n l b) l5 K (O pre) i ⟨T,H,pre++ .any::List.replicate (O ops) .any,o9⟩=J (⟨T',H',pre' ++v::List.replicate (O ops) .any,dy⟩,rs))
  (ht:∀rs,J2 (dy.take (O dy - O o9)) rs=F) (h2:Rx A l b dr l5 ops T' H' (pre' ++[v]) dy Q):Rx A l b dr l5 (i::ops) T H pre o9 Q :=
 Rx.NN hl hk ha h (λ_=>ht) h2
def Rx.step {i:p7}{T' :List c8}{H' :q6}{v:c8}{dy :List Touch}{rs:List Nat}{N1:Nat}(hk:I5 ⟨T,H,pre++ .any::List.replicate (O ops) .any,o9⟩ i.op=F)(ha:i.op.B0=F)
  (h:∀n,N1<=n->z6 (M0 A n l b) l5 K (O pre) i ⟨T,H,pre++ .any::List.replicate (O ops) .any,o9⟩=J (⟨T',H',pre++v::List.replicate (O ops) .any,dy⟩,rs))
  (ht:∀rs,J2 (dy.take (O dy - O o9)) rs=F) (h2:Rx A l b dr l5 ops T' H' (pre++[v]) dy Q):Rx A l b dr l5 (i::ops) T H pre o9 Q :=
 Rx.stepG rfl hk ha h ht h2
def opv (T pre:List c8):y7->Option c8
 | .slot s=>T[s]?
 | .loc j=>pre[j]?
 | .const v=>J v
def Op (T pre:List c8)(x:y7)(v:c8):Prop:=opv T pre x=J v/\v.K7=v
theorem Op.K4 {x:y7}{v:c8}(h:Op T pre x v)(m:Nat):K4 T (pre++ .any::List.replicate m .any) x=v:=by
 obtain ⟨h1,h2⟩:=h;cases x with
 |slot s=>simp_all [opv,A1.K4]
 |loc j =>
  grind [opv,A5,List.getElem?_eq_none,A1.K4,B9]
 |const u=>simp_all [opv,Option.some.injEq,A1.K4,YK]
theorem L6 (pre:List c8)(a v:c8)(r:List c8):(pre++a::r).set (O pre) v=pre++v::r:=by
 simp
def Rx.pure {op:x9}{u:List Nat}{v:c8}{rs:List Nat}(hE:op.D6=F)(hp:∀m,o7 (A1.K4 T (pre++ .any::List.replicate m .any)) H op=J (v,rs))
  (h2:Rx A l b dr l5 ops T H (pre++[v]) o9 Q):Rx A l b dr l5 (⟨op,K,K,u⟩::ops) T H pre o9 Q:=by
 have hm:∀x,op≠ .Q5 x:=by
  rintro x rfl;simp_all [o7]
 refine Rx.step (N1:=0) (rs:=rs) ?_ ?_ ?_ ?_ h2
 .cases op<;>first|rfl|grind [x9.D6]
 .cases op<;>first|rfl|(simp [x9.D6] at hE)|skip
  rename_i ob;cases ob
  .rfl
  simp_all
 .intro n _
  have h3:E1 (M0 A n l b) l5 K (O pre) op ⟨T,H,pre++ .any::List.replicate (O ops) .any,o9⟩=J (⟨T,H,pre++v::List.replicate (O ops) .any,o9⟩,rs):=by
   simp_all [absurd,E1,j4,if_false,put,L6,x9.D6]
  grind [z6,y8,u9,F2]
 simp_all [J2]
theorem Op.E7 {x:y7}{v:c8}(h:Op T pre x v)(m:Nat):A1.E7 ⟨T,H,pre++ .any::List.replicate m .any,o9⟩ x=(v,⟨T,H,pre++ .any::List.replicate m .any,o9⟩):=by
 have hr:=h.K4 m;cases x with
 |slot s=>grind [A1.E7]
 |loc j =>
  obtain ⟨h1,h2⟩:=h
  grind [opv,A5,List.getElem?_eq_none,A1.E7,B9,c8.K7]
 |const u =>
  obtain ⟨h1,h2⟩:=h;simp [opv,Option.some.injEq] at h1;subst h1;rfl
theorem Rx.Q5 {x:y7}{u:List Nat}{v:c8}(hx:Op T pre x v)(h2:Rx A l b dr l5 ops T H (pre++[v]) o9 Q):Rx A l b dr l5 (⟨.Q5 x,K,K,u⟩::ops) T H pre o9 Q:=by
 refine Rx.step (N1:=0) (rs:=[]) rfl rfl (λn _=>?_) (λrs=>by simp [J2]) h2;simp [z6,y8,E1,x9.D6,j4,if_false,hx.E7,put,L6,u9,F2]
def Rx.br9 {x:y7}{u:List Nat}{v:c8}{s:Nat}(hx:Op T pre x v)(hs:T[s]?.isSome=W)(h2:Rx A l b dr l5 ops (T.set s v) H (pre++[v]) (.slot s::o9) Q) :
  Rx A l b dr l5 (⟨.Q5 x,J s,K,u⟩::ops) T H pre o9 Q:=by
 refine Rx.step (N1:=0) (rs:=[]) rfl rfl (λn _=>?_) (λrs=>?_) h2
 .have hv:=hx.2
  have hs:s<O T:=by
   simp_all
  simp only [z6,y8,E1,x9.D6,j4,if_false,hx.E7,put,L6,u9,F2,hs,if_true];have h3:A1.E7 ⟨T,H,pre++v::List.replicate (O ops) .any,o9⟩ (.loc (O pre))=(v,⟨T,H,pre++v::List.replicate (O ops) .any,o9⟩):=by
   grind [A1.E7,c8.K7,A1.K4]
  rw [h3]
 simp_all [J2,Touch.L5]
def Rx.aZ2 {s:Nat}{u:List Nat}{z n:Nat}{cs:List Data}(hx:T[s]? =J (.own z n cs))(h2:Rx A l b dr l5 ops T H (pre++[.d (.slice n cs)]) o9 Q):Rx A l b dr l5 (⟨.Q5 (.slot s),K,K,u⟩::ops) T H pre o9 Q:=by
 refine Rx.step (N1:=0) (rs:=[]) rfl rfl (λn _=>?_) (λrs=>by simp [J2]) h2;simp_all [z6,y8,E1,x9.D6,j4,if_false,A1.E7,put,L6,u9,F2,A1.K4,c8.K7]
def fP (s:Nat)(o9:List Touch)(rs:List Nat):J2 ((Touch.slot s::o9).take (O (Touch.slot s::o9) - O o9)) rs=F:=by
 simp_all [J2,Touch.L5]
theorem Rx.append {j s sz bytes:Nat}{y:y7}{u u' :List Nat}{d' :Option Nat}{g' :Option (Nat×Bool)}{n' len m:Nat}{cs' cells new:List Data}{vy:c8}{cs:List c8}
  (hj:pre[j]? =J (.d (.slice n' cs'))) (ha:l5[j]? =J ⟨.Q5 (.slot s),d',g',u'⟩) (ht:o9.any (Touch.V5 s)=F) (hT:T[s]? =J (.own sz len cells))
  (hy:∀m,A1.K4 T (pre++ .any::List.replicate m .any) y=vy) (hc:Q3 H sz vy=J (m,cs)) (hd:P7 cs=J new) (hr:roomFor (len+m) bytes=W) (h0:0<sz)
  (h2:Rx A l b dr l5 ops (T.set s (.d (.slice len cells))) H (pre++[.own sz (len+m) (cells++new)]) (.slot s::o9) Q):Rx A l b dr l5 (⟨.append sz bytes F (.loc j) y,K,K,u⟩::ops) T H pre o9 Q:=by
 have hjl:j<O pre:=by
  grind
 have hL:∀r:List c8,(pre++ .any::r)[j]? =J (.d (.slice n' cs')):=λr=>by grind
 have aU6:A1.K4 T (pre++ .any::List.replicate (O ops) .any) (.loc j)= .d (.slice n' cs'):=by simp [A1.K4,hL,c8.K7]
 refine Rx.step (N1:=0) (rs:=[]) (by simp_all [I5]) rfl (λn _=>?_) (fP s o9) h2;simp_all [z6,y8,E1,x9.D6,F9,Q1,R8,Z3,put,u9,F2]<;>grind
def Rx.aa2 {j s:Nat}{u:List Nat}{z n0:Nat}{cs:List Data}(hj:pre[j]? =J (.own z n0 cs))(hs:T[s]?.isSome=W)
  (h2:Rx A l b dr l5 ops (T.set s (.own z n0 cs)) H (pre.set j (.d (.slice n0 cs))++[.d (.slice n0 cs)]) (.slot s::o9) Q):Rx A l b dr l5 (⟨.Q5 (.loc j),J s,K,u⟩::ops) T H pre o9 Q:=by
 have hjl:j<O pre:=by
  grind
 have hs:s<O T:=by
  simp_all
 refine Rx.stepG (N1:=0) (rs:=[]) U rfl rfl (λn _=>?_) (fP s o9) h2;have hL:∀r:List c8,(pre++ .any::r)[j]? =J (.own z n0 cs):=λr=>by grind
 have h4:∀(a v:c8) (r:List c8),(pre.set j (.d (.slice n0 cs))++a::r).set (O pre) v=pre.set j (.d (.slice n0 cs))++v::r:=λa v r=>M
 simp_all [z6,y8,E1,x9.D6,j4,if_false,A1.E7,put,u9,F2,if_true]
def Rn.aB2 {T:List c8}{H:q6}(h:Rx A l b F ops ops T H [] [] Q):Rn A l b ops F T H Q:=by
 obtain ⟨r,N,hq,h⟩:=h;exact ⟨r,N,hq,λn hn=>by simp_all [T5]⟩
def Rn.aB1 {T:List c8}{H:q6}(hp:uQ ops=W)(h:Rx A l b W ops ops T H [] [] Q):Rn A l b ops W T H Q:=by
 obtain ⟨r,N,hq,h⟩:=h;refine ⟨r,N,hq,λn hn=>?_⟩;have h1:=h n hn;obtain ⟨lg,e1,e2,e3⟩:=h1 (O H);simp only [uQ,M1,Bool.and_eq_true,Bool.not_eq_true',decide_eq_true_eq] at hp;have vM:aO ops=[]:=by
  simp_all [aO,List.map_eq_nil_iff,List.filter_eq_nil_iff,Bool.not_eq_true]
 have vN:slotsOf ops=[]:=by
  simp_all [slotsOf,List.filterMap_eq_nil_iff]
 have bn9:ud ops lg=W:=by
  simp only [ud,M1];rintro ⟨i,le⟩ Af e he;obtain ⟨j,hj,hji⟩:=R3 Af;simp [List.length_zip] at hj;have hj1:j<O ops:=V
  have hj2:j<O lg:=V
  simp [List.getElem_zip] at hji;obtain ⟨rfl,rfl⟩:=hji;have hi:ops[j]∈ops:=List.getElem_mem hj1;have hlt:=(hp _ hi).2 e he;have this:e<O lg:=V
  have hmk:ops[j].op.makes=F:=by
   have:=(hp _ hi).1;cases ho:ops[j].op<;>rw [ho] at this<;>first|rfl|exact this
  cases hr:ops[j].op.Yb with
  |true =>
   have h5:=(e3 e _ (o6 this)).1 (by simpa using CB hi hr he);simp_all
  |false =>
   have h5:=(e3 j _ (o6 hj2)).2 _ (o6 hj1) hr
   grind [J2]
 simp_all [List.length_nil,List.nil_append,T5,if_true,List.append_nil]
theorem Rx.call {f:FuncId}{xs:List y7}{u:List Nat}{v:c8}{args:List c8}(jG:A.prom f=F)(hm:A.mode f=1)(ha:∀m,xs.map (A1.K4 T (pre++ .any::List.replicate m .any))=args)
  (hb:C5 args=0) (hc:Pf A f args v) (h2:Rx A l b dr l5 ops T H (pre++[v]) o9 Q):Rx A l b dr l5 (⟨.call f xs,K,K,u⟩::ops) T H pre o9 Q:=by
 obtain ⟨i5,hc⟩:=hc;refine Rx.step (N1:=i5) (rs:=[]) rfl rfl (λn hn=>?_) (λrs=>by simp [J2]) h2;have h3:D5 (M0 A n l b) (O pre) f args ⟨T,H,pre++ .any::List.replicate (O ops) .any,o9⟩=J (put ⟨T,H,pre++ .any::List.replicate (O ops) .any,o9⟩ (O pre) v) :=
  iU jG hm hb (hc n hn)
 simp_all [z6,y8,E1,x9.D6,if_true,F9,u9,F2,put,L6]
def Jg {o:BinOp}{c d e:Int}(h:o= .add/\c+d=e\/o= .sub/\c - d=e)(h0: -9223372036854775808<=e)(h1:e<9223372036854775808):Q9 o (.int .i64 c) (.int .i64 d)=J (.int .i64 e):=by
 grind [Q9,aT,cZ,wrap_small]
end
abbrev M3:=List UInt8
def C6 {α:Type}(f:α->List Data)(l:List α):Data:= .slice (O l) (l.flatMap f)
def Z (n:Int):Data:= .int .i64 n
structure Y8 where
 op:Int
 kind:Int
 int:Int
 text:M3
 col:Int
def Y8.enc (t:Y8):List Data:=[Z t.op,Z t.kind,Z t.int,.str t.text,Z t.col]
structure gu where
 name:M3
 type:Int
 space:M3
 refs:M3
 L8:List Int
 jN:Int
 oV:Int
def gu.enc (c:gu):List Data:=[.str c.name,Z c.type,.str c.space,.str c.refs,C6 (λn=>[Z n]) c.L8,Z c.jN,Z c.oV]
structure jV where
 name:M3
 s6:List gu
 erase:Int
 cN:Int
def jV.enc (t:jV):List Data:=[.str t.name,C6 gu.enc t.s6,Z t.erase,Z t.cN]
structure RY where
 name:M3
 expr:List Y8
def RY.enc (x:RY):List Data:=[.str x.name,C6 Y8.enc x.expr]
structure KW where
 name:M3
 func:Int
 expr:List Y8
def KW.enc (x:KW):List Data:=[.str x.name,Z x.func,C6 Y8.enc x.expr]
structure Vw where
 name:M3
 kind:Int
 left:M3
 right:M3
 on:List (Int×Int)
 wh:List Y8
 items:List RY
 distinct:Bool
 F4:List KW
def Vw.enc (v:Vw):List Data:=[.str v.name,Z v.kind,.str v.left,.str v.right,C6 (λp=>[Z p.1,Z p.2]) v.on,C6 Y8.enc v.wh,C6 RY.enc v.items,.bool v.distinct,C6 KW.enc v.F4]
structure qh where
 name:M3
 source:M3
 col:Int
def qh.enc (x:qh):List Data:=[.str x.name,.str x.source,Z x.col]
structure oO where
 name:M3
 source:M3
 col:Int
 kind:Int
 width:Int
 depth:Int
def oO.enc (x:oO):List Data:=[.str x.name,.str x.source,Z x.col,Z x.kind,Z x.width,Z x.depth]
structure sV where
 name:M3
 source:M3
 col:Int
 ttl:Int
def sV.enc (x:sV):List Data:=[.str x.name,.str x.source,Z x.col,Z x.ttl]
structure qI where
 name:M3
 source:M3
 thr:Int
def qI.enc (x:qI):List Data:=[.str x.name,.str x.source,Z x.thr]
structure vL where
 name:M3
 table:M3
def vL.enc (x:vL):List Data:=[.str x.name,.str x.table]
structure vJ where
 name:M3
 tables:List M3
 keep:Int
def vJ.enc (x:vJ):List Data:=[.str x.name,C6 (λs=>[.str s]) x.tables,Z x.keep]
structure s5 where
 k9:List jV
 views:List Vw
 idxs:List qh
 O1:List oO
 P3:List sV
 T0:List qI
 U0:List vL
 W7:List vJ
def s5.enc (c:s5):List Data:=[C6 jV.enc c.k9,C6 Vw.enc c.views,C6 qh.enc c.idxs,C6 oO.enc c.O1,C6 sV.enc c.P3,C6 qI.enc c.T0,C6 vL.enc c.U0,C6 vJ.enc c.W7]
def ctI:CT:= .int .i64
def yZ (n:Int):Prop:= -9223372036854775808<=n/\n<9223372036854775808
def Dk {α:Type}{e:List CT}{enc:α->List Data}{ok:α->Prop}(hr:∀r,aF e r->∃a,r=enc a/\ok a){d:Data}(h:Fits (.slice e) d) :
  ∃l:List α,d=C6 enc l/\O l<=maxLen/\∀a,a∈l->ok a:=by
 obtain ⟨rows,rfl,hl,hall⟩:=h;have:∀rows:List (List Data),(∀r,r∈rows->aF e r)->∃l:List α,O l=O rows/\rows.flatten=l.flatMap enc/\∀a,a∈l->ok a:=by
  intro rows
  induction rows with
  |nil=>simp_all
  |cons r rs ih =>
   intro h;obtain ⟨a,ha,hok⟩:=hr r (h r U);obtain ⟨l,h1,h2,h3⟩:=ih (λr hr' =>h r (by simp [hr']));refine ⟨a::l,by simp [h1],by simp [h2,ha],?_⟩;simp_all
 obtain ⟨l,h1,h2,h3⟩:=this rows hall
 grind [C6]
def Dj {d:Data}(h:Fits ctI d):∃n,d=Z n/\yZ n:=by
 obtain ⟨n,rfl,hw⟩:=h;refine ⟨n,rfl,?_⟩;simp [Lit.wf] at hw;have hm:IntKind.i64.min= -9223372036854775808:=rfl
 grind [yZ]
def ag2 {r:List Data}(h:aF [ctI,ctI] r):∃p:Int×Int,r=[Z p.1,Z p.2]/\yZ p.1/\yZ p.2:=by
 obtain ⟨d,_,rfl,h1,e,_,rfl,h2,rfl⟩:=h;obtain ⟨n,rfl,hn⟩:=Dj h1;obtain ⟨m,rfl,hm⟩:=Dj h2;simp_all<;>grind
structure Y8.ok (x:Y8):Prop where
 op:yZ x.op
 kind:yZ x.kind
 int:yZ x.int
 text:O x.text<=maxLen
 col:yZ x.col
structure gu.ok (x:gu):Prop where
 name:O x.name<=maxLen
 type:yZ x.type
 space:O x.space<=maxLen
 refs:O x.refs<=maxLen
 L8:O x.L8<=maxLen/\∀a,a∈x.L8->yZ a
 jN:yZ x.jN
 oV:yZ x.oV
structure jV.ok (x:jV):Prop where
 name:O x.name<=maxLen
 s6:O x.s6<=maxLen/\∀a,a∈x.s6->a.ok
 erase:yZ x.erase
 cN:yZ x.cN
structure RY.ok (x:RY):Prop where
 name:O x.name<=maxLen
 expr:O x.expr<=maxLen/\∀a,a∈x.expr->a.ok
structure KW.ok (x:KW):Prop where
 name:O x.name<=maxLen
 func:yZ x.func
 expr:O x.expr<=maxLen/\∀a,a∈x.expr->a.ok
structure Vw.ok (x:Vw):Prop where
 name:O x.name<=maxLen
 kind:yZ x.kind
 left:O x.left<=maxLen
 right:O x.right<=maxLen
 on:O x.on<=maxLen/\∀a,a∈x.on->yZ a.1/\yZ a.2
 wh:O x.wh<=maxLen/\∀a,a∈x.wh->a.ok
 items:O x.items<=maxLen/\∀a,a∈x.items->a.ok
 distinct:True
 F4:O x.F4<=maxLen/\∀a,a∈x.F4->a.ok
structure qh.ok (x:qh):Prop where
 name:O x.name<=maxLen
 source:O x.source<=maxLen
 col:yZ x.col
structure oO.ok (x:oO):Prop where
 name:O x.name<=maxLen
 source:O x.source<=maxLen
 col:yZ x.col
 kind:yZ x.kind
 width:yZ x.width
 depth:yZ x.depth
structure sV.ok (x:sV):Prop where
 name:O x.name<=maxLen
 source:O x.source<=maxLen
 col:yZ x.col
 ttl:yZ x.ttl
structure qI.ok (x:qI):Prop where
 name:O x.name<=maxLen
 source:O x.source<=maxLen
 thr:yZ x.thr
structure vL.ok (x:vL):Prop where
 name:O x.name<=maxLen
 table:O x.table<=maxLen
structure vJ.ok (x:vJ):Prop where
 name:O x.name<=maxLen
 tables:O x.tables<=maxLen/\∀a,a∈x.tables->O a<=maxLen
 keep:yZ x.keep
structure s5.ok (x:s5):Prop where
 k9:O x.k9<=maxLen/\∀a,a∈x.k9->a.ok
 views:O x.views<=maxLen/\∀a,a∈x.views->a.ok
 idxs:O x.idxs<=maxLen/\∀a,a∈x.idxs->a.ok
 O1:O x.O1<=maxLen/\∀a,a∈x.O1->a.ok
 P3:O x.P3<=maxLen/\∀a,a∈x.P3->a.ok
 T0:O x.T0<=maxLen/\∀a,a∈x.T0->a.ok
 U0:O x.U0<=maxLen/\∀a,a∈x.U0->a.ok
 W7:O x.W7<=maxLen/\∀a,a∈x.W7->a.ok
section
variable {A:Prog} {l:I7} {b:Nat}
variable {dr:Bool} {l5 ops:List p7} {T:List c8} {H:q6} {pre:List c8} {o9:List Touch} {Q:List c8->q6->List c8->Prop}
theorem yW {j:Nat}{v:c8}(h:pre[j]? =J v)(r:List c8):(pre++r)[j]? =J v:=by
 grind
def Rx.aE6 {op:x9}{j:Nat}{want w:Bool}{u:List Nat}(h:pre[j]? =J (.d (.bool w)))(hw:(w==want)=F)(hk:I5 ⟨T,H,pre++ .any::List.replicate (O ops) .any,o9⟩ op=F)(ha:op.B0=F)
  (h2:Rx A l b dr l5 ops T H (pre++[.tuple []]) o9 Q):Rx A l b dr l5 (⟨op,K,J (j,want),u⟩::ops) T H pre o9 Q:=by
 refine Rx.step (N1:=0) (rs:=[]) hk ha (λn _=>?_) (λrs=>by simp [J2]) h2
 grind [z6,y8,yW,put,L6,u9,F2]
theorem yB {mask:List Bool}{strict n:Nat}(h:O H=n):clean mask strict n ⟨T,H⟩=⟨V4 mask T,H⟩:=by
 grind [clean]
def KE {E:Env}{A4:Option Nat}{k j:Nat}{op:x9}{dst:Option Nat}{want w:Bool}{u:List Nat}{st:I9}(h:st.L[j]? =J (.d (.bool w)))(hw:(w==want)=W) :
  z6 E l5 A4 k ⟨op,dst,J (j,want),u⟩ st=z6 E l5 A4 k ⟨op,dst,K,u⟩ st:=by
 simp_all [z6,y8]
def Rx.wanted {op:x9}{dst:Option Nat}{j:Nat}{want w:Bool}{u:List Nat}(h:pre[j]? =J (.d (.bool w)))(hw:(w==want)=W)
  (h2:Rx A l b dr l5 (⟨op,dst,K,u⟩::ops) T H pre o9 Q):Rx A l b dr l5 (⟨op,dst,J (j,want),u⟩::ops) T H pre o9 Q:=by
 obtain ⟨r,N,hq,hr⟩:=h2;refine ⟨r,N,hq,λn hn=>?_⟩;have h3:=hr n hn;have h4:∀E A4,z6 E l5 A4 (O pre) ⟨op,dst,J (j,want),u⟩ ⟨T,H,pre++List.replicate (O ops+1) .any,o9⟩=z6 E l5 A4 (O pre) ⟨op,dst,K,u⟩ ⟨T,H,pre++List.replicate (O ops+1) .any,o9⟩ :=
  λE A4=>KE (yW h _) hw
 cases dr with
 |false =>
  simp_all [j4,if_false,List.length_cons,gK]
 |true =>
  simp [List.length_cons,S6,lD] at h3 ⊢;intro na;rw [h4];obtain ⟨lg,e1,e2,e3⟩:=h3 na;refine ⟨lg,e1,e2,λk e he=>⟨(e3 k e he).1,λi hi hr=>?_⟩⟩
  grind
def Rx.stepT {i:p7}{T' pre' :List c8}{H' :q6}{v:c8}{dy :List Touch}{rs:List Nat}{N1:Nat}(hl:O pre'=O pre)
  (h:∀n,N1<=n->z6 (M0 A n l b) l5 K (O pre) i ⟨T,H,pre++ .any::List.replicate (O ops) .any,o9⟩=J (⟨T',H',pre' ++v::List.replicate (O ops) .any,dy⟩,rs))
  (h2:Rx A l b F l5 ops T' H' (pre' ++[v]) dy Q):Rx A l b F l5 (i::ops) T H pre o9 Q:=by
 obtain ⟨r,N,hq,h2⟩:=h2;refine ⟨r,max N N1,hq,λn hn=>?_⟩
 grind [gK]
def Rx.bk2 {x:y7}{u:List Nat}{v:c8}{cs:List c8}{s:Nat}(hx:Op T pre x v)(hc:v.cells? =J cs)(hs:T[s]?.isSome=W)
  (h2:Rx A l b F l5 ops (T.set s (.ptr (O H) 0)) (H++[.cells cs]) (pre++[.ptr (O H) 0]) (.slot s::o9) Q):Rx A l b F l5 (⟨.box x,J s,K,u⟩::ops) T H pre o9 Q:=by
 have hs:s<O T:=by
  simp_all
 refine Rx.stepT (N1:=0) (rs:=[]) rfl (λn _=>?_) h2;have h3:∀r:List c8,(pre++ .ptr (O H) 0::r)[O pre]? =J (.ptr (O H) 0):=λr=>U
 simp [z6,y8,E1,x9.D6,if_true,F9,hx.K4,hc,N7,newId,put,u9,F2,hs,A1.E7];simp [A1.K4,c8.K7]
def Rx.bt1 {s z n0:Nat}{cs:List Data}{u:List Nat}(hs:T[s]?.isSome=W)(h2:Rx A l b dr l5 ops (T.set s (.own z n0 cs)) H (pre++[.d (.slice n0 cs)]) (.slot s::o9) Q) :
  Rx A l b dr l5 (⟨.Q5 (.const (.own z n0 cs)),J s,K,u⟩::ops) T H pre o9 Q:=by
 have hs:s<O T:=by
  simp_all
 refine Rx.step (N1:=0) (rs:=[]) rfl rfl (λn _=>?_) (fP s o9) h2;simp_all [z6,y8,E1,x9.D6,j4,if_false,A1.E7,put,L6,u9,F2,if_true]
def Ex.ru {mask:List Bool}{body:q7}{R:I6->St->Prop}(Inv:Nat->List c8->q6->Prop)(hl:∀k T' H',Inv k T' H' ->O H'=O H)
  (hb:∀k T' H',Inv k T' H' ->Ex A l b body ⟨V4 mask T',H'⟩ (yM R λs=>∃k',k' <k/\Inv k' s.T s.H)) {k:Nat} (h:Inv k T H):Ex A l b (.loop mask body) ⟨T,H⟩ R:=by
 refine Ex.loop (λk s=>Inv k s.T s.H) (λk s hs=>?_) (k:=k) h;obtain ⟨T',H'⟩:=s
 grind [yB]
end
theorem pg {α:Type}{enc:α->List Data}{sz:Nat}(hs:∀a,O (enc a)=sz):∀(l:List α) (i:Nat) (h:i<O l),(l.flatMap enc).drop (i * sz)=enc l[i]++(l.drop (i+1)).flatMap enc
 |a::l,0,h=>U
 |a::l,i+1,h=>by
  have h1:=pg hs l i (by simpa using h);rw [List.flatMap_cons,Nat.succ_mul,Nat.add_comm,<- List.drop_drop];rw [show (enc a++l.flatMap enc).drop sz=l.flatMap enc by rw [<- hs a,List.drop_left]];simpa using h1
def YU {α:Type}{enc:α->List Data}{sz:Nat}(hs:∀a,O (enc a)=sz)(l:List α)(i:Nat)(h:i<O l) :
  (l.flatMap enc).drop ((i:Int).toNat * sz)=enc l[i]++(l.drop (i+1)).flatMap enc:=by
 rw [J9];exact pg hs l i h
def s5.names (c:s5):List M3:=c.k9.map jV.name++c.views.map Vw.name++c.idxs.map qh.name++c.O1.map oO.name++c.P3.map sV.name++c.T0.map qI.name++c.U0.map vL.name++c.W7.map vJ.name
def cat (c:s5):c8:= .agg (c.enc.map .d)
def s5.oW (c:s5):Prop:=O c.k9<=1000/\O c.views<=1000/\O c.idxs<=1000/\O c.O1<=1000/\O c.P3<=1000/\O c.T0<=1000/\O c.U0<=1000/\O c.W7<=1000
def lP {α:Type}(a b:Option α):Prop:=∀r,a=J r->b=J r
theorem lP.refl {α:Type}(a:Option α):lP a a:=λ_ h=>h
def lP.no {α:Type}(b:Option α):lP K b:=λ_ h=>by cases h
def LeC (c c' :vR):Prop:=∀f args H l,lP (c f args H l) (c' f args H l)
section
variable {cf XS :vR} (hc:LeC cf XS) {p:FuncId->Bool} {md:FuncId->Nat} {vO:FuncId->Bool} {l:I7} {e:Nat}
include hc
def CG (k:Nat)(f:FuncId)(args:List c8)(st:I9):lP (D5 ⟨cf,p,md,vO,l,e⟩ k f args st) (D5 ⟨XS,p,md,vO,l,e⟩ k f args st):=by
 unfold D5;simp only;split
 .cases h:cf f args st.H l with
  |none=>exact lP.no _
  |some r=>rw [hc _ _ _ _ _ h];exact lP.refl _
 .split
  .split
   .cases h:cf f args (List.take (G6 st.H l.strict 8 (C5 args)) st.H) { l with base:=G6 st.H l.strict 8 (C5 args),strict:=E9 st.H l.strict (G6 st.H l.strict 8 (C5 args)) } with
    |none=>exact lP.no _
    |some r=>rw [hc _ _ _ _ _ h];exact lP.refl _
   .cases h:cf f args (List.take (G6 st.H l.strict 8 (C5 args)) st.H) ⟨0,G6 st.H l.strict 8 (C5 args),G6 st.H l.strict 8 (C5 args),E9 st.H l.strict (G6 st.H l.strict 8 (C5 args))⟩ with
    |none=>exact lP.no _
    |some r=>rw [hc _ _ _ _ _ h];exact lP.refl _
   .cases h:cf f args (List.take (G6 st.H l.strict 8 (C5 args)) st.H) (l.qT (args.headD .any).L7 (G6 st.H l.strict 8 (C5 args)) (G6 st.H l.strict 8 (C5 args)) (E9 st.H l.strict (G6 st.H l.strict 8 (C5 args)))) with
    |none=>exact lP.no _
    |some r=>rw [hc _ _ _ _ _ h];exact lP.refl _
  .exact lP.no _
def YS (l5:List p7)(A4:Option Nat)(k:Nat)(st:I9)(op:x9):lP (F9 ⟨cf,p,md,vO,l,e⟩ l5 A4 k st op) (F9 ⟨XS,p,md,vO,l,e⟩ l5 A4 k st op):=by
 cases op
 case call f xs=>exact CG hc k f _ st
 case H6 sz len z ps b=>cases b<;>exact lP.refl _
 case bC x xs =>
  simp [F9];split
  all_goals simp_all [CG,lP.no]
 all_goals exact lP.refl _
def aj4 (l5:List p7)(A4:Option Nat)(k:Nat)(op:x9)(st:I9):lP (E1 ⟨cf,p,md,vO,l,e⟩ l5 A4 k op st) (E1 ⟨XS,p,md,vO,l,e⟩ l5 A4 k op st):=by
 unfold E1;split
 .intro r hr
  cases hx:F9 ⟨cf,p,md,vO,l,e⟩ l5 A4 k st op with
  |none=>simp_all
  |some x =>
   rw [hx] at hr;rw [YS hc l5 A4 k st op _ hx];exact hr
 .exact lP.refl _
def NK (l5:List p7)(A4:Option Nat)(k:Nat)(i:p7)(st:I9):lP (z6 ⟨cf,p,md,vO,l,e⟩ l5 A4 k i st) (z6 ⟨XS,p,md,vO,l,e⟩ l5 A4 k i st):=by
 unfold z6;split
 .intro r hr
  cases hx:E1 ⟨cf,p,md,vO,l,e⟩ l5 A4 k i.op st with
  |none=>simp_all
  |some x =>
   rw [hx] at hr;rw [aj4 hc l5 A4 k i.op st _ hx];exact hr
 all_goals simp_all [lP.refl]
theorem HE (l5:List p7):∀(is:List p7) (k:Nat) (st:I9),lP (gK ⟨cf,p,md,vO,l,e⟩ l5 is k st) (gK ⟨XS,p,md,vO,l,e⟩ l5 is k st)
 |[],_,_=>lP.refl _
 |i::is,k,st=>by
  unfold gK;intro r hr;cases hx:z6 ⟨cf,p,md,vO,l,e⟩ l5 K k i st with
  |none=>simp_all
  |some x =>
   rw [hx] at hr;rw [NK hc l5 K k i st _ hx];exact HE l5 is (k+1) x.1 r hr
def aj3 (l5:List p7)(A4:Option Nat)(k:Nat)(i:p7)(st:I9):lP (lD ⟨cf,p,md,vO,l,e⟩ l5 A4 k i st) (lD ⟨XS,p,md,vO,l,e⟩ l5 A4 k i st):=by
 unfold lD;split
 .exact lP.refl _
 .intro r hr
  cases hx:z6 ⟨cf,p,md,vO,l,e⟩ l5 A4 k i st with
  |none=>simp_all
  |some x =>
   rw [hx] at hr;rw [NK hc l5 A4 k i st _ hx];exact hr
theorem Eh (l5:List p7):∀(is:List p7) (k na:Nat) (st:I9),lP (S6 ⟨cf,p,md,vO,l,e⟩ l5 is k na st) (S6 ⟨XS,p,md,vO,l,e⟩ l5 is k na st)
 |[],_,_,_=>lP.refl _
 |i::is,k,na,st=>by
  unfold S6;intro r hr;cases hx:lD ⟨cf,p,md,vO,l,e⟩ l5 (if i.op.B0 then J na else K) k i st with
  |none=>simp_all
  |some x =>
   rw [hx] at hr;rw [aj3 hc l5 _ k i st _ hx];simp at hr ⊢;cases hy:S6 ⟨cf,p,md,vO,l,e⟩ l5 is (k+1) (if i.op.B0 then na+1 else na) x.1 with
   |none=>simp_all
   |some y =>
    rw [hy] at hr;rw [Eh l5 is (k+1) _ x.1 _ hy];exact hr
def xe (l5:List p7)(draw:Bool)(T:List c8)(H:q6):lP (T5 ⟨cf,p,md,vO,l,e⟩ l5 draw T H) (T5 ⟨XS,p,md,vO,l,e⟩ l5 draw T H):=by
 unfold T5;split
 .intro r hr
  cases hx:S6 ⟨cf,p,md,vO,l,e⟩ l5 l5 0 (O H) ⟨T,H++aO l5,List.replicate (O l5) .any,slotsOf l5⟩ with
  |none=>simp_all
  |some x =>
   rw [hx] at hr;rw [Eh hc l5 l5 0 _ _ _ hx];exact hr
 simp_all [HE]
end
theorem MC {body body' :St->Option (I6×St)}(hb:∀st,lP (body st) (body' st))(mask:List Bool)(strict n:Nat):∀(k k' :Nat) (_:k<=k') (st:St),lP (jl body mask strict n k st) (jl body' mask strict n k' st)
 |0,_,_,_=>lP.no _
 |k+1,0,h,_=>V
 |k+1,k' +1,h,st=>by
  unfold jl;intro r hr;cases hx:body (clean mask strict n st) with
  |none=>simp_all
  |some x =>
   rw [hx] at hr;rw [hb _ _ hx];obtain ⟨x1,x2⟩:=x;cases x1 with
   |normal=>exact MC hb mask strict n k k' V x2 r hr
   |exit i=>exact hr
   |ret=>exact hr
theorem iY {cf XS :vR}(hc:LeC cf XS){p:FuncId->Bool}{md:FuncId->Nat}{vO:FuncId->Bool}{l:I7}{e n n' :Nat}(hn:n<=n'):∀(c:q7) (st:St),lP (exec ⟨cf,p,md,vO,l,e⟩ n c st) (exec ⟨XS,p,md,vO,l,e⟩ n' c st)
 | .skip,_=>lP.refl _
 | .exit _,_=>lP.refl _
 | .ret,_=>lP.refl _
 | .bad,_=>lP.refl _
 | .fz _,_=>lP.refl _
 | .region ops draw,st=>by
  unfold exec;intro r hr;cases hx:T5 ⟨cf,p,md,vO,l,e⟩ ops draw st.T st.H with
  |none=>simp_all
  |some x =>
   rw [hx] at hr;rw [xe hc ops draw st.T st.H _ hx];exact hr
 | .seq a b,st=>by
  unfold exec;intro r hr;cases hx:exec ⟨cf,p,md,vO,l,e⟩ n a st with
  |none=>simp_all
  |some x =>
   rw [hx] at hr;rw [iY hc hn a st _ hx];obtain ⟨x1,x2⟩:=x;cases x1 with
   |normal=>exact iY hc hn b x2 r hr
   |exit i=>exact hr
   |ret=>exact hr
 | .cond c a b,st=>by
  unfold exec;split
  .exact iY hc hn a st
  .exact iY hc hn b st
  .exact lP.refl _
 | .test ops draw c a b,st=>by
  unfold exec;intro r hr;cases hx:T5 ⟨cf,p,md,vO,l,e⟩ ops draw st.T st.H with
  |none=>simp_all
  |some x =>
   rw [hx] at hr;rw [xe hc ops draw st.T st.H _ hx];simp at hr ⊢;split at hr
   .exact iY hc hn a _ r hr
   .exact iY hc hn b _ r hr
   .cases hr
 | .block id body,st=>by
  unfold exec;intro r hr;cases hx:exec ⟨cf,p,md,vO,l,e⟩ n body st with
  |none=>simp_all
  |some x =>
   rw [hx] at hr;rw [iY hc hn body st _ hx];exact hr
 | .loop mask body,st=>by
  exact MC (λst=>iY hc hn body st) mask _ _ n n' hn st
theorem Jl (A:Prog):∀(n n' :Nat),n<=n' ->LeC (call A n) (call A n')
 |0,_,_=>λ_ _ _ _=>lP.no _
 |n+1,0,h=>V
 |n+1,n' +1,h=>λf args H l=>by
  unfold call;split
  .exact lP.refl _
  .split
   next af _=>
    unfold jh;split
    .intro r hr
     cases hx:exec ⟨call A n,A.prom,A.mode,A.idle,l,O H⟩ n af.body ⟨args++List.replicate (O af.names - O args) .any,H⟩ with
     |none=>simp_all
     |some x =>
      rw [hx] at hr;rw [iY (Jl A n n' V) V _ _ _ hx];exact hr
    .exact lP.no _
   .exact lP.refl _
def Pf.Tq {A:Prog}{n:Nat}{f:FuncId}{args:List c8}{v:c8}(h:call A n f args [] W8=J (v,[])):Pf A f args v :=
 ⟨n,λm hm=>Jl A n m hm f args [] W8 _ h⟩
open Go.ChangeShapes Go.WideShapes Go.ChangeAt Go.RowKit
section
variable {H:Type} {enc:TypeId×Value->H} {P:Program} {w:World} {held:Bool} {base:Nat} {spare:Nat->Bool}
def al2 {t e:TypeId}{fuel:Nat}{a:Addr}{len cap:Nat}{x:DataW H×List MemPlace}(hu:P.underlying t=J (.slice e))(h:DataW.trod enc P w base spare held fuel t [.slice (J a) len cap]=J x):∃elems rest,x.1= .slice elems rest/\O elems=len:=by
 cases fuel with
 |zero=>simp [DataW.trod] at h
 |succ fuel =>
  unfold DataW.trod at h
  grind [Option.bind_eq_some_iff,Option.map_eq_some_iff,List.length_map,ki,List.length_range]
def Szd (P:Program)(ts:List TypeId)(as:List c8):Prop:=∀(j:Nat) (t e:TypeId) (n:Nat) (cells:List Data),ts[j]? =J t->P.underlying t=J (.slice e)->as[j]? =J (.d (.slice n cells))->n * P.bytesOf e<=reachBytes
theorem ak2:∀(ts:List TypeId) (vs:List Value) (ds:List (DataW H)) (ps:List MemPlace) (as:List c8),DataW.TrodAll enc P w base spare held ts vs ds ps->L3 (G0 w) I0 N0 w as vs->(DataW.weightsEach P ts ds).all (·<=reachBytes)=W->Szd P ts as
 |[],_,_,_,_,_,_,_=>λj t e n cells ht=>by simp at ht
 |t::ts,vs,ds,ps,as,h,hv,hs=>λj t' e n cells ht hu ha=>by
  obtain ⟨v,vs1,d,ds1,a,b,rfl,rfl,rfl,h1,h2⟩:=Go.ChangeShapes.trodAll_cons h;cases as with
  |nil=>simp at ha
  |cons a0 as =>
   obtain ⟨v',xs,e1,hv1,hv2⟩:=hv;cases e1;simp only [DataW.weightsEach,List.all_append,Bool.and_eq_true] at hs;cases j with
   |succ j=>exact ak2 ts _ _ _ as h2 hv2 hs.2 j t' e n cells M hu M
   |zero =>
    simp [List.getElem?_cons_zero,Option.some.injEq] at ht ha;subst ht ha
    rcases hv1 with ⟨_,rfl,_⟩|⟨bb,o,cap,rfl,_,_⟩
    .simp
    .obtain ⟨fuel,hf⟩:=h1
     obtain ⟨elems,rest,e2,e3⟩:=al2 hu hf;have:=sized_slice (ts:=[t]) (ds:=[.slice elems rest]) (by simp_all [DataW.weightsEach,List.all_append,Bool.and_eq_true]) (j:=0) rfl rfl hu
     grind
end
def Gm {H:Type}{enc:TypeId×Value->H}{P:Program}{A:Prog}(hok:qH P A){fid:FuncId}{f:Func}{s:ChangeSpec}(hvars:s.vars=[]){tb:TypeId}(hrt:f.resultTypes= #[tb])(htb:P.underlying tb=J .bool)
  {ls:List (List CT)} (WH:Ja P f.params.toList ls=W) {f9:World} {base:Nat} {args:Array Value} {ds gs:List (DataW H)} {before:List MemPlace} {r:Reach}
  (hfn:s.fn H ds={ results:=[.lit (.bool W)],args:=ds })
  (hval:∀(j:Nat) t v,f.params[j]? =J t->args[j]? =J v->Value.okWide P f9 r base t v) (hW:DataW.Whole enc P f.params.toList s.vars F f9 args.toList ds gs before)
  (hsz:(DataW.weightsEach P (f.params.toList++s.plain.varTypes P) (ds++gs)).all (·<=reachBytes)=W)
  (bp6:∀as,sR P f.params.toList ls as->Szd P f.params.toList as->∃n,call A n fid as [] W8=J (.d (.bool W),[])) :
  Calls P fid args f9 λe W' =>∃v,e= .returned v/\s.post enc P f F W F F f9 args v W' :=by
 have hW' :=hW;obtain ⟨p,q,hA,hV,rfl,hfz,hnd⟩:=hW;rw [hvars] at hV;obtain ⟨rfl,rfl⟩:=trodVars_none hV;have bY2 :(DataW.weightsEach P f.params.toList ds).all (·<=reachBytes)=W:=by
  simp_all [ChangeSpec.plain,DataSpec.varTypes,List.append_nil]
 obtain ⟨⟨as,a1,a2⟩,a3⟩:=Sg f.params.toList ls args.toList ds p WH (λj t v ht hv=>hval j t v M M) hA;obtain ⟨n,hn⟩:=bp6 as a1 (ak2 _ _ _ _ _ hA a2 bY2);refine (WR hok hn a2).mono ?_;rintro e W' ⟨rfl,hK⟩;have bn3 :s.fn H (ds++[])={ results:=[.lit (.bool W)],args:=ds }:=M
 refine ⟨_,rfl,Xe (pa:=p) (pv:=[]) hW' hK (λb sp hd=>?_) (λsp hsp=>?_) (λsp _=>?_) rfl (λj t v ht hv=>?_)⟩
 .rw [bn3,hrt]
  exact trodAll_cons_mk (shut_bool htb _) trodAll_mk0
 .simp_all
 .rw [bn3,hvars]
  rfl
 grind [Value.resultList,okWide_bool_mk]
end Go.A1


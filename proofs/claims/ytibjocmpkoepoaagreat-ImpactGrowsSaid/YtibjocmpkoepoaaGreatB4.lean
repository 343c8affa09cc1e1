import Derived.Test.YtibjocmpkoepoaaGreatB2
import Derived.Defers
import Derived.Recover
import Derived.ChangeSame
import Derived.ProofKit
import Derived.OpenShut
import Derived.SizedLaws
set_option linter.all false
open Bool renaming false_eq_true→j5,true→W,false→F
open List renaming flatMap_cons→O7,getElem?_append_left→y8,getElem?_append_right→x7,getElem?_eq_getElem→n9,getElem_of_mem→L5,map_cons→G4,mem_append→N9,replicate_succ→O8,length→O
open Nat renaming le_of_ble_eq_true→j6,le_refl→k9,le_trans→s5,lt_or_ge→A7
open Option renaming map_some→C6,some→J,none→K
namespace Go.A5
variable [E3]
def J6.Ci:J6->Exit
 | .normal=> .normal
 | .exit id=> .exit id
 | .ret=> .ret
def AL (P:Program)(names:List Tmp)(ops:Array Oper)(n:Nat)(c' :Operand)(c:y4):Bool:=Cx.ck ⟨P,names,ops⟩ (λj=>decide (j<n)) c' c
def aC (P:Program)(names:List Tmp)(nt:Nat):Code->p7->Bool
 |c,.seq (.fz _) k=>aC P names nt c k
 | .skip,.skip=>W
 | .region _ ops d',.region j8 d=>d==d' &&eT P names nt ops j8 d
 | .seq (.region _ ops d') (.seq (.cond c' x' y') z'),.seq (.test j8 d c x y) k =>
  d==d' &&eT P names nt ops j8 d&&AL P names ops (O j8) c' c&&aC P names nt x' x&&aC P names nt y' y&&aC P names nt z' k
 | .seq (.region _ ops d') (.cond c' x' y'),.test j8 d c x y =>
  d==d' &&eT P names nt ops j8 d&&AL P names ops (O j8) c' c&&aC P names nt x' x&&aC P names nt y' y
 | .seq (.region i ops d') (.seq (.cond c' x' y') z'),.seq (.seq (.region j8 d) (.cond c x y)) k =>
  aC P names nt (.region i ops d') (.region j8 d)&&aC P names nt (.cond c' x' y') (.cond c x y)&&aC P names nt z' k
 | .seq x' y',.seq x y=>aC P names nt x' x&&aC P names nt y' y
 | .cond c' x' y',.cond c x y=>AL P names #[] 0 c' c&&aC P names nt x' x&&aC P names nt y' y
 | .block id' b',.block id b=>id' ==id&&aC P names nt b' b
 | .loop b',.loop _ b=>aC P names nt b' b
 | .exit id',.exit id=>id' ==id
 | .ret,.ret=>W
 |_,.bad=>W
 |_,_=>F
theorem qR:∀(m:List Bool) (T:List c7) (s:Nat),(U7 m T).getD s .any=T.getD s .any\/(U7 m T).getD s .any= .any
 |[],[],s=>by simp [U7]
 |[],v::vs,0=>by simp [U7]
 |[],v::vs,s+1=>by simpa [U7] using qR [] vs s
 |b::m,[],s=>by simp_all [U7]
 |true::m,v::vs,0=>by simp [U7]
 |false::m,v::vs,0=>by simp [U7]
 |true::m,v::vs,s+1=>by simpa [U7] using qR m vs s
 |false::m,v::vs,s+1=>by simpa [U7] using qR m vs s
theorem mN:∀(m:List Bool) (T:List c7),O (U7 m T)=O T
 |[],[]=>by simp [U7]
 |[],v::vs=>by simpa [U7] using mN [] vs
 |b::m,[]=>by simp_all [U7]
 |true::m,v::vs=>by simpa [U7] using mN m vs
 |false::m,v::vs=>by simpa [U7] using mN m vs
def least {p:Nat->Prop}(h:∃m,p m):∃m,p m/\∀k,p k->m<=k:=by
 obtain ⟨m,hm⟩:=h
 induction m using Nat.strongRecOn with
 |_ m ih =>
  grind
def ap2 {α β:Type}(a6:Nat->α->β->Prop):∃μ:α->β->Nat,∀a b,(∃m,a6 m a b)->a6 (μ a b) a b/\∀k,a6 k a b->μ a b<=k:=by
 have:∀a b,∃m,(∃m,a6 m a b)->a6 m a b/\∀k,a6 k a b->m<=k:=by
  intro a b
  by_cases h:∃m,a6 m a b
  all_goals simp_all [least,absurd]
 exact ⟨λa b=>Classical.choose (this a b),λa b=>Classical.choose_spec (this a b)⟩
section
variable {P:Program} {names:List Tmp} {E:Env} {nt:Nat}
def IL {st:St}{a:Act}{w:World}{G:Gh}{I:S8}{N:Nat->Prop}(h:Cd P names E nt st a w G I N)(mask:List Bool){n:Nat}(hn:E.entry<=n) :
  ∃N',Cd P names E nt (clean mask E.lim.strict n st) a w G I N' /\bg E st.H w G I N (clean mask E.lim.strict n st).H w G I N' :=by
 have hT:∀(s:Nat) t,names[s]? =J t->VR G I N w (.slot s) ((U7 mask st.T).getD s .any) (a.tmps.getD t undef):=by
  intro s t ht
  rcases qR mask st.T s with e|e
  .rw [e];exact h.T s t ht
  simp_all [VR]
 unfold clean;split
 next hc=>
  refine ⟨λi=>N i/\i<n,⟨λs t ht=>VR.low n _ _ _ ?_ (hT s t ht),λid o ho=>?_,h.wf,λid o ho=>?_,?_,λid hid=>?_,?_,h.size,h.idle⟩,?_⟩
  .cases hg:(U7 mask st.T)[s]? with
   |none=>simp [hg,c7.J4]
   |some v =>
    have:=oS _ _ _ hg
    grind
  .have hlt:id<n:=by grind
   rw [List.getElem?_take_of_lt hlt] at ho;exact OR.low hlt o (wT h.W1 hc.2 hlt ho) (h.H id o ho)
  .have hlt:id<n:=by grind
   rw [List.getElem?_take_of_lt hlt] at ho;exact h.W1 id o ho
  .simp [mN];exact h.Y8
  .have:=h.bT id hid.1
   simp;omega
  .have:=h.He
   simp;omega
  .refine ⟨Ext.refl _ _,mh.refl _ _ _,λ_ _ _=>rfl,λid hid hN=>⟨hN,V⟩,λid _ hN=>hN.1,λid o' _ ho=>?_⟩
   grind
 .exact ⟨N,⟨hT,h.H,h.wf,h.W1,by simp [mN];exact h.Y8,h.bT,h.He,h.size,h.idle⟩,bg.refl _ _ _ _ _ _⟩
def Sound (P:Program)(names:List Tmp)(nt:Nat)(E:Env)(C:Code)(run:St->Option (J6×St)):Prop :=
 ∀st x st' a w G I N,run st=J (x,st')->Cd P names E nt st a w G I N->∀Q:Exit->Act->World->Prop,
  (∀a' w' G' I' N',Cd P names E nt st' a' w' G' I' N' ->Dj E st.H w G I N st'.H w' G' I' N' ->Q x.Ci a' w')->C.wp P Q a w
def Ch {X:Cx}{j8:List o3}{S:Nat->Prop}{r:I5}{a:Act}{w:World}{G:Gh}{I:S8}{N:Nat->Prop}{d8:Nat->Bool}(h:Rg X j8 E nt S r a w G I N)(hD:∀j,d8 j=W->S j){c' :Operand}{c:y4}(hc:X.ck d8 c' c=W){b:Bool}
  (hv:G7 r.T r.L c= .d (.bool b)):a.eval c' = .bool b:=by
 have:=h.ri.R1 hD c' c hc;simp_all [VR,DR]
def AP {st:St}{a:Act}{w:World}{G:Gh}{I:S8}{N:Nat->Prop}(h:Cd P names E nt st a w G I N){c' :Operand}{c:y4}(hc:AL P names #[] 0 c' c=W){b:Bool}(hv:G7 st.T [] c= .d (.bool b)):a.eval c' = .bool b:=by
 have hR:Rg ⟨P,names,#[]⟩ [] E nt (λ_=>False) ⟨st.T,st.H,[],[]⟩ a w G I N:=h.start _ rfl (λ_ h=>h) [] U U rfl [];exact Ch hR (d8:=λj=>decide (j<0)) (λj hj=>by simp at hj) hc hv
def andThen (rx ry:St->Option (J6×St)):St->Option (J6×St):=λst=>match rx st with
 |some (.normal,st')=>ry st'
 |r=>r
def BZ {x y:Code}{rx ry:St->Option (J6×St)}(hx:Sound P names nt E x rx)(hy:Sound P names nt E y ry)
  {st:St} {e:J6} {st' :St} {a:Act} {w:World} {G:Gh} {I:S8} {N:Nat->Prop} (hrun:andThen rx ry st=J (e,st')) (h:Cd P names E nt st a w G I N) (Q:Exit->Act->World->Prop)
  (hQ:∀a' w' G' I' N',Cd P names E nt st' a' w' G' I' N' ->Dj E st.H w G I N st'.H w' G' I' N' ->Q e.Ci a' w'):x.wp P (Exit.then (y.wp P Q) Q) a w:=by
 unfold andThen at hrun;split at hrun
 next st1 h1=>
  refine hx st .normal st1 a w G I N h1 h _ ?_;intro a1 w1 G1 I1 N1 hc hs;simp only [J6.Ci,Exit.then];refine hy st1 e st' a1 w1 G1 I1 N1 hrun hc Q ?_;intro a2 w2 G2 I2 N2 uv hs2;exact hQ a2 w2 G2 I2 N2 uv (hs.trans hs2)
 next hne=>
  refine hx st e st' a w G I N hrun h _ ?_;intro a1 w1 G1 I1 N1 hc hs;have:=hQ a1 w1 G1 I1 N1 hc hs;cases e with
  |normal=>exact absurd hrun (hne st')
  |exit id=>exact this
  |ret=>exact this
def wW {x y:Code}{rx ry:St->Option (J6×St)}(hx:Sound P names nt E x rx)(hy:Sound P names nt E y ry) :
  Sound P names nt E (.seq x y) (andThen rx ry) :=
 λ_ _ _ _ _ _ _ _ hrun h Q hQ=>wp_seq (BZ hx hy hrun h Q hQ)
def Dm (rx ry rz:St->Option (J6×St)):andThen (andThen rx ry) rz=andThen rx (andThen ry rz):=by
 grind [andThen]
def BY (hE:Ob P E)(hn:kN names=W){ops:Array Oper}{j8:List o3}{d:Bool}{c:y4}{c' :Operand}(bk8:eT P names nt ops j8 d=W)(hck:AL P names ops (O j8) c' c=W)
  {st:St} {a:Act} {w:World} {G:Gh} {I:S8} {N:Nat->Prop} (h:Cd P names E nt st a w G I N) {r:I5} (hr:T9 E j8 d st.T st.H=J r) {b:Bool} (hv:G7 r.T r.L c= .d (.bool b)) (id:Nat) (Q:Exit->Act->World->Prop)
  (hQ:∀a' w' G' I' N',Cd P names E nt ⟨r.T,r.H⟩ a' w' G' I' N' ->Dj E st.H w G I N r.H w' G' I' N' ->a'.eval c' = .bool b->Q .normal a' w'):(Code.region id ops d).wp P Q a w:=by
 refine uO hE hn bk8 h hr id Q ?_;intro a' w' G' I' N' hR hs;exact hQ a' w' G' I' N' (Cd.done rfl hR) hs.trn (Ch hR (d8:=λj=>decide (j<O j8)) (λj hj=>by simpa using hj) hck hv)
def NJ {c:Code}{body:St->Option (J6×St)}(hb:Sound P names nt E c body)(mask:List Bool)(fuel:Nat) :
  Sound P names nt E (.loop c) (λst=>mL body mask E.lim.strict (O st.H) fuel st):=by
 intro st e st' a w G I N hrun h Q hQ;simp only at hrun;generalize hn:O st.H=n at hrun;have hen:E.entry<=n:=by rw [<- hn];exact h.He
 let a6:Nat->Act->World->Prop:=λm a' w' =>∃st1 G1 I1 N1,mL body mask E.lim.strict n m st1=J (e,st')/\Cd P names E nt st1 a' w' G1 I1 N1/\Dj E st.H w G I N st1.H w' G1 I1 N1
 obtain ⟨μ,aG1⟩:=ap2 a6;refine wp_loop (I:=λa' w' =>∃m,a6 m a' w') (μ:=μ) ⟨fuel,st,G,I,N,hrun,h,Dj.refl _ _ _ _ _ _⟩ ?_;intro a1 w1 hJ;obtain ⟨hm,hmin⟩:=aG1 a1 w1 hJ;generalize hμ:μ a1 w1=m at hm;obtain ⟨st1,G1,I1,N1,EB,hc1,hs1⟩:=hm;cases m with
 |zero=>simp [mL] at EB
 |succ m =>
  simp only [mL] at EB;obtain ⟨N2,uv,hs2⟩:=IL hc1 mask hen;split at EB
  next st2 hb2=>
   refine hb _ .normal st2 a1 w1 G1 I1 N2 hb2 uv _ ?_;intro a3 w3 G3 I3 N3 hc3 hs3;simp only [J6.Ci,Exit.then];have hJ3:a6 m a3 w3:=⟨st2,G3,I3,N3,EB,hc3,(hs1.trans hs2.trn).trans hs3⟩;refine ⟨⟨m,hJ3⟩,?_⟩;exact Nat.lt_succ_of_le ((aG1 a3 w3 ⟨m,hJ3⟩).2 m hJ3)
  next hne=>
   refine hb _ e st' a1 w1 G1 I1 N2 EB uv _ ?_;intro a3 w3 G3 I3 N3 hc3 hs3;have:=hQ a3 w3 G3 I3 N3 hc3 ((hs1.trans hs2.trn).trans hs3);cases e with
   |normal=>exact absurd EB (hne st')
   |exit id=>exact this
   |ret=>exact this
def Bb {lim:Nat}(x y:p7):exec E lim (.seq x y)=andThen (exec E lim x) (exec E lim y):=by
 rfl
def MV (hE:Ob P E)(hn:kN names=W)(lim:Nat):∀(n:Nat) (c:p7) (C:Code),SizeOf.sizeOf c<n->aC P names nt C c=W->Sound P names nt E C (exec E lim c):=by
 intro n
 induction n with
 |zero=>intro c C h;omega
 |succ n ih =>
 intro c C hsz hc;unfold aC at hc;split at hc
 all_goals (try (cases hc;done))
 ·
  rename_i s k;simp only [p7.seq.sizeOf_spec] at hsz;have ik:=ih k C V hc;intro st e st' a w G I N hrun h Q hQ;simp only [exec] at hrun;cases hf:oH E.lim E.entry s st with
  |none=>rw [hf] at hrun;cases hrun
  |some st1 =>
   rw [hf] at hrun;obtain ⟨G1,I1,N1,h1,s1⟩:=al4 h hf;exact ik st1 e st' a w G1 I1 N1 hrun h1 Q (λa' w' G' I' N' tN hs' =>hQ a' w' G' I' N' tN (s1.trans hs'))
 ·
  intro st e st' a w G I N hrun h Q hQ;simp only [exec] at hrun;cases hrun;exact wp_skip (hQ a w G I N h (Dj.refl _ _ _ _ _ _))
 ·
  rename_i id ops d' j8 d;simp only [Bool.and_eq_true,beq_iff_eq] at hc;obtain ⟨rfl,hc⟩:=hc;intro st e st' a w G I N hrun h Q hQ;simp only [exec] at hrun;split at hrun
  next r hr=>
   cases hrun;refine uO hE hn hc h hr id Q ?_;intro a' w' G' I' N' hR hs;exact hQ a' w' G' I' N' (Cd.done rfl hR) hs.trn
  .cases hrun
 ·
  rename_i id ops d' c' x' y' z' j8 d c x y k;simp only [Bool.and_eq_true,beq_iff_eq] at hc;obtain ⟨⟨⟨⟨⟨rfl,h1⟩,h2⟩,h3⟩,h4⟩,h5⟩:=hc;simp only [p7.seq.sizeOf_spec,p7.test.sizeOf_spec] at hsz;have ix:=ih x x' V h3;have iy:=ih y y' V h4;have iz:=ih k z' V h5;intro st e st' a w G I N hrun h Q hQ;simp only [exec] at hrun;refine wp_seq ?_;cases hr:T9 E j8 d st.T st.H with
  |none=>rw [hr] at hrun;cases hrun
  |some r =>
   rw [hr] at hrun;simp only at hrun;have both:∀(b:Bool) (z:Code) (rz:St->Option (J6×St)),G7 r.T r.L c= .d (.bool b)->Sound P names nt E z rz->andThen rz (exec E lim k) ⟨r.T,r.H⟩=J (e,st')->(if b then x' else y')=z->(Code.region id ops d).wp P (Exit.then ((Code.seq (.cond c' x' y') z').wp P Q) Q) a w:=by
    intro b z rz hv hz UI hbz;refine BY hE hn h1 h2 h hr hv id _ ?_;intro a' w' G' I' N' tN hs' hev;simp only [Exit.then];refine wp_seq (wp_cond hev ?_);rw [hbz];refine BZ hz iz UI tN Q ?_;intro a2 w2 G2 I2 N2 uv hs2;exact hQ a2 w2 G2 I2 N2 uv (hs'.trans hs2)
   cases hv:G7 r.T r.L c with
   |d v =>
    cases v with
    |bool b =>
     rw [hv] at hrun;cases b with
     |true=>exact both W x' _ hv ix hrun rfl
     |false=>exact both F y' _ hv iy hrun rfl
    |_=>rw [hv] at hrun;cases hrun
   |_=>rw [hv] at hrun;cases hrun
 ·
  rename_i id ops d' c' x' y' j8 d c x y;simp only [Bool.and_eq_true,beq_iff_eq] at hc;obtain ⟨⟨⟨⟨rfl,h1⟩,h2⟩,h3⟩,h4⟩:=hc;simp only [p7.test.sizeOf_spec] at hsz;have ix:=ih x x' V h3;have iy:=ih y y' V h4;intro st e st' a w G I N hrun h Q hQ;simp only [exec] at hrun;refine wp_seq ?_;cases hr:T9 E j8 d st.T st.H with
  |none=>rw [hr] at hrun;cases hrun
  |some r =>
   rw [hr] at hrun;simp only at hrun;have both:∀(b:Bool) (z:Code) (rz:St->Option (J6×St)),G7 r.T r.L c= .d (.bool b)->Sound P names nt E z rz->rz ⟨r.T,r.H⟩=J (e,st')->(if b then x' else y')=z->(Code.region id ops d).wp P (Exit.then ((Code.cond c' x' y').wp P Q) Q) a w:=by
    intro b z rz hv hz UI hbz;refine BY hE hn h1 h2 h hr hv id _ ?_;intro a' w' G' I' N' tN hs' hev;simp only [Exit.then];refine wp_cond hev ?_;rw [hbz];refine hz _ e st' a' w' G' I' N' UI tN Q ?_;intro a2 w2 G2 I2 N2 uv hs2;exact hQ a2 w2 G2 I2 N2 uv (hs'.trans hs2)
   cases hv:G7 r.T r.L c with
   |d v =>
    cases v with
    |bool b =>
     rw [hv] at hrun;cases b with
     |true=>exact both W x' _ hv ix hrun rfl
     |false=>exact both F y' _ hv iy hrun rfl
    |_=>rw [hv] at hrun;cases hrun
   |_=>rw [hv] at hrun;cases hrun
 ·
  rename_i i ops d' c' x' y' z' j8 d c x y k;simp only [Bool.and_eq_true] at hc;simp only [p7.seq.sizeOf_spec] at hsz;rw [Bb,Bb,Dm];exact wW (ih (.region j8 d) _ V hc.1.1) (wW (ih (.cond c x y) _ V hc.1.2) (ih k z' V hc.2))
 ·
  rename_i x' y' x y _ _ _;simp only [Bool.and_eq_true] at hc;simp only [p7.seq.sizeOf_spec] at hsz;rw [Bb];exact wW (ih x x' V hc.1) (ih y y' V hc.2)
 ·
  rename_i c' x' y' c x y;simp only [Bool.and_eq_true] at hc;simp only [p7.cond.sizeOf_spec] at hsz;intro st e st' a w G I N hrun h Q hQ;simp only [exec] at hrun;split at hrun
  next hv=>
   exact wp_cond_true (AP h hc.1.1 hv) (ih x x' V hc.1.2 st e st' a w G I N hrun h Q hQ)
  next hv=>
   exact wp_cond_false (AP h hc.1.1 hv) (ih y y' V hc.2 st e st' a w G I N hrun h Q hQ)
  .cases hrun
 ·
  rename_i id' b' id b;simp only [Bool.and_eq_true,beq_iff_eq] at hc;obtain ⟨rfl,hc⟩:=hc;simp only [p7.block.sizeOf_spec] at hsz;have ib:=ih b b' V hc;intro st e st' a w G I N hrun h Q hQ;simp only [exec] at hrun;refine wp_block ?_;split at hrun
  next i1 st1 h1=>
   refine ib st (.exit i1) st1 a w G I N h1 h _ ?_;intro a' w' G' I' N' tN hs';simp only [J6.Ci,Exit.inBlock];split at hrun
   next he=>
    cases hrun;rw [if_pos he];exact hQ a' w' G' I' N' tN hs'
   next he=>
    cases hrun;rw [if_neg he];exact hQ a' w' G' I' N' tN hs'
  next hne=>
   refine ib st e st' a w G I N hrun h _ ?_;intro a' w' G' I' N' tN hs';have:=hQ a' w' G' I' N' tN hs';cases e with
   |normal=>exact this
   |exit i=>exact absurd hrun (hne i st')
   |ret=>exact this
 ·
  rename_i b' mask b;simp only [p7.loop.sizeOf_spec] at hsz;exact NJ (ih b b' V hc) mask lim
 ·
  rename_i id' id;intro st e st' a w G I N hrun h Q hQ;simp only [beq_iff_eq] at hc;subst hc;simp only [exec] at hrun;cases hrun;exact wp_exit (hQ a w G I N h (Dj.refl _ _ _ _ _ _))
 ·
  intro st e st' a w G I N hrun h Q hQ;simp only [exec] at hrun;cases hrun;exact wp_ret (hQ a w G I N h (Dj.refl _ _ _ _ _ _))
 ·
  intro st e st' a w G I N hrun h Q hQ;simp only [exec] at hrun;cases hrun
end
end Go.A5
namespace Go.A5
variable [E3]
def freeze (G:Gh)(n:Nat):Gh:=λb =>
 match G b with
 | .obj id=>if n<=id then .lK else .obj id
 |x=>x
section
variable {P:Program} {G:Gh} {I:S8} {N:Nat->Prop} {w:World} {n:Nat}
def Mx {b o:Nat}(h:jm G b o):jm (freeze G n) b o:=by
 grind [jm,freeze]
def tg:Ext G w (freeze G n) w where
 os:=rfl
 tape:=rfl
 output:=rfl
 drawn _:=k9 _
 size:=k9 _
 lK b o h:=⟨Mx h,rfl⟩
 still b h:=⟨by grind [freeze],rfl⟩
 shape _ c _ _ h:=⟨c,h,rfl⟩
def nM (q:Place):bE q G w (freeze G n) w:=λb m hb=>⟨by simp [freeze,hb],rfl⟩
def Bi {b id:Nat}(h:id<n)(hb:G b= .obj id):freeze G n b= .obj id:=by simp_all [freeze,if_neg]
def RZ (h:WF G w):WF (freeze G n) w:=λb hb=>by simp [freeze,h b hb]
theorem Ew {pl:Place}{a:c7}{x:Value}(h:VR G I N w pl a x):VR (freeze G n) I N w pl a x :=
 VR.mono tg.sub (λ_ _=>rfl) (λ_ h=>h) _ _ _ (Or.inr (nM pl)) h
theorem Ys {pl:Place}{a:c7}{d:Data}{x:Value}(h:a.data? =J d)(hv:VR G I N w pl a x):DR G w d x:=by
 unfold c7.data? at h;split at h
 .simp_all [VR]
 .have:=hv.K9 (zP := .none)
  simp_all [c7.K9,VR]
 .have:=hv.K9 (zP := .none)
  simp_all [c7.K9,VR]
 .cases h
theorem El:∀(cs:List c7) (xs:List Data),L1 cs=J xs->O xs=O cs/\∀(i:Nat) x,xs[i]? =J x->∃a,cs[i]? =J a/\a.data? =J x
 |[],xs,h=>by simp_all [L1]
 |c::cs,xs,h=>by
  unfold L1 at h;split at h
  .split at h
   next ys hys=>
    obtain ⟨g1,g2⟩:=El cs ys hys
    grind
   .cases h
  .cases h
theorem qP {H:j9}(hH:HR G I N w H):∀(fuel:Nat) (as bs:List c7),cH H n fuel as=J bs->O bs=O as/\∀(i:Nat) a pl x,as[i]? =J a->VR G I N w pl a x->∃b,bs[i]? =J b/\VR (freeze G n) I N w pl b x
 |0,as,bs,h=>by simp [cH] at h
 |fuel+1,[],bs,h=>by
  simp_all [cH]
 |fuel+1,v::vs,bs,h=>by
  simp [cH] at h;split at h
  .cases h
  next ws hws=>
   obtain ⟨l1,l2⟩:=qP hH fuel vs ws hws;have fin:∀(u:c7),(∀pl x,VR G I N w pl v x->VR (freeze G n) I N w pl u x)->bs=u::ws->O bs=O (v::vs)/\∀(i:Nat) a pl x,(v::vs)[i]? =J a->VR G I N w pl a x->∃b,bs[i]? =J b/\VR (freeze G n) I N w pl b x:=by
    grind
   have cb4:∀(l l' :List c7),cH H n fuel l=J l' ->∀xs,K1 G I N w l xs->K1 (freeze G n) I N w l' xs:=by
    intro l l' hl xs hx;obtain ⟨m1,m2⟩:=qP hH fuel l l' hl;have hlen:=K1.length _ _ hx
    grind [T7,A3,n9,K1.get]
   split at h
   next id sz lo len=>
    split at h
    .grind [Ew]
    .split at h
     next us hus=>
      split at h
      next us' bm0=>
       split at h
       next xs hxs=>
        cases h;refine fin _ (λpl x hv=>?_) rfl;simp only [VR] at hv ⊢;obtain ⟨hN,cap,rfl,hcap,c,e,f,hc,hsz⟩:=hv;refine Or.inr ⟨(I id).1,(I id).2+lo,cap,rfl,hcap,?_⟩;obtain ⟨d1,d2⟩:=El us' xs hxs;obtain ⟨m1,m2⟩:=qP hH fuel us us' bm0;refine Aq _ xs λi y hi=>?_
        have hpos:0<len * sz:=by
         all_goals grind [rd,A3]
        obtain ⟨_,zs,g1,g2,g3,g4⟩:=hH.rd hus hpos;have Df:i<len * sz:=by grind
        have Jn:G (I id).1= .obj id:=by
         unfold rd at hus;split at hus
         next l0 hl0=>
          have:=hH id _ hl0
          grind [OR]
         .cases hus
        refine ⟨?_,?_⟩
        .simp_all [freeze,if_pos,jm]
        .have hz:zs[i]? =J zs[i]:=n9 V
         have hu:us[i]? =J us[i]:=n9 V
         grind [Ys]
       .cases h
      .cases h
     .cases h
   .grind [VR]
   all_goals grind [VR,Ew]
end
def fV (P:Program)(names:List Tmp):List ResultVar->List Rp->Bool
 |[],[]=>W
 | .tmp t::r,.slot s::q=>names[s]? ==J t&&fV P names r q
 | .cell a t::r,.cell s n::q=>names[s]? ==J a&&tv P t n&&fV P names r q
 |_,_=>F
def tG (tmps:Array Value):ResultVar->Sem Value
 | .tmp t=>pure (tmps.getD t undef)
 | .cell a t=>do loadVar t (<- asAddr (tmps.getD a undef))
section
variable {P:Program} {names:List Tmp} {E:Env} {nt:Nat} {st:St} {a:Act} {w:World} {G:Gh} {I:S8} {N:Nat->Prop}
def ZG (h:Cd P names E nt st a w G I N){rv:ResultVar}{ar:Rp}(hc:fV P names [rv] [ar]=W){v:c7}(hv:qf st.T st.H ar=J v):∃x s,(tG a.tmps rv).run P w= .ok x w/\VR G I N w (.slot s) v x:=by
 cases rv with
 |tmp t =>
  cases ar with
  |slot s =>
   simp only [fV,Bool.and_eq_true,beq_iff_eq] at hc;simp [qf] at hv;have:=h.T s t hc.1;simp_all [tG]<;>grind
  |cell s n=>simp [fV] at hc
 |cell t ty =>
  cases ar with
  |slot s=>simp [fV] at hc
  |cell s n =>
   simp only [fV,Bool.and_eq_true,beq_iff_eq] at hc;obtain ⟨⟨h1,h2⟩,_⟩:=hc;cases n with
   |none =>
    simp [qf] at hv;split at hv
    next id off hT=>
     split at hv
     next u hu=>
      cases hv;have hp:=h.T s t h1;rw [bN hT] at hp;simp [VR] at hp;obtain ⟨_,xs,g1,_,g3,g4⟩:=h.H.rd hu V;obtain ⟨z,rfl⟩:∃z,xs=[z]:=List.length_eq_one_iff.1 g1;have hz:=g3 0 z rfl;have hvz:=g4 0 u z rfl rfl;have ha:dB P ty=J F:=by simp_all [tv]
      refine ⟨z,s,?_,hvz.K9⟩;simp_all [tG,asAddr,loadVar,cq]
     .cases hv
    .cases hv
   |some n =>
    simp [qf] at hv;split at hv
    next id off hT=>
     split at hv
     next us hu=>
      cases hv;have hp:=h.T s t h1;rw [bN hT] at hp;simp [VR] at hp;have ha:dB P ty=J W/\P.cellsOf ty=n/\0<n:=by simp_all [tv,and_assoc]
      obtain ⟨_,xs,g1,g2,g3,g4⟩:=h.H.rd hu ha.2.2;have hs:(sizeOf ty).run P w= .ok n w:=by
       grind [run_sizeOf,dB,info_of_underlying]
      have hl:=run_loadCells_list (P:=P) w (ad (I id).1 ((I id).2+off)) xs (λj v hj=>by simp_all [bp]);refine ⟨.agg xs.toArray,s,?_,?_⟩
      .simp_all [tG,asAddr,loadVar,cq]
      .refine ⟨_,rfl,T7 _ _ (by simp [g1,g2]) λj b v hj hv=>?_⟩
       simp at hj hv;obtain ⟨b',hb',rfl⟩:=hj;exact (g4 j b' v hb' hv).K9
     .cases hv
    .cases hv
theorem Pt (h:Cd P names E nt st a w G I N):∀(rvs:List ResultVar) (Yk:List Rp) (vs:List c7),fV P names rvs Yk=W->cB st.T st.H Yk=J vs ->
  ∃xs:List Value,(rvs.mapM (tG a.tmps)).run P w= .ok xs w/\O xs=O vs/\∀(i:Nat) v x,vs[i]? =J v->xs[i]? =J x->∃s,VR G I N w (.slot s) v x
 |[],Yk,vs,hc,hv=>by
  cases Yk with
  |cons _ _=>simp [fV] at hc
  |nil =>
   simp_all [cB]
 |rv::rvs,Yk,vs,hc,hv=>by
  cases Yk with
  |nil=>simp_all [fV]
  |cons ar Yk =>
   have hc1:fV P names [rv] [ar]=W/\fV P names rvs Yk=W:=by
    cases rv<;>cases ar<;>simp_all [fV]
   simp [cB] at hv;split at hv
   next v hv1=>
    split at hv
    next vs' hvs=>
     obtain ⟨x,s,h1,h2⟩:=ZG h hc1.1 hv1;obtain ⟨xs,h3,h4,h5⟩:=Pt h rvs Yk vs' hc1.2 hvs;simp_all<;>grind
    .cases hv
   .cases hv
end
end Go.A5
namespace Go.A5
variable [E3]
structure iu (w w' :World):Prop where
 heap:w'.heap=w.heap
 os:w'.os=w.os
 tape:w'.tape=w.tape
 output:w'.output=w.output
 drawn:w.drawn<=w'.drawn
theorem iu.refl (w:World):iu w w:=⟨rfl,rfl,rfl,rfl,k9 _⟩
theorem iu.trans {w w1 w2:World}(h:iu w w1)(k:iu w1 w2):iu w w2:=⟨k.heap.trans h.heap,k.os.trans h.os,k.tape.trans h.tape,k.output.trans h.output,s5 h.drawn k.drawn⟩
theorem iu.ext {G:Gh}{w w' :World}(h:iu w w'):Ext G w G w' where
 os:=h.os
 tape:=h.tape
 output:=h.output
 drawn _:=h.drawn
 size:=by rw [h.heap];exact k9 _
 lK b o hi:=⟨hi,jC h.heap _⟩
 still b _:=⟨rfl,by rw [h.heap]⟩
 shape b c e f hc:=⟨c,by rw [h.heap];exact hc,rfl⟩
def iu.keeps {G:Gh}{w w' :World}(h:iu w w')(q:Place):bE q G w G w' :=λb n hb=>⟨hb,by rw [h.heap]⟩
def Idle (P:Program)(f:FuncId):Prop :=
 V3 P f=W/\∀args w,CallsD P f args .returning w λe u' w' =>(∃v,e= .returned v)/\u' = .returning/\iu w w'
section
variable {P:Program} {names:List Tmp} {E:Env} {nt:Nat} {st:St} {a:Act} {w w' :World} {G:Gh} {I:S8} {N:Nat->Prop}
def Cd.same (h:Cd P names E nt st a w G I N)(hw:iu w w'):Cd P names E nt st a w' G I N where
 T s t ht:=VR.mono hw.ext.sub (λ_ _=>rfl) (λ_ h=>h) _ _ _ (Or.inr (hw.keeps _)) (h.T s t ht)
 H id o ho:=OR.mono hw.ext.sub (λ_ _=>rfl) (λ_ h=>h) id o (λh=>⟨h,by rw [hw.heap]⟩) (λ_=>hw.keeps _) (h.H id o ho)
 wf b hb:=h.wf b (by rw [<- hw.heap];exact hb)
 W1:=h.W1
 Y8:=h.Y8
 bT:=h.bT
 He:=h.He
 size:=h.size
 idle:=h.idle
def bg.same {H0 H:j9}{w0:World}{G0:Gh}{I0:S8}{N0:Nat->Prop}(h:bg E H0 w0 G0 I0 N0 H w G I N)(hw:iu w w'):bg E H0 w0 G0 I0 N0 H w' G I N :=
 h.trans ⟨hw.ext,λid _=>⟨λb hb=>⟨hb,by rw [hw.heap]⟩,λ_=>hw.keeps _⟩,λ_ _ _=>rfl,λ_ _ h=>h,λ_ _ h=>h,λ_ o _ ho=>Or.inr ⟨o,ho,k9 _⟩⟩
theorem xY {idle:FuncId->Bool}(Ey:∀f,idle f=W->Idle P f){fn:Func}{tmps:Array Value}{R:Ending->World->Prop}:∀(ds:List Deferred) (w:World),(∀d,d∈ds->Io P idle d) ->
  (∀w',iu w w' ->∃v,(results fn tmps).run P w' = .ok v w' /\R (.returned v) w')->Leaves P fn tmps R ds .returning w
 |[],w,_,h=>h w (iu.refl w)
 |d::ds,w,hd,h=>by
  obtain ⟨f,cap,h1,h2⟩:=hd d U;obtain ⟨hcan,hD⟩:=Ey f h2;obtain ⟨tgt,dargs⟩:=d;subst h1;refine leaves_cons (f:=f) (args:=dargs++cap) U (by simp_all [invoke,uQ]) ?_;refine CallsD.mono (hD _ w) ?_;rintro e u' w' ⟨⟨v,rfl⟩,rfl,hw⟩;exact xY Ey ds w' (λd hd' =>hd d (by simp [hd'])) (λw'' hw' =>h w'' (hw.trans hw'))
def Kl {fn:Func}{tmps:Array Value}{xs:List Value}(h:(fn.results.toList.mapM (tG tmps)).run P w= .ok xs w) :
  (results fn tmps).run P w= .ok (if h:O xs=1 then xs[0]' V else .tuple xs.toArray) w:=by
 have e:results fn tmps=(fn.results.mapM (tG tmps) >>= λvs=>pure (if h:vs.size=1 then vs[0] else .tuple vs)):=by
  rfl
 grind [Array.mapM_eq_mapM_toList,map_eq_pure_bind,Sem.run_bind,Result.andThen_ok,Sem.run_pure,List.size_toArray]
def as8 {vs:List c7}{xs:List Value}(hl:O xs=O vs)(h:∀(i:Nat) v x,vs[i]? =J v->xs[i]? =J x->∃s,VR G I N w (.slot s) v x) :
  ∃pl G2,kE pl G w G2/\(∀id off,pl≠ .cell id off)/\VR G2 I N w .ret (j4 vs) (if h:O xs=1 then xs[0]' V else .tuple xs.toArray):=by
 by_cases h1:O xs=1
 .obtain ⟨x,rfl⟩:=List.length_eq_one_iff.1 h1
  obtain ⟨v,rfl⟩:=List.length_eq_one_iff.1 (hl.symm.trans h1);obtain ⟨s,hv⟩:=h 0 v x rfl rfl;simp [j4]
  by_cases ho:∃z n c,v= .own z n c
  .obtain ⟨z,n,c,rfl⟩:=ho
   obtain ⟨G2,hm,hv2⟩:=jZ (zP := .ret) U hv
   grind
  .exact ⟨.slot s,G,kE.refl _ _ _,U,by simpa using hv.Ir (λz n c e=>ho ⟨z,n,c,e⟩)⟩
 .refine ⟨.ret,G,kE.refl _ _ _,U,?_⟩
  rw [dif_neg h1];have e:j4 vs= .tuple (vs.map c7.K9):=by
   simp_all [j4]<;>grind
  rw [e];refine ⟨_,rfl,T7 _ _ (by simp [hl]) λj b v hj hv=>?_⟩;simp at hj hv;obtain ⟨b',hb',rfl⟩:=hj;obtain ⟨s,hs⟩:=h j b' v hb' hv;exact hs.K9
end
def kF (P:Program)(fn:Func)(af:r7):Bool :=
 match fn.body with
 |some c=>kN af.names&&decide (af.nparams<=O af.names)&&(af.names.take af.nparams==List.range af.nparams)&&decide (af.nparams<=fn.ntmps) &&
   aC P af.names fn.ntmps c af.body && fV P af.names fn.results.toList af.results && fn.name != "runtime.NumGoroutine"
 |none=>F
def MG {P:Program}{A:Prog}(Ey:∀f,A.idle f=W->Idle P f){cf:tR}{n:Nat}(OK:oM P cf A.prom)(hcan:∀f args H lm r,cf f args H lm=J r->V3 P f=W)
  {f:FuncId} {fn:Func} {af:r7} (hf:P.funcs[f]? =J fn) (Jk:kF P fn af=W) {args:List c7} {H:j9} {l:J2} {v:c7} {H1:j9} (hrun:iA A cf n af args H l=J (v,H1))
  {w:World} {G:Gh} {I:S8} {N:Nat->Prop} {K8:Array Value} (hpre:Di l H w G I N args K8) (hbase:af.jx=F->l.base=O H) :
  Calls P f K8 w λe w' =>∃x G' I' N',e= .returned x/\om l H w G I N v H1 x w' G' I' N' :=by
 unfold kF at Jk;cases hbody:fn.body with
 |none=>rw [hbody] at Jk;cases Jk
 |some c =>
  rw [hbody] at Jk;simp only [Bool.and_eq_true,decide_eq_true_eq,beq_iff_eq] at Jk;obtain ⟨⟨⟨⟨⟨⟨an3,hnp⟩,aF3⟩,hnt⟩,aC8⟩,hres⟩,_⟩:=Jk;unfold iA at hrun;split at hrun
  next hlen=>
   have hvl:K8.size=O args:=by simpa using K1.length _ _ hpre.args
   have hstart:Cd P af.names ⟨cf,A.prom,A.mode,A.idle,l,O H⟩ fn.ntmps ⟨args++List.replicate (O af.names - O args) .any,H⟩ { tmps:=K8++Array.replicate (fn.ntmps - K8.size) undef,defers:=[] } w G I N:=by
    refine ⟨λs t ht=>?_,hpre.hr,hpre.wf,hpre.W1,?_,hpre.bT,k9 _,?_,U⟩
    .simp only
     by_cases hs:s<O args
     .have hst:t=s:=by
       have h1:(af.names.take af.nparams)[s]? =J t:=by rw [List.getElem?_take_of_lt V];exact ht
       rw [aF3,List.getElem?_range V] at h1;cases h1;rfl
      subst hst;obtain ⟨x,g1,g2⟩:=K1.get _ _ hpre.args t args[t] (n9 hs);have e1:(args++List.replicate (O af.names - O args) c7.any).getD t .any=args[t]:=by
       rw [List.getD,y8 hs,n9 hs];rfl
      have e2:(K8++Array.replicate (fn.ntmps - K8.size) undef).getD t undef=x:=by
       have hv:K8[t]? =J x:=by simpa using g1
       have hlt:t<K8.size:=Nat.lt_of_lt_of_eq hs hvl.symm;simp [Array.getElem?_append_left hlt,hv]
      rw [e1,e2];exact g2.place
     .have e1:(args++List.replicate (O af.names - O args) c7.any).getD s .any= .any:=by
       rw [List.getD,x7 V]
       rcases A7 (s - O args) (O af.names - O args) with h|h
       .simp [h]
       .rw [List.getElem?_eq_none (by simpa using h)];rfl
      rw [e1];simp [VR]
    .simp;omega
    .simp;omega
   have hE:Ob P ⟨cf,A.prom,A.mode,A.idle,l,O H⟩:=⟨OK,hcan,hpre.strict,hpre.base⟩;refine calls_of_wp_defers hf hbody ?_;have fin:∀(st:St) (vs:List c7),cB st.T st.H af.results=J vs->finish af.jx (O H) vs st.H=J (v,H1)->∀a' w' G' I' N',Cd P af.names ⟨cf,A.prom,A.mode,A.idle,l,O H⟩ fn.ntmps st a' w' G' I' N' ->
     bg ⟨cf,A.prom,A.mode,A.idle,l,O H⟩ H w G I N st.H w' G' I' N' ->Leaves P fn a'.tmps (λe w' =>∃x G' I' N',e= .returned x/\om l H w G I N v H1 x w' G' I' N') a'.defers .returning w' :=by
    intro st vs hvs wF a' w' G' I' N' hc hs;refine xY Ey a'.defers w' hc.idle ?_;intro w'' aF6;have uv:=hc.same aF6;have hs2:=hs.same aF6;obtain ⟨xs,h1,h2,h3⟩:=Pt uv fn.results.toList af.results vs hres hvs;refine ⟨_,Kl h1,(if h:O xs=1 then xs[0]' V else .tuple xs.toArray),?_⟩;obtain ⟨pl,G2,hm,uy,hv⟩:=as8 (w:=w'') (G:=G') (I:=I') (N:=N') h2 h3;have Nc:Ext G w G2 w'' :=hs2.ext.trans hm.ext;have ad5:mh l G w G2 w'' :=hs2.dQ.trans λid _=>⟨λb hb=>⟨hm.obj b id hb,rfl⟩,λoff=>hm.keeps _ (λe=>uy id off e.symm)⟩
    have hhr:HR G2 I' N' w'' st.H:=uv.H.JL hm uy;unfold finish at wF;split at wF
    .cases wF
     refine ⟨G2,I',N',rfl,hv,hhr,hm.wf uv.wf,Nc,ad5,λid hid hN=>hs2.inj id hid hN,λid hN=>hs2.mono id (hpre.bT id hN) hN,λid hid hN=>hs2.old id hid hN,uv.bT,hs2.hle,uv.W1⟩
    next xQ=>
     have xQ:af.jx=F:=by simpa using xQ
     have hb:=hbase xQ;split at wF
     next u hu=>
      split at wF
      next wE=>
       cases wF;obtain ⟨_,hfz⟩:=qP (n:=O H) hhr 1000000 _ _ hu;obtain ⟨b,e1,e2⟩:=hfz 0 _ .ret _ rfl hv;simp at e1;subst e1;have UD:=VR.low (O H) _ _ _ wE e2;have hlt:∀(id:Nat) o,(st.H.take (O H))[id]? =J o->id<O H/\st.H[id]? =J o:=by
        intro id o ho;have:id<O H:=by have:=A3 ho;simp at this;omega
        rw [List.getElem?_take_of_lt this] at ho;exact ⟨this,ho⟩
       refine ⟨freeze G2 (O H),I',λi=>N' i/\i<O H,rfl,UD,λid o ho=>?_,RZ (hm.wf uv.wf),Nc.trans tg,λid hid=>?_,λid hid hN=>hs2.inj id hid hN,λid hN=>⟨hs2.mono id (hpre.bT id hN) hN,hpre.bT id hN⟩,
        λid hid hN=>hs2.old id hid hN.1,λid hN=>?_,λid o' hid ho=>?_,λid o ho=>?_⟩
       .obtain ⟨h4,h5⟩:=hlt id o ho
        have iP:=(uv.W1 id o h5).2 (by simp only;omega);simp only at iP;exact OR.mono tg.sub (λ_ _=>rfl) (λ_ h=>h) id o (λhb=>⟨Bi h4 hb,rfl⟩) (λ_=>nM _) (OR.low h4 o V (hhr id o h5))
       .obtain ⟨p1,p2⟩:=ad5 id hid
        refine ⟨λb hb=>?_,λoff b m hb=>?_⟩
        .obtain ⟨q1,q2⟩:=p1 b hb
         exact ⟨Bi (hpre.mc b id hb) q1,q2⟩
        .obtain ⟨q1,q2⟩:=p2 off b m hb
         obtain ⟨q3,_⟩:=nM (w:=w'') (n:=O H) (.cell id off) b m q1;exact ⟨q3,q2⟩
       .have:=uv.bT id hN.1;simp;omega
       .obtain ⟨h4,h5⟩:=hlt id o' ho
        exact hs2.hle id o' hid h5
       .obtain ⟨h4,h5⟩:=hlt id o ho
        exact uv.W1 id o h5
      .cases wF
     .cases wF
   split at hrun
   .cases hrun
   next x st hne hex=>
    split at hrun
    next vs hvs=>
     refine MV hE an3 n _ af.body c (Nat.lt_succ_self _) aC8 _ x st _ w G I N hex hstart _ ?_;intro a' w' G' I' N' hc hs;have:=fin st vs hvs hrun a' w' G' I' N' hc (hs H w G I N hpre.bm9 (bg.refl _ _ _ _ _ _));cases x with
     |normal=>exact this
     |ret=>exact this
     |exit id=>exact absurd rfl (hne id)
    .cases hrun
   .cases hrun
  .cases hrun
def fS (P:Program)(prom:FuncId->Bool)(f:FuncId)(p:List c7->j9->J2->Option (c7×j9)):Prop :=
 V3 P f=W/\∀args H l v H1,p args H l=J (v,H1)->∀w G I N K8,Di l H w G I N args K8->(prom f=F->l.base=O H) ->
  Calls P f K8 w λe w' =>∃x G' I' N',e= .returned x/\om l H w G I N v H1 x w' G' I' N'
structure sJ (P:Program)(A:Prog):Prop where
 idle:∀f,A.idle f=W->Idle P f
 dR:∀f p,A.dR f=J p->fS P A.prom f p
 fn:∀f af,A.dR f=K->A.fn f=J af->∃fn,P.funcs[f]? =J fn/\kF P fn af=W
def MJ {P:Program}{f:FuncId}{fn:Func}{af:r7}(hf:P.funcs[f]? =J fn)(h:kF P fn af=W):V3 P f=W:=by
 grind [kF,V3]
theorem sL {P:Program}{A:Prog}(h:sJ P A):∀n,oM P (call A n) A.prom/\∀f args H lm r,call A n f args H lm=J r->V3 P f=W
 |0=>⟨λf args H l v H1 hc=>by simp [call] at hc,λf args H lm r hc=>by simp [call] at hc⟩
 |n+1=>by
  obtain ⟨ih1,ih2⟩:=sL h n;refine ⟨λf args H l v H1 hc w G I N K8 hpre hb=>?_,λf args H lm r hc=>?_⟩
  .simp [call] at hc
   split at hc
   next p hp=>
    exact (h.dR f p hp).2 args H l v H1 hc w G I N K8 hpre hb
   next hp=>
    split at hc
    next af haf=>
     obtain ⟨fn,h1,h2⟩:=h.fn f af hp haf;exact MG h.idle ih1 ih2 h1 h2 hc hpre (λiD=>hb (by simp_all [Prog.prom]))
    .cases hc
  .simp [call] at hc
   split at hc
   next p hp=>
    exact (h.dR f p hp).1
   next hp=>
    split at hc
    next af haf=>
     obtain ⟨fn,h1,h2⟩:=h.fn f af hp haf;exact MJ h1 h2
    .cases hc
end Go.A5
namespace Go.A5
variable [E3]
def jF (o:Oper):Bool:=match o.op with
 | .call ⟨.builtin .recover,args,_⟩=>args.isEmpty&&o.guard.isNone
 |_=>F
def Hr (P:Program)(d:Option Tmp)(o:Oper):Bool:=match o.op with
 | .binOp .neq t (.tmp x) (.const .nilIface) _=>d==J x&&o.guard.isNone&&(match P.underlying t with
  |some (.interface _)=>W
  |_=>F)
 |_=>F
def fU (P:Program)(fn:Func):Bool :=
 fn.name != "runtime.NumGoroutine" && fn.results.isEmpty && (match fn.body with
 |some (.region _ ops F)=>(match ops.toList with
  |[o]=>jF o
  |_=>F)
 |some (.seq (.region _ ops F) (.cond (.tmp c) _ .skip))=>(match ops.toList with
  |[o1,o2]=>jF o1&&Hr P o1.dst o2&&o2.dst==J c&&(match o1.dst with
   |some d=>decide (d<fn.ntmps)&&decide (c<fn.ntmps)
   |none=>F)
  |_=>F)
 |_=>F)
def yo {P:Program}{o:Oper}(h:jF o=W)(a:Act)(w:World):(execOp a.eval o).run P w= .ok .recover w:=by
 unfold jF at h;split at h
 next args argTypes hop=>
  obtain ⟨dst,dP,ty,pos,after,guard⟩:=o;simp only at hop;subst hop;simp [execOp,resolve,invoke,builtin]
 .cases h
def qd {o:Oper}(h:jF o=W)(y:Nat->Option Bool):Region.wanted o y=W:=by
 unfold jF at h;split at h
 .simp only [Bool.and_eq_true] at h
  have:o.guard=K:=by simpa using h.2
  simp [Region.wanted,this]
 .cases h
def Wo {P:Program}{o:Oper}{d:Option Tmp}(h:Hr P d o=W)(a:Act)(w:World)(ha:∀x,d=J x->a.tmps.getD x undef= .nilIface):(execOp a.eval o).run P w= .ok (.value (.bool F)) w:=by
 unfold Hr at h;split at h
 next t x yt hop=>
  simp only [Bool.and_eq_true,beq_iff_eq] at h;obtain ⟨⟨h1,h2⟩,h3⟩:=h;obtain ⟨dst,dP,ty,pos,after,guard⟩:=o;simp only at hop;subst hop;have hx:a.eval (.tmp x)= .nilIface:=by simp only [Act.eval];exact ha x h1
  split at h3
  next ms hu=>
   have h1:(execOp a.eval (⟨dst,.binOp .neq t (.tmp x) (.const .nilIface) yt,ty,pos,after,guard⟩:Oper)).run P w= .ok (.value (.bool F)) w:=by
    simp only [execOp,hx];have hc:a.eval (.const .nilIface)= .nilIface:=rfl;rw [hc];simp only [eqGuard,binOp];simp [Dy hu]
   exact h1
  .cases h3
 .cases h
def bO {P:Program}{f:FuncId}{fn:Func}(hf:P.funcs[f]? =J fn)(h:fU P fn=W):Idle P f:=by
 unfold fU at h;simp only [Bool.and_eq_true] at h;obtain ⟨⟨hname,hres⟩,h⟩:=h;have aE5 :fn.results= #[]:=by simpa using hres
 have hrun:∀tmps w,(results fn tmps).run P w= .ok (.tuple #[]) w:=by
  intro tmps w;simp [results,aE5]
 have ad1:∀(c₀:Frame) (cs:List Frame),c₀.mode= .returning->recoverD (c₀::cs)=K:=by
  intro c₀ cs hm;simp [recoverD,hm]
 split at h
 next id ops hb=>
  refine ⟨by simp only [V3,hf,hb];simpa using hname,λargs w=>?_⟩;refine callsD_of_wpS hf hb ?_;intro c₀ cs hm;split at h
  next o ho=>
   have UF:ops= #[o]:=by apply Array.toList_inj.1;simpa using ho
   subst UF;refine wpS_region ?_;have zI:(#[o]:Array Oper)[0]? =J o:=rfl;show wpOpsS P #[o] _ [0] _ _ _
   simp only [wpOpsS,zI,qd h,if_true,yo h,ad1 c₀ cs hm];refine ⟨by rw [nF],.returning,?_,.tuple #[],hrun _ _,⟨_,rfl⟩,rfl,iu.refl _⟩;cases c₀;simp only at hm;subst hm;rfl
  .cases h
 next id ops c thn hb=>
  refine ⟨by simp only [V3,hf,hb];simpa using hname,λargs w=>?_⟩;refine callsD_of_wpS hf hb ?_;intro c₀ cs hm;split at h
  next o1 o2 ho=>
   have UF:ops= #[o1,o2]:=by apply Array.toList_inj.1;simpa using ho
   subst UF;simp only [Bool.and_eq_true,beq_iff_eq] at h;obtain ⟨⟨⟨h1,h2⟩,h3⟩,h4⟩:=h;cases hd:o1.dst with
   |none=>rw [hd] at h4;cases h4
   |some d =>
    rw [hd] at h4;simp only [Bool.and_eq_true,decide_eq_true_eq] at h4;refine wpS_seq (wpS_region ?_);have XR:(#[o1,o2]:Array Oper)[0]? =J o1:=rfl;have hg1:(#[o1,o2]:Array Oper)[1]? =J o2:=rfl;show wpOpsS P #[o1,o2] _ [0,1] _ _ _
    simp only [wpOpsS,XR,hg1,qd h1,if_true,yo h1,ad1 c₀ cs hm];have Sj:∀y,Region.wanted o2 y=W:=by
     intro y;unfold Hr at h2;split at h2
     .simp only [Bool.and_eq_true] at h2
      have:o2.guard=K:=by simpa using h2.1.2
      simp [Region.wanted,this]
     .cases h2
    have hlt:d<(args++Array.replicate (fn.ntmps - args.size) undef).size:=Nat.lt_of_lt_of_le h4.1 D;have hlt2:c<(args++Array.replicate (fn.ntmps - args.size) undef).size:=Nat.lt_of_lt_of_le h4.2 D;have Sh:=λa hh=>Wo (P:=P) h2 a w hh
    simp only [Sj,if_true];rw [Sh _ (by
     intro x hx;rw [hd] at hx;cases hx;rw [hd];exact cn hlt)]
    simp only [Oper.upon,Exit.thenS];refine wpS_cond (t:=F) ?_ ?_
    .rw [h3]
     simp only [Act.eval];exact cn (by rw [size_put];exact hlt2)
    .refine wpS_of_wp (wp_skip ?_)
     refine ⟨by rw [nF,nF],.returning,?_,.tuple #[],hrun _ _,⟨_,rfl⟩,rfl,iu.refl _⟩;cases c₀;simp only at hm;subst hm;rfl
  .cases h
 .cases h
end Go.A5
namespace Go.A5
open Go
def ab4 (P:Program)(g:FuncId->Option r7)(f:Nat):Bool:=match g f with
 |none=>W
 |some af=>match P.funcs[f]? with
  |some fn=>kF P fn af
  |none=>F
def upTo (n:Nat)(g:FuncId->Option r7)(f:FuncId):Option r7:=match Nat.blt f n with
 |true=>g f
 |false=>K
def iO (P:Program)(g:FuncId->Option r7)(k:Nat):Bool:=(List.range' (32 * k) 32).all (ab4 P g)
def aa0 {P:Program}{g:FuncId->Option r7}{n:Nat}(h:∀k,k<n->iO P g k=W)(f:FuncId)(af:r7)(hf:upTo (32 * n) g f=J af):∃fn,P.funcs[f]? =J fn/\kF P fn af=W:=by
 unfold upTo at hf;split at hf
 next hb=>
  have hb:Nat.lt f (32 * n):=j6 hb;have hb: @LT.lt Nat _ f (32 * n):=hb;have h1:=List.all_eq_true.1 (h (f / 32) (Nat.div_lt_of_lt_mul hb)) f (List.mem_range'_1.2 ⟨Nat.mul_div_le f 32,Nat.lt_mul_div_succ f (by decide)⟩);unfold ab4 at h1;rw [hf] at h1;simp only at h1;split at h1
  next fn hfn=>
   exact ⟨fn,hfn,h1⟩
  .cases h1
 .cases hf
end Go.A5
namespace Go.A5
variable [E3]
mutual
def eqD:Data->Data->Bool
 | .bool a,.bool b=>a==b
 | .int k a,.int k' b=>k==k' &&a==b
 | .str a,.str b=>a==b
 | .slice n xs,.slice m ys=>n==m&&RX xs ys
 | .iT,.iT=>W
 | .T0,.T0=>W
 | .jV,.jV=>W
 | .nilIface,.nilIface=>W
 |_,_=>F
def RX:List Data->List Data->Bool
 |[],[]=>W
 |x::xs,y::ys=>eqD x y&&RX xs ys
 |_,_=>F
end
mutual
theorem Et:∀(a b:Data),eqD a b=W->a=b
 | .slice n xs,b,h=>by
  cases b<;>simp [eqD,Bool.and_eq_true,beq_iff_eq,j5] at h;rw [h.1,AY _ _ h.2]
 | .bool _,b,h| .int _ _,b,h| .str _,b,h| .iT,b,h| .T0,b,h| .jV,b,h| .nilIface,b,h=>by cases b<;>simp_all [eqD]
theorem AY:∀(a b:List Data),RX a b=W->a=b
 |[],[],_=>rfl
 |x::xs,y::ys,h=>by
  simp [RX,Bool.and_eq_true] at h;rw [Et x y h.1,AY xs ys h.2]
 |[],_::_,h=>by simp [RX] at h
 |_::_,[],h=>by simp [RX] at h
end
def eqC:c7->c7->Bool
 | .d x,.d y=>eqD x y
 |_,_=>F
def RW:List c7->List c7->Bool
 |[],[]=>W
 |x::xs,y::ys=>eqC x y&&RW xs ys
 |_,_=>F
def eqA:c7->c7->Bool
 | .agg l,.agg m=>RW l m
 |a,b=>eqC a b
def RV:List c7->List c7->Bool
 |[],[]=>W
 |x::xs,y::ys=>eqA x y&&RV xs ys
 |_,_=>F
theorem Es {a b:c7}(h:eqC a b=W):a=b:=by
 unfold eqC at h
 grind [Et]
theorem AX:∀(a b:List c7),RW a b=W->a=b
 |[],[],_=>rfl
 |x::xs,y::ys,h=>by
  simp [RW,Bool.and_eq_true] at h;rw [Es h.1,AX xs ys h.2]
 |[],_::_,h=>by simp [RW] at h
 |_::_,[],h=>by simp [RW] at h
def RU {a b:c7}(h:eqA a b=W):a=b:=by
 unfold eqA at h
 grind [AX,Es]
theorem AW:∀(a b:List c7),RV a b=W->a=b
 |[],[],_=>rfl
 |x::xs,y::ys,h=>by
  simp [RV,Bool.and_eq_true] at h;rw [RU h.1,AW xs ys h.2]
 |[],_::_,h=>by simp [RV] at h
 |_::_,[],h=>by simp [RV] at h
structure DY where
 f:FuncId
 args:List c7
 res:c7
def R5:J2:=⟨0,0,0,0⟩
def J2.isZero (l:J2):Bool:=l.Mo==0&&l.Mn==0&&l.base==0&&l.strict==0
theorem Hs {l:J2}(h:l.isZero=W):l=R5:=by
 obtain ⟨a,b,c,d⟩:=l;simp [J2.isZero] at h;obtain ⟨⟨⟨rfl,rfl⟩,rfl⟩,rfl⟩:=h;rfl
def look (f:FuncId)(args:List c7):List DY->Option c7
 |[]=>K
 |e::es=>if e.f==f&&RV e.args args then J e.res else look f args es
theorem Br {f:FuncId}{args:List c7}{v:c7}:∀(es:List DY),look f args es=J v->∃e,e∈es/\e.f=f/\e.args=args/\e.res=v
 |[],h=>by simp [look] at h
 |e::es,h=>by
  unfold look at h;split at h
  .grind [AW]
  .obtain ⟨e',h1,h2⟩:=Br es h
   grind
def memo (A:Prog)(es:List DY):Prog :=
 ⟨A.fn,A.idle,A.mode,λf=>if es.any (λe=>e.f==f) then J (λargs H l=>if H.isEmpty&&l.isZero then (match look f args es with
  |some v=>J (v,[])
  |none=>K) else K) else A.dR f⟩
end Go.A5
namespace Go.A5
variable [E3]
structure Kept (w w' :World):Prop where
 os:w'.os=w.os
 output:w'.output=w.output
 size:w.heap.size<=w'.heap.size
 old:∀b:Nat,b<w.heap.size->w'.heap[b]? =w.heap[b]?
def Kept.but {w w' :World}(h:Kept w w')(may:MemPlace->Prop):w.keptBut w' may:=by
 refine ⟨h.os,h.output,λi hi=>?_⟩;rw [h.old i hi];split
 next pQ kB=>
  rw [pQ] at kB;cases kB;exact ⟨rfl,rfl,rfl,λ_ _=>rfl⟩
 next pQ kB=>
  rw [pQ] at kB;cases kB;exact Or.inr ⟨rfl,rfl⟩
 .rfl
theorem Kept.frozen {w w' :World}(h:Kept w w'){a:Addr}(ha:a.block<w.heap.size):w'.frozen? a=w.frozen? a:=by
 simp [World.frozen?,h.old a.block ha]
def G0 (w:World):Gh:=λb=>if b<w.heap.size then .lK else .free
def Sr {P:Program}{A:Prog}(h:sJ P A){n:Nat}{f:FuncId}{args:List c7}{K8:Array Value}{w:World}(hc:call A n f args [] R5=J (.d (.bool W),[]))
  (hargs:K1 (G0 w) (λ_=>(0,0)) (λ_=>False) w args K8.toList):Calls P f K8 w λe w' =>e= .returned (.bool W)/\Kept w w' :=by
 have hpre:Di R5 [] w (G0 w) (λ_=>(0,0)) (λ_=>False) args K8:=by
  refine ⟨hargs,?_,?_,?_,?_,k9 _,k9 _,?_,λ_ b n pl hb=>by simp [G0] at hb;split at hb<;>cases hb⟩
  .intro id o ho;simp at ho
  .intro b hb;simp only [G0];rw [if_neg V]
  .intro id hid;exact hid.elim
  .intro id o ho;simp at ho
  .intro b id hb
   simp [G0] at hb;split at hb<;>cases hb
 refine Calls.mono ((sL h n).1 f args [] R5 _ _ hc w _ _ _ K8 hpre (λ_=>rfl)) ?_;rintro e w' ⟨x,G',I',N',rfl,hp⟩;have hx:=hp.val;subst hx;refine ⟨rfl,hp.ext.os,hp.ext.output,hp.ext.size,λb hb=>?_⟩;refine (hp.ext.still b (Or.inl ?_)).2;simp only [G0];rw [if_pos hb]
def GN {A:Prog}{n:Nat}{f:FuncId}{af:r7}{args:List c7}{H:j9}{l:J2}(hp:A.dR f=K)(hf:A.fn f=J af):call A (n+1) f args H l=iA A (call A n) n af args H l:=by
 simp [call,hp,hf]
def Z4 (af:r7)(n:Nat)(o:Option (J6×St)):Option (c7×j9):=match o with
 |some (.exit _,_)=>K
 |some (_,st)=>(match cB st.T st.H af.results with
  |some vs=>finish af.jx n vs st.H
  |none=>K)
 |none=>K
def tW {A:Prog}{cf:tR}{n:Nat}{af:r7}{args:List c7}{H:j9}{l:J2}(h:O args=af.nparams) :
  iA A cf n af args H l=Z4 af (O H) (exec ⟨cf,A.prom,A.mode,A.idle,l,O H⟩ n af.body ⟨args++List.replicate (O af.names - O args) .any,H⟩):=by
 unfold iA Z4;rw [if_pos h];rfl
section
variable {H:Type} {enc:TypeId×Value->H} {P:Program}
open Go.ChangeShapes Go.WideShapes
def SH {f:Func}{s:ChangeSpec}{apart fresh handsOn again:Bool}{d5 W' :World}{args:Array Value}{v:Value}{ds gs:List (DataW H)}{before pa pv:List MemPlace}
  (hW:DataW.Whole enc P f.params.toList s.vars apart d5 args.toList ds gs before) (hK:Kept d5 W')
  (hres:∀(b:Nat) (sp:Nat->Bool) (hd:Bool),DataW.TrodAll enc P W' b sp hd f.resultTypes.toList (v.resultList f.resultTypes.size) (s.fn H (ds++gs)).results [])
  (hargs:∀sp:Nat->Bool,(∀p∈before,sp p.block=W)->DataW.TrodAll enc P W' 0 sp W f.params.toList args.toList (s.fn H (ds++gs)).args pa)
  (hvars:∀sp:Nat->Bool,(∀p∈before,sp p.block=W)->DataW.TrodVars enc P W' sp s.vars (s.fn H (ds++gs)).vars pv)
  (hps:before=pa++pv)
  (hok:∀(j:Nat) (t:TypeId) (r:Value),f.resultTypes[j]? =J t->(v.resultList f.resultTypes.size)[j]? =J r->Value.okWide P W' .any 0 t r) :
  s.post enc P f apart fresh handsOn again d5 args v W' :=by
 have hlt:=hW.lt;have hin:∀p,p∈pa++pv->p∈before:=λp hp=>by rw [hps];exact hp
 refine ⟨ds,gs,before,[],pa,pv,hW,hres _ _ _,hargs _ (λp hp=>by simpa using hlt p hp),hvars _ (λp hp=>by simpa using hlt p hp),World.keptBut_mono (λp hp=>⟨hp,?_⟩) (hK.but _),λ_=>?_⟩
 .rw [hps,N9] at hp
  exact Or.inr hp
 .obtain ⟨_,_,_,_,_,hz,hn⟩:=hW
  refine ⟨hok,_,_,([]++pa)++pv,⟨[]++pa,pv,trodAll_append (hargs _ (λ_ _=>rfl)) (hres _ _ _),hvars _ (λ_ _=>rfl),rfl,λb off hp=>?_,λha=>?_⟩,λp hp _=>?_⟩
  .have hb:=hin _ (by simpa using hp)
   rw [hK.frozen (hlt _ hb)];exact hz b off hb
  .have:=hn ha
   rw [hps] at this;simpa using this
  .exact hin p (by simpa using hp)
end
end Go.A5
namespace Go.A5
instance:E3:=⟨False⟩
inductive CT where
 |bool
 |int (k:IntKind)
 |str
 |slice (e:List CT)
mutual
def Fits:CT->Data->Prop
 | .bool,d=>∃b,d= .bool b
 | .int k,d=>∃n,d= .int k n/\(Lit.int k n).wf=W
 | .str,d=>∃s:List UInt8,d= .str s/\O s<=maxLen
 | .slice e,d=>∃rows:List (List Data),d= .slice (O rows) rows.flatten/\O rows<=maxLen/\∀r,r∈rows->aF e r
def aF:List CT->List Data->Prop
 |[],ds=>ds=[]
 |c::cs,ds=>∃d r,ds=d::r/\Fits c d/\aF cs r
end
theorem aF.length:∀(l:List CT) (ds:List Data),aF l ds->O ds=O l
 |[],ds,h=>by simp_all [aF]
 |c::cs,ds,h=>by
  obtain ⟨d,r,rfl,_,h3⟩:=h;simp [aF.length cs r h3]
theorem nq:∀{l m:List CT} {ds es:List Data},aF l ds->aF m es->aF (l++m) (ds++es)
 |[],m,ds,es,h,k=>by simp_all [aF]
 |c::cs,m,ds,es,h,k=>by
  obtain ⟨d,r,rfl,h2,h3⟩:=h;exact ⟨d,r++es,rfl,h2,nq h3 k⟩
def TF (a:Addr)(m n:Nat):a.add (m+n)=(a.add m).add n:=by
 grind [Addr.add,Nat.add_assoc]
def My (P:Program)(lay:TypeId->List CT->Bool):List Field->Nat->List CT->Bool
 |[],_,l=>l.isEmpty
 |f::fs,o,l=>f.offset==o&&decide (P.cellsOf f.type<=O l)&&lay f.type (l.take (P.cellsOf f.type))&&My P lay fs (o+P.cellsOf f.type) (l.drop (P.cellsOf f.type))
def Rt (lay:List CT->Bool)(c:Nat):Nat->List CT->Bool
 |0,l=>l.isEmpty
 |m+1,l=>decide (c<=O l)&&lay (l.take c)&&Rt lay c m (l.drop c)
def Lay (P:Program):Nat->TypeId->List CT->Bool
 |0,_,_=>F
 |n+1,t,l=>match P.underlying t with
  |some .bool=>(match l with
   |[.bool]=>W
   |_=>F)
  |some (.int k)=>(match l with
   |[.int k']=>k==k'
   |_=>F)
  |some .string=>(match l with
   |[.str]=>W
   |_=>F)
  |some (.slice e)=>(match l with
   |[.slice le]=>Lay P n e le&&P.cellsOf e==O le&&decide (0<O le)
   |_=>F)
  |some (.struct fs)=>P.cellsOf t==O l&&My P (Lay P n) fs.toList 0 l
  |some (.array m e)=>P.cellsOf t==O l&&Rt (Lay P n e) (P.cellsOf e) m l
  |_=>F
abbrev I0:S8:=λ_=>(0,0)
abbrev N0:Nat->Prop:=λ_=>False
theorem Kept.cell {w w' :World}(h:Kept w w'){a:Addr}{v:Value}(hv:w.cell? a=J v):w'.cell? a=J v:=by
 have:a.block<w.heap.size:=by
  grind [A7,World.cell?,Array.getElem?_eq_none]
 have e:w'.cell? a=w.cell? a:=by
  unfold World.cell?;rw [h.old _ this]
 simp_all
theorem jG {α β:Type}{f g:α->Option β}:∀{l:List α} {ys:List β},(∀x y,x∈l->y∈ys->f x=J y->g x=J y)->l.mapM f=J ys->l.mapM g=J ys
 |[],ys,_,h=>by simpa using h
 |x::xs,ys,hfg,h=>by
  rw [List.mapM_cons] at h ⊢;cases hf:f x with
  |none=>simp_all
  |some y =>
   rw [hf] at h;cases hr:xs.mapM f with
   |none=>simp_all
   |some r =>
    simp [hr] at h;subst h;rw [hfg x y U U hf,jG (λa b ha hb=>hfg a b (by simp [ha]) (by simp [hb])) hr];rfl
theorem jv {α β:Type}{f:α->Option β}:∀{l:List α} {ys:List β},l.mapM f=J ys->O ys=O l/\∀(i:Nat) x,l[i]? =J x->∃y,ys[i]? =J y/\f x=J y
 |[],ys,h=>M
 |x::xs,ys,h=>by
  rw [List.mapM_cons] at h;cases hf:f x with
  |none=>simp_all
  |some y =>
   rw [hf] at h;cases hr:xs.mapM f with
   |none=>simp_all
   |some r =>
    simp  at h;obtain ⟨h1,h2⟩:=jv hr
    grind
theorem Kept.cells {w w' :World}(h:Kept w w'){base:Nat}{a:Addr}{n:Nat}{cs:List Value}(hc:w.cells? base a n=J cs):w'.cells? base a n=J cs:=by
 unfold World.cells? at hc ⊢;split at hc
 next hb=>
  rw [if_pos hb];exact jG (λx y _ _ hx=>h.cell hx) hc
 .cases hc
section
variable {H:Type} {enc:TypeId×Value->H} {P:Program} {w:World} {base:Nat} {spare:Nat->Bool} {held:Bool}
theorem trod_bool {t:TypeId}{fuel:Nat}{cs:List Value}{x:DataW H×List MemPlace}(hu:P.underlying t=J .bool)(h:DataW.trod enc P w base spare held (fuel+1) t cs=J x):∃b,cs=[.bool b]/\x=(.lit (.bool b),[]):=by
 unfold DataW.trod at h
 grind
theorem trod_int {t:TypeId}{k:IntKind}{fuel:Nat}{cs:List Value}{x:DataW H×List MemPlace}(hu:P.underlying t=J (.int k))(h:DataW.trod enc P w base spare held (fuel+1) t cs=J x):∃n,cs=[.int k n]/\(Lit.int k n).wf=W/\x=(.lit (.int k n),[]):=by
 unfold DataW.trod at h
 grind
theorem Cn {t:TypeId}{fuel:Nat}{cs:List Value}{x:DataW H×List MemPlace}(hu:P.underlying t=J .string)(h:DataW.trod enc P w base spare held (fuel+1) t cs=J x):∃s:ByteArray,cs=[.string s]/\s.size<=maxLen/\x=(.lit (.string s.data.toList),[]):=by
 unfold DataW.trod at h
 grind
def trod_slice {t e:TypeId}{fuel:Nat}{cs:List Value}{x:DataW H×List MemPlace}(hu:P.underlying t=J (.slice e))(h:DataW.trod enc P w base spare held (fuel+1) t cs=J x) :
  (cs=[.slice K 0 0]/\x=(.nil,[]))\/∃a len cap,cs=[.slice (J a) len cap]/\base<=a.block/\len<=cap/\cap<=maxLen /\
   (∃elems,((List.range len).mapM λi=>(w.cells? base (a.add (i * P.cellsOf e)) (P.cellsOf e)).bind (DataW.trod enc P w base spare held fuel e))=J elems) /\
   (spare a.block=W->∃rest,((List.range (cap - len)).mapM λj=>(w.cells? base (a.add ((len+j) * P.cellsOf e)) (P.cellsOf e)).bind (DataW.trod enc P w base spare held fuel e))=J rest):=by
 unfold DataW.trod at h;rw [hu] at h
 match cs,h with
 |[],h=>cases h
 |[v],h =>
  cases v<;>try (cases h)
  rename_i o len cap;cases o with
  |none =>
   cases len with
   |zero =>
    cases cap with
    |zero=>simp_all
    |succ c=>cases h
   |succ n=>cases h
  |some a =>
   simp only at h;split at h
   next hc=>
    refine Or.inr ⟨a,len,cap,rfl,hc.1,hc.2.1,hc.2.2,?_⟩;cases hm:(List.range len).mapM λi=>(w.cells? base (a.add (i * P.cellsOf e)) (P.cellsOf e)).bind (DataW.trod enc P w base spare held fuel e) with
    |none=>simp_all
    |some elems =>
     refine ⟨⟨elems,rfl⟩,λhs=>?_⟩;cases hr:(List.range (cap - len)).mapM λj=>(w.cells? base (a.add ((len+j) * P.cellsOf e)) (P.cellsOf e)).bind (DataW.trod enc P w base spare held fuel e) with
     |none=>simp_all
     |some rest=>simp_all
   .cases h
 |v::_::_,h=>simp_all
def trod_array {t e:TypeId}{m:Nat}{fuel:Nat}{cs:List Value}{x:DataW H×List MemPlace}(hu:P.underlying t=J (.array m e))(h:DataW.trod enc P w base spare held (fuel+1) t cs=J x) :
  O cs=P.cellsOf t/\∃xs,((List.range m).mapM λi=>DataW.trod enc P w base spare held fuel e ((cs.drop (i * P.cellsOf e)).take (P.cellsOf e)))=J xs/\x=(.agg (xs.map (·.1)),xs.flatMap (·.2)):=by
 simp_all [DataW.trod]<;>grind
def trod_struct {t:TypeId}{fs:Array Field}{fuel:Nat}{cs:List Value}{x:DataW H×List MemPlace}(hu:P.underlying t=J (.struct fs))(h:DataW.trod enc P w base spare held (fuel+1) t cs=J x) :
  O cs=P.cellsOf t/\∃xs,(fs.toList.mapM λf=>DataW.trod enc P w base spare held fuel f.type ((cs.drop f.offset).take (P.cellsOf f.type)))=J xs/\x=(.agg (xs.map (·.1)),xs.flatMap (·.2)):=by
 simp_all [DataW.trod]<;>grind
abbrev Cells (w:World)(ds:List Data)(cs:List Value):Prop:=K1 (G0 w) I0 N0 w (ds.map .d) cs
theorem Cells.append {ds es:List Data}{cs fs:List Value}(h:Cells w ds cs)(k:Cells w es fs):Cells w (ds++es) (cs++fs):=by
 simp_all [Cells,List.map_append,sK]
theorem aj1 {b o:Nat}{v:Value}(h:w.cell? (ad b o)=J v):jm (G0 w) b o:=by
 grind [A7,World.cell?,Array.getElem?_eq_none,jm,G0]
def VP (hspare:∀b,spare b=W):∀(n:Nat) (t:TypeId) (l:List CT),Lay P n t l=W->∀(fuel:Nat) (cs:List Value) (x:DataW H×List MemPlace),DataW.trod enc P w base spare held fuel t cs=J x->∃ds,aF l ds/\Cells w ds cs:=by
 intro n
 induction n with
 |zero=>simp_all [Lay]
 |succ n ih =>
  intro t l hL fuel cs x h;cases fuel with
  |zero=>simp [DataW.trod] at h
  |succ fuel =>
   unfold Lay at hL;split at hL
   next hu=>
    split at hL
    .obtain ⟨b,rfl,_⟩:=trod_bool hu h
     exact ⟨[.bool b],by simp [aF,Fits],by simp [Cells,K1,VR,DR]⟩
    .cases hL
   next k hu=>
    split at hL
    next k'=>
     have:k=k' :=M
     subst this;obtain ⟨m,rfl,hw,_⟩:=trod_int hu h;exact ⟨[.int k m],by simp_all [aF,Fits],by simp [Cells,K1,VR,DR]⟩
    .cases hL
   next hu=>
    split at hL
    .obtain ⟨s,rfl,hs,_⟩:=Cn hu h
     refine ⟨[.str s.data.toList],?_,by simp [Cells,K1,VR,DR]⟩;simp_all [aF,Fits]
    .cases hL
   next e hu=>
    split at hL
    next le=>
     simp only [Bool.and_eq_true,beq_iff_eq,decide_eq_true_eq] at hL;obtain ⟨⟨hLe,hce⟩,hpos⟩:=hL
     rcases trod_slice hu h with ⟨rfl,_⟩|⟨a,len,cap,rfl,hb,hlc,hcm,⟨elems,hel⟩,uz⟩
     .refine ⟨[.slice 0 []],?_,by simp [Cells,K1,VR,DR]⟩
      simp only [aF,Fits];exact ⟨_,_,rfl,⟨[],rfl,U,U⟩,rfl⟩
     ·
      obtain ⟨YI,ov⟩:=jv hel;have rows:∀m,m<=len->∃rows:List (List Data),O rows=m/\(∀r,r∈rows->aF le r)/\(∀(j:Nat) d,rows.flatten[j]? =J d->∃v,w.cell? (a.add j)=J v/\DR (G0 w) w d v):=by
       intro m
       induction m with
       |zero=>simp_all
       |succ m ihm =>
        intro hm;obtain ⟨rows,r1,r2,r3⟩:=ihm V;obtain ⟨y,_,hy⟩:=ov m m (List.getElem?_range V);cases hcell:w.cells? base (a.add (m * P.cellsOf e)) (P.cellsOf e) with
        |none=>simp_all
        |some ces =>
         rw [hcell] at hy;simp only [Option.bind_some] at hy;obtain ⟨ds,f1,f2⟩:=ih e le hLe fuel ces y hy;have hds:O ds=O le:=aF.length _ _ f1;have OL:O rows.flatten=m * O le:=by
          rw [List.length_flatten];have:∀q,q∈rows.map List.length->q=O le:=by
           grind [aF.length]
          have bk9:rows.map List.length=List.replicate m (O le):=by
           rw [List.eq_replicate_iff]
           grind
          rw [bk9];simp
         refine ⟨rows++[ds],by simp [r1],?_,?_⟩
         .grind
         .intro j d hj
          rw [List.flatten_append] at hj;simp only [List.flatten_cons,List.flatten_nil,List.append_nil] at hj
          by_cases hjl:j<O rows.flatten
          .grind
          .rw [x7 V] at hj
           have Dg:=A3 hj;unfold World.cells? at hcell;split at hcell
           .obtain ⟨c1,c2⟩:=jv hcell
            obtain ⟨v,v1,v2⟩:=c2 (j - O rows.flatten) (j - O rows.flatten) (List.getElem?_range V);have bh6:(a.add (m * P.cellsOf e)).add (j - O rows.flatten)=a.add j:=by
             rw [<- TF];simp_all
            rw [bh6] at v2;obtain ⟨v',w1,w2⟩:=K1.get _ _ f2 (j - O rows.flatten) (.d d) M;simp_all [VR]
           .cases hcell
      obtain ⟨rows,r1,r2,r3⟩:=rows len (k9 _);refine ⟨[.slice (O rows) rows.flatten],?_,?_⟩
      .grind [aF,Fits]
      .simp only [Cells,G4,List.map_nil,K1,VR]
       refine ⟨_,_,rfl,?_,rfl⟩;simp only [DR]
       by_cases hcap:cap=0
       .simp_all
       ·
        have am9:∃ces,w.cells? base (a.add 0) (P.cellsOf e)=J ces:=by
         by_cases hl0:len=0
         .obtain ⟨rest,hr⟩:=uz (hspare _)
          obtain ⟨_,c2⟩:=jv hr;obtain ⟨y,_,hy⟩:=c2 0 0 (by grind);rw [hl0] at hy;simp only [Nat.zero_add,Nat.zero_mul] at hy;cases Jj:w.cells? base (a.add 0) (P.cellsOf e) with
          |none=>simp_all
          |some ces=>simp_all
         .obtain ⟨y,_,hy⟩:=ov 0 0 (by grind)
          simp only [Nat.zero_mul] at hy;cases Jj:w.cells? base (a.add 0) (P.cellsOf e) with
          |none=>simp_all
          |some ces=>simp_all
        obtain ⟨ces,YD⟩:=am9;have hcell:∃v,w.cell? a=J v:=by
         unfold World.cells? at YD;split at YD
         .obtain ⟨_,c2⟩:=jv YD
          obtain ⟨v,_,hv⟩:=c2 0 0 M;simp_all [Addr.add]
         .cases YD
        obtain ⟨v,hv⟩:=hcell;have ha:a=ad a.block a.off:=by
         obtain ⟨b,o,sp⟩:=a;cases sp with
         |none=>rfl
         |some q =>
          grind [World.cell?]
        grind [Aq,bp,aj1]
    .cases hL
   next fs hu=>
    simp only [Bool.and_eq_true,beq_iff_eq] at hL;obtain ⟨hlen,xs,hxs,_⟩:=trod_struct hu h;have fields:∀(fl:List Field) (o:Nat) (l:List CT) (ys:List (DataW H×List MemPlace)),My P (Lay P n) fl o l=W->(fl.mapM λf=>DataW.trod enc P w base spare held fuel f.type ((cs.drop f.offset).take (P.cellsOf f.type)))=J ys->O (cs.drop o)=O l ->
      ∃ds,aF l ds/\Cells w ds (cs.drop o):=by
     intro fl
     induction fl with
     |nil =>
      simp_all [My,aF,Cells,K1]<;>omega
     |cons f fl ihf =>
      intro o l ys hl hm hlen;simp only [My,Bool.and_eq_true,beq_iff_eq,decide_eq_true_eq] at hl;obtain ⟨⟨⟨ho,hle⟩,Sc⟩,uz⟩:=hl;rw [List.mapM_cons] at hm;cases hf:DataW.trod enc P w base spare held fuel f.type ((cs.drop f.offset).take (P.cellsOf f.type)) with
      |none=>simp_all
      |some y =>
       rw [hf] at hm;cases hr:fl.mapM λf=>DataW.trod enc P w base spare held fuel f.type ((cs.drop f.offset).take (P.cellsOf f.type)) with
       |none=>simp_all
       |some r =>
        rw [ho] at hf;obtain ⟨d1,a1,a2⟩:=ih f.type _ Sc fuel _ y hf;obtain ⟨d2,b1,b2⟩:=ihf (o+P.cellsOf f.type) (l.drop (P.cellsOf f.type)) r uz hr (by grind);refine ⟨d1++d2,?_,?_⟩
        .grind [List.take_append_drop,nq]
        .have:cs.drop o=(cs.drop o).take (P.cellsOf f.type)++cs.drop (o+P.cellsOf f.type):=by
          rw [<- List.drop_drop,List.take_append_drop]
         rw [this];exact a2.append b2
    grind
   next m e hu=>
    simp only [Bool.and_eq_true,beq_iff_eq] at hL;obtain ⟨hlen,xs,hxs,_⟩:=trod_array hu h;obtain ⟨_,hat⟩:=jv hxs;have elems:∀(q k:Nat) (l:List CT),k+q=m->Rt (Lay P n e) (P.cellsOf e) q l=W->O (cs.drop (k * P.cellsOf e))=O l->∃ds,aF l ds/\Cells w ds (cs.drop (k * P.cellsOf e)):=by
     intro q
     induction q with
     |zero =>
      simp_all [Rt,aF,Cells,K1]<;>omega
     |succ q ihq =>
      intro k l hkq hl hlen;simp only [Rt,Bool.and_eq_true,decide_eq_true_eq] at hl;obtain ⟨⟨hle,Sc⟩,uz⟩:=hl;obtain ⟨y,_,hy⟩:=hat k k (by grind);obtain ⟨d1,a1,a2⟩:=ih e _ Sc fuel _ y hy;obtain ⟨d2,b1,b2⟩:=ihq (k+1) (l.drop (P.cellsOf e)) V uz (by grind);refine ⟨d1++d2,?_,?_⟩
      .grind [List.take_append_drop,nq]
      .have:cs.drop (k * P.cellsOf e)=(cs.drop (k * P.cellsOf e)).take (P.cellsOf e)++cs.drop ((k+1) * P.cellsOf e):=by
        rw [Nat.succ_mul,<- List.drop_drop,List.take_append_drop]
       rw [this];exact a2.append b2
    have:=elems m 0 l V hL.2 M;simp_all
   .cases hL
def Ti {w' :World}(hK:Kept w w'){sp:Nat->Bool}:∀(n:Nat) (t:TypeId) (l:List CT),Lay P n t l=W->∀(fuel:Nat) (cs:List Value) (x:DataW H×List MemPlace),(∀p,p∈x.2->sp p.block=W) ->
  DataW.trod enc P w base (λ_=>W) held fuel t cs=J x->DataW.trod enc P w' base sp held fuel t cs=J x:=by
 intro n
 induction n with
 |zero=>simp_all [Lay]
 |succ n ih =>
  intro t l hL fuel cs x hsp h;cases fuel with
  |zero=>simp [DataW.trod] at h
  |succ fuel =>
   unfold Lay at hL;split at hL
   next hu=>
    obtain ⟨b,rfl,rfl⟩:=trod_bool hu h;simp [DataW.trod,hu]
   next k hu=>
    obtain ⟨m,rfl,hw,rfl⟩:=trod_int hu h;simp [DataW.trod,hu,hw]
   next hu=>
    obtain ⟨s,rfl,hs,rfl⟩:=Cn hu h;simp [DataW.trod,hu,hs]
   next e hu=>
    split at hL
    next le=>
     simp only [Bool.and_eq_true,beq_iff_eq,decide_eq_true_eq] at hL;obtain ⟨⟨hLe,hce⟩,hpos⟩:=hL;have hel:∀(a:Addr) (y:DataW H×List MemPlace),(∀p,p∈y.2->sp p.block=W)->(w.cells? base a (P.cellsOf e)).bind (DataW.trod enc P w base (λ_=>W) held fuel e)=J y->(w'.cells? base a (P.cellsOf e)).bind (DataW.trod enc P w' base sp held fuel e)=J y:=by
      intro a y hy1 hy;cases hc:w.cells? base a (P.cellsOf e) with
      |none=>simp_all
      |some ces =>
       rw [hK.cells hc]
       grind
     rcases trod_slice hu h with ⟨rfl,rfl⟩|⟨a,len,cap,rfl,hb,hlc,hcm,⟨elems,aD2⟩,uz⟩
     .simp [DataW.trod,hu]
     .obtain ⟨rest,hr⟩:=uz rfl
      have hx:x=(.slice (elems.map (·.1)) (rest.map (·.1)),MemPlace.row a ((O elems+O rest) * P.cellsOf e)++(elems++rest).flatMap (·.2)):=by
       simp_all [DataW.trod,if_pos,Option.bind_some,if_true,C6,Option.some.injEq]
      subst hx;have hin:∀y,y∈elems++rest->∀p,p∈y.2->sp p.block=W:=by
       grind
      have hblk:cap - len=0\/sp a.block=W:=by
       by_cases hc0:cap=0
       .omega
       .right
        have h1:=(jv aD2).1;have h2:=(jv hr).1;simp only [List.length_range] at h1 h2;have:0<(O elems+O rest) * P.cellsOf e:=by
         rw [h1,h2,hce];exact Nat.mul_pos V hpos
        refine hsp (.cell a.block (a.off+0)) (List.mem_append_left _ ?_);exact List.mem_map.2 ⟨0,List.mem_range.2 this,rfl⟩
      unfold DataW.trod;rw [hu];simp only;rw [if_pos ⟨hb,hlc,hcm⟩,jG (λi y _ hy' hy=>hel _ y (hin y (by simp [hy'])) hy) aD2];have hr' :=jG (g:=λj=>(w'.cells? base (a.add ((len+j) * P.cellsOf e)) (P.cellsOf e)).bind (DataW.trod enc P w' base sp held fuel e)) (λi y _ hy' hy=>hel _ y (hin y (by simp [hy'])) hy) hr
      grind
    .cases hL
   next fs hu=>
    obtain ⟨hlen,xs,hxs,rfl⟩:=trod_struct hu h;have fields:∀(fl:List Field) (o:Nat) (l:List CT),My P (Lay P n) fl o l=W->∀f,f∈fl->∃l',Lay P n f.type l' =W:=by
     intro fl
     induction fl with
     |nil=>simp_all
     |cons g fl ihf =>
      grind [My]
    have:=jG (g:=λf=>DataW.trod enc P w' base sp held fuel f.type ((cs.drop f.offset).take (P.cellsOf f.type))) (λf y hf hy' hy=>by
     grind) hxs
    simp_all [DataW.trod,if_pos]
   next m e hu=>
    obtain ⟨hlen,xs,hxs,rfl⟩:=trod_array hu h;have Sc:m=0\/∃l',Lay P n e l' =W:=by
     cases m with
     |zero=>omega
     |succ m =>
      grind [Rt]
    have:=jG (g:=λi=>DataW.trod enc P w' base sp held fuel e ((cs.drop (i * P.cellsOf e)).take (P.cellsOf e))) (λi y hi hy' hy=>by
     grind) hxs
    simp_all [DataW.trod,if_pos]
   .cases hL
end
def isStr (P:Program)(t:TypeId):Bool:=match P.underlying t with
 |some (.struct _)=>W
 |_=>F
def asArg (agg:Bool)(ds:List Data):c7:=if agg then .agg (ds.map .d) else .d (ds.headD .iT)
def qK (P:Program):List TypeId->List (List CT)->List c7->Prop
 |[],_,as=>as=[]
 |t::ts,ls,as=>∃ds r,as=asArg (isStr P t) ds::r/\aF (ls.headD []) ds/\qK P ts ls.tail r
def UN (P:Program)(t:TypeId):Bool:=match P.underlying t with
 |some (.array _ _)=>W
 |_=>F
def GA (P:Program):List TypeId->List (List CT)->Bool
 |[],_=>W
 |t::ts,ls=>(Lay P 20 t (ls.headD [])&& !UN P t)&&GA P ts ls.tail
section
variable {H:Type} {enc:TypeId×Value->H} {P:Program} {w:World} {held:Bool}
theorem Ag {t:TypeId}{r:Reach}{b0:Nat}{v:Value}(hval:Value.okWide P w r b0 t v){td:TypeDesc}(hu:P.underlying t=J td)(htd:td= .bool\/(∃k,td= .int k)\/td= .string\/∃e,td= .slice e):∀cs,v≠ .agg cs:=by
 simp_all [Value.okWide,Cell.okWide,Cell.ok]<;>grind
theorem cells_one {v u:Value}(hv:∀cs,v≠ .agg cs)(h:v.cells.toList=[u]):u=v:=by
 simp_all [Value.cells,absurd]
def aj6 {t:TypeId}{l:List CT}(hL:Lay P 20 t l=W)(hna:UN P t=F){r:Reach}{b0:Nat}{v:Value}(hval:Value.okWide P w r b0 t v){d:DataW H}{ps:List MemPlace}(h:DataW.Trod enc P w 0 (λ_=>W) held t v d ps) :
  ∃ds,aF l ds/\VR (G0 w) I0 N0 w .none (asArg (isStr P t) ds) v:=by
 obtain ⟨fuel,h⟩:=h;obtain ⟨ds,h1,h2⟩:=VP (λ_=>rfl) 20 t l hL fuel _ _ h;unfold isStr asArg;split
 .grind [Value.okWide,VR,Value.cells]
 .cases fuel with
  |zero=>simp [DataW.trod] at h
  |succ fuel =>
   have one:∀u,v.cells.toList=[u]->u=v->VR (G0 w) I0 N0 w .none (.d (ds.headD .iT)) v:=by
    rintro u hu rfl;rw [hu] at h2;cases ds with
    |nil=>simp [Cells,K1] at h2
    |cons d0 r =>
     simp_all [Cells,K1]<;>grind
   unfold Lay at hL;split at hL
   .grind [trod_bool,cells_one,Ag]
   .grind [trod_int,cells_one,Ag]
   .grind [Cn,cells_one,Ag]
   next e hu=>
    rcases trod_slice hu h with ⟨hb,_⟩|⟨a,len,cap,hb,_⟩
    all_goals grind [cells_one,Ag]
   all_goals simp_all [absurd,UN]
theorem Oi {r:Reach}{b0:Nat}:∀(ts:List TypeId) (ls:List (List CT)) (vs:List Value) (ds:List (DataW H)) (ps:List MemPlace),GA P ts ls=W->(∀(j:Nat) t v,ts[j]? =J t->vs[j]? =J v->Value.okWide P w r b0 t v) ->
  DataW.TrodAll enc P w 0 (λ_=>W) held ts vs ds ps ->
  (∃as,qK P ts ls as/\K1 (G0 w) I0 N0 w as vs)/\∀w',Kept w w' ->∀sp:Nat->Bool,(∀p,p∈ps->sp p.block=W)->DataW.TrodAll enc P w' 0 sp held ts vs ds ps
 |[],ls,vs,ds,ps,_,_,h=>by
  obtain ⟨rfl,rfl,rfl⟩:=Go.ChangeShapes.trodAll_nil h;exact ⟨⟨[],by rfl,by simp [K1]⟩,λ_ _ _ _=>rfl⟩
 |t::ts,ls,vs,ds,ps,hL,hval,h=>by
  simp [GA,Bool.and_eq_true,Bool.not_eq_true'] at hL;obtain ⟨v,vs1,d,ds1,a,b,rfl,rfl,rfl,h1,h2⟩:=Go.ChangeShapes.trodAll_cons h;obtain ⟨⟨as,g1,g2⟩,g3⟩:=Oi ts ls.tail vs1 ds1 b hL.2 (λj t' v' ht hv=>hval (j+1) t' v' M M) h2;obtain ⟨dd,e1,e2⟩:=aj6 hL.1.1 hL.1.2 (hval 0 t v rfl rfl) h1;refine ⟨⟨asArg (isStr P t) dd::as,?_,?_⟩,λw' hK sp hsp=>?_⟩
  .grind [qK]
  .grind [K1]
  .obtain ⟨fuel,hf⟩:=h1
   exact ⟨a,b,⟨fuel,Ti hK 20 t _ hL.1.1 fuel _ _ (λp hp=>hsp p M) hf⟩,g3 w' hK sp (λp hp=>hsp p (by simp [hp])),rfl⟩
end
open Go.ChangeShapes Go.WideShapes Go.ChangeAt Go.RowKit
end Go.A5
namespace Go.A5
def K7 (A:Prog)(n:Nat)(l:J2)(b:Nat):Env:=⟨call A n,A.prom,A.mode,A.idle,l,b⟩
def Ex (A:Prog)(l:J2)(b:Nat)(c:p7)(st:St)(Q:J6->St->Prop):Prop :=
 ∃x s N,Q x s/\∀n,N<=n->exec (K7 A n l b) n c st=J (x,s)
def Rn (A:Prog)(l:J2)(b:Nat)(ops:List o3)(draw:Bool)(T:List c7)(H:j9)(Q:List c7->j9->List c7->Prop):Prop :=
 ∃r N,Q r.T r.H r.L/\∀n,N<=n->T9 (K7 A n l b) ops draw T H=J r
section
variable {A:Prog} {l:J2} {b:Nat}
theorem Ex.mono {c:p7}{st:St}{Q R:J6->St->Prop}(h:Ex A l b c st Q)(k:∀x s,Q x s->R x s):Ex A l b c st R:=by
 obtain ⟨x,s,N,hq,h⟩:=h;exact ⟨x,s,N,k x s hq,h⟩
theorem Ex.skip {st:St}{Q:J6->St->Prop}(h:Q .normal st):Ex A l b .skip st Q:=⟨_,_,0,h,λ_ _=>rfl⟩
theorem Ex.exit {id:Nat}{st:St}{Q:J6->St->Prop}(h:Q (.exit id) st):Ex A l b (.exit id) st Q:=⟨_,_,0,h,λ_ _=>rfl⟩
theorem Ex.ret {st:St}{Q:J6->St->Prop}(h:Q .ret st):Ex A l b .ret st Q:=⟨_,_,0,h,λ_ _=>rfl⟩
theorem Ex.region {ops:List o3}{draw:Bool}{T:List c7}{H:j9}{Q:J6->St->Prop}(h:Rn A l b ops draw T H λT' H' _=>Q .normal ⟨T',H'⟩):Ex A l b (.region ops draw) ⟨T,H⟩ Q:=by
 obtain ⟨r,N,hq,h⟩:=h;refine ⟨_,_,N,hq,λn hn=>?_⟩;simp_all [exec]
def oI (Q:J6->St->Prop)(go:St->Prop):J6->St->Prop
 | .normal,s=>go s
 | .exit i,s=>Q (.exit i) s
 | .ret,s=>Q .ret s
theorem Ex.seq {c d:p7}{st:St}{Q:J6->St->Prop}(h:Ex A l b c st (oI Q λs=>Ex A l b d s Q)):Ex A l b (.seq c d) st Q:=by
 obtain ⟨x,s,N,hq,h⟩:=h;cases x with
 |normal =>
  obtain ⟨x2,s2,N2,lJ,h2⟩:=hq;refine ⟨x2,s2,max N N2,lJ,λn hn=>?_⟩
  grind [exec]
 |exit i=>exact ⟨_,_,N,hq,λn hn=>by simp_all [exec]⟩
 |ret=>exact ⟨_,_,N,hq,λn hn=>by simp_all [exec]⟩
def qZ (id:Nat)(Q:J6->St->Prop):J6->St->Prop
 | .exit i,s=>if i=id then Q .normal s else Q (.exit i) s
 | .normal,s=>Q .normal s
 | .ret,s=>Q .ret s
theorem Ex.block {id:Nat}{c:p7}{st:St}{Q:J6->St->Prop}(h:Ex A l b c st (qZ id Q)):Ex A l b (.block id c) st Q:=by
 obtain ⟨x,s,N,hq,h⟩:=h;cases x with
 |normal=>exact ⟨_,_,N,hq,λn hn=>by simp_all [exec]⟩
 |ret=>exact ⟨_,_,N,hq,λn hn=>by simp_all [exec]⟩
 |exit i =>
  simp [qZ] at hq;split at hq
  .exact ⟨_,_,N,hq,λn hn=>by simp_all [exec,if_pos]⟩
  .exact ⟨_,_,N,hq,λn hn=>by simp_all [exec,if_neg]⟩
theorem Ex.test {ops:List o3}{draw:Bool}{c:y4}{d e:p7}{T:List c7}{H:j9}{Q:J6->St->Prop}
  (h:Rn A l b ops draw T H λT' H' L=>∃t,G7 T' L c= .d (.bool t)/\(t=W->Ex A l b d ⟨T',H'⟩ Q)/\(t=F->Ex A l b e ⟨T',H'⟩ Q)):Ex A l b (.test ops draw c d e) ⟨T,H⟩ Q:=by
 obtain ⟨r,N,⟨t,h1,h2,h3⟩,h⟩:=h;cases t with
 |true =>
  obtain ⟨x,s,N2,hq,k⟩:=h2 rfl;exact ⟨x,s,max N N2,hq,λn hn=>by grind [exec]⟩
 |false =>
  obtain ⟨x,s,N2,hq,k⟩:=h3 rfl;exact ⟨x,s,max N N2,hq,λn hn=>by grind [exec]⟩
theorem Ex.cond {c:y4}{d e:p7}{st:St}{t:Bool}{Q:J6->St->Prop}(h1:G7 st.T [] c= .d (.bool t))
  (h2:t=W->Ex A l b d st Q) (h3:t=F->Ex A l b e st Q):Ex A l b (.cond c d e) st Q:=by
 cases t with
 |true =>
  obtain ⟨x,s,N2,hq,k⟩:=h2 rfl;exact ⟨x,s,N2,hq,λn hn=>by simp_all [exec]⟩
 |false =>
  obtain ⟨x,s,N2,hq,k⟩:=h3 rfl;exact ⟨x,s,N2,hq,λn hn=>by simp_all [exec]⟩
theorem Ex.loop {mask:List Bool}{body:p7}{st:St}{Q:J6->St->Prop}(Inv:Nat->St->Prop)
  (hb:∀k s,Inv k s->Ex A l b body (clean mask l.strict (O st.H) s) (oI Q λs' =>∃k',k' <k/\Inv k' s')) {k:Nat} (h:Inv k st):Ex A l b (.loop mask body) st Q:=by
 have main:∀k s,Inv k s->∃x s2 N,Q x s2/\∀n,N<=n->∀j,N<=j->mL (exec (K7 A n l b) n body) mask l.strict (O st.H) j s=J (x,s2):=by
  intro k
  induction k using Nat.strongRecOn with
  |_ k ih =>
   intro s hs;obtain ⟨x,s1,N,hq,h1⟩:=hb k s hs;cases x with
   |normal =>
    obtain ⟨k',hk,hi⟩:=hq;obtain ⟨x,s2,N2,lJ,h2⟩:=ih k' hk s1 hi;refine ⟨x,s2,max N N2+1,lJ,λn hn j hj=>?_⟩;obtain ⟨j,rfl⟩:∃j',j=j' +1:=⟨j - 1,V⟩
    grind [mL]
   |exit i =>
    refine ⟨_,_,N+1,hq,λn hn j hj=>?_⟩;obtain ⟨j,rfl⟩:∃j',j=j' +1:=⟨j - 1,V⟩
    grind [mL]
   |ret =>
    refine ⟨_,_,N+1,hq,λn hn j hj=>?_⟩;obtain ⟨j,rfl⟩:∃j',j=j' +1:=⟨j - 1,V⟩
    grind [mL]
 obtain ⟨x,s2,N,hq,h⟩:=main k st h;exact ⟨x,s2,N,hq,λn hn=>by exact h n hn n hn⟩
def Pf (A:Prog)(f:FuncId)(args:List c7)(v:c7):Prop :=
 ∃N,∀n,N<=n->call A n f args [] R5=J (v,[])
def Pf.aG7 {f:FuncId}{af:r7}{args:List c7}{v:c7}(T:List c7)(hp:A.dR f=K)(hf:A.fn f=J af)(hn:O args=af.nparams)
  (hT:args++List.replicate (O af.names - O args) .any=T) (h:Ex A R5 0 af.body ⟨T,[]⟩ λx s=>Z4 af 0 (J (x,s))=J (v,[])):Pf A f args v:=by
 obtain ⟨x,s,N,hq,h⟩:=h;refine ⟨N+1,λn hn' =>?_⟩;obtain ⟨n,rfl⟩:∃j,n=j+1:=⟨n - 1,V⟩;simp_all [GN,tW,K7,List.length_nil]
def IQ (H:j9)(strict k:Nat):E6 H strict k 0=0:=by
 cases k<;>simp [E6]
def dG {E:Env}{k:Nat}{f:FuncId}{args:List c7}{st:I5}{v:c7}(iD:E.prom f=F)(hm:E.mode f=1)(hb:A8 args=0)
  (hc:E.cf f args [] R5=J (v,[])):C9 E k f args st=J (put st k v):=by
 simp [C9,hb,IQ];have h0:B5 st.H E.lim.strict 0=0:=by rfl
 have h1:E.cf f args [] ⟨0,0,0,0⟩=J (v,[]):=hc
 grind [F3]
def sV (ops:List o3):Bool:=ops.all λi=> !i.op.y7&&i.cR.all λe=>decide (e<O ops)
end
theorem wrap_small {n:Int}(h: -9223372036854775808<=n)(h2:n<9223372036854775808):IntKind.wrap .i64 n=n:=by
 grind [IntKind.wrap,IntKind.signed,IntKind.bits]
section
variable {A:Prog} {l:J2} {b:Nat}
def s8.ZF:s8->Bool
 | .load _ _=>W
 | .lookup .. =>W
 |_=>F
def oW:List o3->Nat
 |[]=>0
 |i::is=>max (if i.op.ZF then (i.cR.map (·+1)).foldl max 0 else 0) (oW is)
theorem NA {ρ:y4->c7}{H:j9}{op:s8}{v:c7}{rs:List Nat}(h:k8 ρ H op=J (v,rs))(hr:op.ZF=F):rs=[]:=by
 cases op<;>simp [s8.ZF] at hr<;>simp [k8] at h<;>repeat' split at h
 all_goals simp_all
theorem Cc {E:Env}{j8:List o3}{A6:Option Nat}{k:Nat}{i:o3}{st st' :I5}{rs:List Nat}(h:y3 E j8 A6 k i st=J (st',rs))(hr:i.op.ZF=F):rs=[]:=by
 simp [y3] at h;split at h
 .split at h
  next st1 rs1 h1=>
   split at h
   .simp [B8] at h1
    split at h1
    .grind
    grind [Option.some.injEq,Prod.mk.injEq,NA]
   .cases h
  .cases h
 all_goals grind
theorem ur:∀(l:List Nat) (a:Nat),a<=l.foldl max a
 |[],_=>k9 _
 |x::l,a=>s5 (Nat.le_max_left a x) (ur l (max a x))
theorem rP:∀(l:List Nat) (a x:Nat),x∈l->x<=l.foldl max a
 |y::l,a,x,h=>by
  rcases List.mem_cons.1 h with rfl|h
  .grind [s5,Nat.le_max_right,ur]
  .exact rP l _ x h
theorem Az:∀{j8:List o3} {i:o3} {e:Nat},i∈j8->i.op.ZF=W->e∈i.cR->e<oW j8
 |j::j8,i,e,h,hr,he=>by
  simp only [oW]
  rcases List.mem_cons.1 h with rfl|h
  .have:=rP (i.cR.map (·+1)) 0 (e+1) (List.mem_map.2 ⟨e,he,rfl⟩)
   rw [hr,if_pos rfl];omega
  .have:=Az h hr he
   omega
def Rx (A:Prog)(l:J2)(b:Nat)(dr:Bool)(j8 ops:List o3)(T:List c7)(H:j9)(pre:List c7)(l6:List Touch)(Q:List c7->j9->List c7->Prop):Prop :=
 ∃r N,Q r.T r.H r.L/\∀n,N<=n->if dr=W then ∀na,∃lg:List gC,Q1 (K7 A n l b) j8 ops (O pre) na ⟨T,H,pre++List.replicate (O ops) .any,l6⟩=J (r,lg)/\O lg=O ops/\∀k e,lg[k]? =J e->(O pre+k<oW j8->∀rs,G6 e.Jm rs=F)/\∀i,ops[k]? =J i->i.op.ZF=F->e.reads=[]
  else iU (K7 A n l b) j8 ops (O pre) ⟨T,H,pre++List.replicate (O ops) .any,l6⟩=J r
variable {dr:Bool} {j8 ops:List o3} {T:List c7} {H:j9} {pre:List c7} {l6:List Touch} {Q:List c7->j9->List c7->Prop}
def Rx.nil (h:Q T H pre):Rx A l b dr j8 [] T H pre l6 Q:=by
 refine ⟨⟨T,H,pre,l6⟩,0,h,λn _=>?_⟩;simp_all [iU,Q1]
def Rx.KA {i:o3}{T' pre' :List c7}{H' :j9}{v:c7}{aY :List Touch}{rs:List Nat}{N1:Nat}(hl:O pre'=O pre)
  (hk:G9 ⟨T,H,pre++ .any::List.replicate (O ops) .any,l6⟩ i.op=F) (ha:i.op.y7=F)
  (h:∀n,N1<=n->y3 (K7 A n l b) j8 K (O pre) i ⟨T,H,pre++ .any::List.replicate (O ops) .any,l6⟩=J (⟨T',H',pre' ++v::List.replicate (O ops) .any,aY⟩,rs))
  (ht:O pre<oW j8->∀rs,G6 (aY.take (O aY - O l6)) rs=F) (h2:Rx A l b dr j8 ops T' H' (pre' ++[v]) aY Q):Rx A l b dr j8 (i::ops) T H pre l6 Q:=by
 obtain ⟨r,N,hq,h2⟩:=h2;refine ⟨r,max N N1,hq,λn hn=>?_⟩;have h3:=h2 n V;have h4:=h n V;cases dr with
 |false =>
  simp_all [j5,if_false,List.length_cons,O8,iU]
 |true =>
  simp [List.length_cons,O8] at h3 ⊢;intro na;obtain ⟨lg,e1,e2,e3⟩:=h3 na;refine ⟨Y9 (K7 A n l b) i K ⟨T,H,pre++ .any::List.replicate (O ops) .any,l6⟩ ⟨T',H',pre' ++v::List.replicate (O ops) .any,aY⟩ rs::lg,?_,by simp [e2],?_⟩
  .simp_all [Q1,ja,Bool.false_and,j5,if_false]
  .intro k e he
   cases k with
   |zero =>
    grind [List.getElem?_cons_zero,Option.some.injEq,Y9,bw,Cc]
   |succ k =>
    grind
def Rx.stepG {i:o3}{T' pre' :List c7}{H' :j9}{v:c7}{aY :List Touch}{rs:List Nat}{N1:Nat}(hl:O pre'=O pre)
  (hk:G9 ⟨T,H,pre++ .any::List.replicate (O ops) .any,l6⟩ i.op=F) (ha:i.op.y7=F)
  (h:∀n,N1<=n->y3 (K7 A n l b) j8 K (O pre) i ⟨T,H,pre++ .any::List.replicate (O ops) .any,l6⟩=J (⟨T',H',pre' ++v::List.replicate (O ops) .any,aY⟩,rs))
  (ht:∀rs,G6 (aY.take (O aY - O l6)) rs=F) (h2:Rx A l b dr j8 ops T' H' (pre' ++[v]) aY Q):Rx A l b dr j8 (i::ops) T H pre l6 Q :=
 Rx.KA hl hk ha h (λ_=>ht) h2
def Rx.step {i:o3}{T' :List c7}{H' :j9}{v:c7}{aY :List Touch}{rs:List Nat}{N1:Nat}(hk:G9 ⟨T,H,pre++ .any::List.replicate (O ops) .any,l6⟩ i.op=F)(ha:i.op.y7=F)
  (h:∀n,N1<=n->y3 (K7 A n l b) j8 K (O pre) i ⟨T,H,pre++ .any::List.replicate (O ops) .any,l6⟩=J (⟨T',H',pre++v::List.replicate (O ops) .any,aY⟩,rs))
  (ht:∀rs,G6 (aY.take (O aY - O l6)) rs=F) (h2:Rx A l b dr j8 ops T' H' (pre++[v]) aY Q):Rx A l b dr j8 (i::ops) T H pre l6 Q :=
 Rx.stepG rfl hk ha h ht h2
def opv (T pre:List c7):y4->Option c7
 | .slot s=>T[s]?
 | .loc j=>pre[j]?
 | .const v=>J v
def Op (T pre:List c7)(x:y4)(v:c7):Prop:=opv T pre x=J v/\v.K9=v
theorem Op.G7 {x:y4}{v:c7}(h:Op T pre x v)(m:Nat):G7 T (pre++ .any::List.replicate m .any) x=v:=by
 obtain ⟨h1,h2⟩:=h;cases x with
 |slot s=>simp_all [opv,A5.G7]
 |loc j =>
  grind [opv,A7,List.getElem?_eq_none,A5.G7,y8]
 |const u=>simp_all [opv,Option.some.injEq,A5.G7,TZ]
theorem K4 (pre:List c7)(a v:c7)(r:List c7):(pre++a::r).set (O pre) v=pre++v::r:=by
 simp
def Rx.pure {op:s8}{u:List Nat}{v:c7}{rs:List Nat}(hE:op.B7=F)(hp:∀m,k8 (A5.G7 T (pre++ .any::List.replicate m .any)) H op=J (v,rs))
  (h2:Rx A l b dr j8 ops T H (pre++[v]) l6 Q):Rx A l b dr j8 (⟨op,K,K,u⟩::ops) T H pre l6 Q:=by
 have hm:∀x,op≠ .S0 x:=by
  rintro x rfl;simp_all [k8]
 refine Rx.step (N1:=0) (rs:=rs) ?_ ?_ ?_ ?_ h2
 .cases op<;>first|rfl|grind [s8.B7]
 .cases op<;>first|rfl|(simp [s8.B7] at hE)|skip
  rename_i ob;cases ob
  .rfl
  simp_all
 .intro n _
  have h3:B8 (K7 A n l b) j8 K (O pre) op ⟨T,H,pre++ .any::List.replicate (O ops) .any,l6⟩=J (⟨T,H,pre++v::List.replicate (O ops) .any,l6⟩,rs):=by
   simp_all [absurd,B8,j5,if_false,put,K4,s8.B7]
  grind [y3,y9,s7,E2]
 simp_all [G6]
theorem Op.F6 {x:y4}{v:c7}(h:Op T pre x v)(m:Nat):A5.F6 ⟨T,H,pre++ .any::List.replicate m .any,l6⟩ x=(v,⟨T,H,pre++ .any::List.replicate m .any,l6⟩):=by
 have hr:=h.G7 m;cases x with
 |slot s=>grind [A5.F6]
 |loc j =>
  obtain ⟨h1,h2⟩:=h
  grind [opv,A7,List.getElem?_eq_none,A5.F6,y8,c7.K9]
 |const u =>
  obtain ⟨h1,h2⟩:=h;simp [opv,Option.some.injEq] at h1;subst h1;rfl
theorem Rx.S0 {x:y4}{u:List Nat}{v:c7}(hx:Op T pre x v)(h2:Rx A l b dr j8 ops T H (pre++[v]) l6 Q):Rx A l b dr j8 (⟨.S0 x,K,K,u⟩::ops) T H pre l6 Q:=by
 refine Rx.step (N1:=0) (rs:=[]) rfl rfl (λn _=>?_) (λrs=>by simp [G6]) h2;simp [y3,y9,B8,s8.B7,j5,if_false,hx.F6,put,K4,s7,E2]
def Rx.aG6 {x:y4}{u:List Nat}{v:c7}{s:Nat}(hx:Op T pre x v)(hs:T[s]?.isSome=W)(h2:Rx A l b dr j8 ops (T.set s v) H (pre++[v]) (.slot s::l6) Q) :
  Rx A l b dr j8 (⟨.S0 x,J s,K,u⟩::ops) T H pre l6 Q:=by
 refine Rx.step (N1:=0) (rs:=[]) rfl rfl (λn _=>?_) (λrs=>?_) h2
 .have hv:=hx.2
  have hs:s<O T:=by
   simp_all
  simp only [y3,y9,B8,s8.B7,j5,if_false,hx.F6,put,K4,s7,E2,hs,if_true];have h3:A5.F6 ⟨T,H,pre++v::List.replicate (O ops) .any,l6⟩ (.loc (O pre))=(v,⟨T,H,pre++v::List.replicate (O ops) .any,l6⟩):=by
   grind [A5.F6,c7.K9,A5.G7]
  rw [h3]
 simp_all [G6,Touch.F7]
def Rx.ap7 {s:Nat}{u:List Nat}{z n:Nat}{cs:List Data}(hx:T[s]? =J (.own z n cs))(h2:Rx A l b dr j8 ops T H (pre++[.d (.slice n cs)]) l6 Q):Rx A l b dr j8 (⟨.S0 (.slot s),K,K,u⟩::ops) T H pre l6 Q:=by
 refine Rx.step (N1:=0) (rs:=[]) rfl rfl (λn _=>?_) (λrs=>by simp [G6]) h2;simp_all [y3,y9,B8,s8.B7,j5,if_false,A5.F6,put,K4,s7,E2,A5.G7,c7.K9]
def fu (s:Nat)(l6:List Touch)(rs:List Nat):G6 ((Touch.slot s::l6).take (O (Touch.slot s::l6) - O l6)) rs=F:=by
 simp_all [G6,Touch.F7]
theorem Rx.append {j s sz bytes:Nat}{y:y4}{u u' :List Nat}{d' :Option Nat}{g' :Option (Nat×Bool)}{n' len m:Nat}{cs' cells new:List Data}{vy:c7}{cs:List c7}
  (hj:pre[j]? =J (.d (.slice n' cs'))) (ha:j8[j]? =J ⟨.S0 (.slot s),d',g',u'⟩) (ht:l6.any (Touch.U8 s)=F) (hT:T[s]? =J (.own sz len cells))
  (hy:∀m,A5.G7 T (pre++ .any::List.replicate m .any) y=vy) (hc:C7 H sz vy=J (m,cs)) (hd:L1 cs=J new) (hr:roomFor (len+m) bytes=W) (h0:0<sz)
  (h2:Rx A l b dr j8 ops (T.set s (.d (.slice len cells))) H (pre++[.own sz (len+m) (cells++new)]) (.slot s::l6) Q):Rx A l b dr j8 (⟨.append sz bytes F (.loc j) y,K,K,u⟩::ops) T H pre l6 Q:=by
 have hjl:j<O pre:=by
  grind
 have hL:∀r:List c7,(pre++ .any::r)[j]? =J (.d (.slice n' cs')):=λr=>by grind
 have an8:A5.G7 T (pre++ .any::List.replicate (O ops) .any) (.loc j)= .d (.slice n' cs'):=by simp [A5.G7,hL,c7.K9]
 refine Rx.step (N1:=0) (rs:=[]) (by simp_all [G9]) rfl (λn _=>?_) (fu s l6) h2;simp_all [y3,y9,B8,s8.B7,D3,L8,T1,aZ,put,s7,E2]<;>grind
def Rx.Vf {j s:Nat}{u:List Nat}{z n0:Nat}{cs:List Data}(hj:pre[j]? =J (.own z n0 cs))(hs:T[s]?.isSome=W)
  (h2:Rx A l b dr j8 ops (T.set s (.own z n0 cs)) H (pre.set j (.d (.slice n0 cs))++[.d (.slice n0 cs)]) (.slot s::l6) Q):Rx A l b dr j8 (⟨.S0 (.loc j),J s,K,u⟩::ops) T H pre l6 Q:=by
 have hjl:j<O pre:=by
  grind
 have hs:s<O T:=by
  simp_all
 refine Rx.stepG (N1:=0) (rs:=[]) U rfl rfl (λn _=>?_) (fu s l6) h2;have hL:∀r:List c7,(pre++ .any::r)[j]? =J (.own z n0 cs):=λr=>by grind
 have h4:∀(a v:c7) (r:List c7),(pre.set j (.d (.slice n0 cs))++a::r).set (O pre) v=pre.set j (.d (.slice n0 cs))++v::r:=λa v r=>M
 simp_all [y3,y9,B8,s8.B7,j5,if_false,A5.F6,put,s7,E2,if_true]
def Rn.Zr {T:List c7}{H:j9}(h:Rx A l b F ops ops T H [] [] Q):Rn A l b ops F T H Q:=by
 obtain ⟨r,N,hq,h⟩:=h;exact ⟨r,N,hq,λn hn=>by simp_all [T9]⟩
def Rn.Zq {T:List c7}{H:j9}(hp:sV ops=W)(h:Rx A l b W ops ops T H [] [] Q):Rn A l b ops W T H Q:=by
 obtain ⟨r,N,hq,h⟩:=h;refine ⟨r,N,hq,λn hn=>?_⟩;have h1:=h n hn;obtain ⟨lg,e1,e2,e3⟩:=h1 (O H);simp only [sV,List.all_eq_true,Bool.and_eq_true,Bool.not_eq_true',decide_eq_true_eq] at hp;have DB:Y7 ops=[]:=by
  simp_all [Y7,List.map_eq_nil_iff,List.filter_eq_nil_iff,Bool.not_eq_true]
 have xR:slotsOf ops=[]:=by
  simp_all [slotsOf,List.filterMap_eq_nil_iff]
 have bj4:dN ops lg=W:=by
  simp only [dN,List.all_eq_true];rintro ⟨i,le⟩ Df e he;obtain ⟨j,hj,hji⟩:=L5 Df;simp [List.length_zip] at hj;have hj1:j<O ops:=V
  have hj2:j<O lg:=V
  simp [List.getElem_zip] at hji;obtain ⟨rfl,rfl⟩:=hji;have hi:ops[j]∈ops:=List.getElem_mem hj1;have hlt:=(hp _ hi).2 e he;have this:e<O lg:=V
  have hmk:ops[j].op.makes=F:=by
   have:=(hp _ hi).1;cases ho:ops[j].op<;>rw [ho] at this<;>first|rfl|exact this
  cases hr:ops[j].op.ZF with
  |true =>
   have h5:=(e3 e _ (n9 this)).1 (by simpa using Az hi hr he);simp_all
  |false =>
   have h5:=(e3 j _ (n9 hj2)).2 _ (n9 hj1) hr
   grind [G6]
 simp_all [List.length_nil,List.nil_append,T9,if_true,List.append_nil]
theorem Rx.call {f:FuncId}{xs:List y4}{u:List Nat}{v:c7}{args:List c7}(iD:A.prom f=F)(hm:A.mode f=1)(ha:∀m,xs.map (A5.G7 T (pre++ .any::List.replicate m .any))=args)
  (hb:A8 args=0) (hc:Pf A f args v) (h2:Rx A l b dr j8 ops T H (pre++[v]) l6 Q):Rx A l b dr j8 (⟨.call f xs,K,K,u⟩::ops) T H pre l6 Q:=by
 obtain ⟨d7,hc⟩:=hc;refine Rx.step (N1:=d7) (rs:=[]) rfl rfl (λn hn=>?_) (λrs=>by simp [G6]) h2;have h3:C9 (K7 A n l b) (O pre) f args ⟨T,H,pre++ .any::List.replicate (O ops) .any,l6⟩=J (put ⟨T,H,pre++ .any::List.replicate (O ops) .any,l6⟩ (O pre) v) :=
  dG iD hm hb (hc n hn)
 simp_all [y3,y9,B8,s8.B7,if_true,D3,s7,E2,put,K4]
def GF {o:BinOp}{c d e:Int}(h:o= .add/\c+d=e\/o= .sub/\c - d=e)(h0: -9223372036854775808<=e)(h1:e<9223372036854775808):M1 o (.int .i64 c) (.int .i64 d)=J (.int .i64 e):=by
 grind [M1,Z5,cw,wrap_small]
end
abbrev K0:=List UInt8
def y6 {α:Type}(f:α->List Data)(l:List α):Data:= .slice (O l) (l.flatMap f)
def Z (n:Int):Data:= .int .i64 n
structure X0 where
 op:Int
 kind:Int
 int:Int
 text:K0
 col:Int
def X0.enc (t:X0):List Data:=[Z t.op,Z t.kind,Z t.int,.str t.text,Z t.col]
structure U4 where
 name:K0
 type:Int
 space:K0
 refs:K0
 D6:List Int
 fc:Int
 kA:Int
def U4.enc (c:U4):List Data:=[.str c.name,Z c.type,.str c.space,.str c.refs,y6 (λn=>[Z n]) c.D6,Z c.fc,Z c.kA]
structure fR where
 name:K0
 o7:List U4
 erase:Int
 cz:Int
def fR.enc (t:fR):List Data:=[.str t.name,y6 U4.enc t.o7,Z t.erase,Z t.cz]
structure zW where
 name:K0
 expr:List X0
def zW.enc (x:zW):List Data:=[.str x.name,y6 X0.enc x.expr]
structure zA where
 name:K0
 func:Int
 expr:List X0
def zA.enc (x:zA):List Data:=[.str x.name,Z x.func,y6 X0.enc x.expr]
structure Vw where
 name:K0
 kind:Int
 left:K0
 right:K0
 on:List (Int×Int)
 wh:List X0
 items:List zW
 distinct:Bool
 I6:List zA
def Vw.enc (v:Vw):List Data:=[.str v.name,Z v.kind,.str v.left,.str v.right,y6 (λp=>[Z p.1,Z p.2]) v.on,y6 X0.enc v.wh,y6 zW.enc v.items,.bool v.distinct,y6 zA.enc v.I6]
structure mg where
 name:K0
 source:K0
 col:Int
def mg.enc (x:mg):List Data:=[.str x.name,.str x.source,Z x.col]
structure mb where
 name:K0
 source:K0
 col:Int
 kind:Int
 width:Int
 depth:Int
def mb.enc (x:mb):List Data:=[.str x.name,.str x.source,Z x.col,Z x.kind,Z x.width,Z x.depth]
structure oF where
 name:K0
 source:K0
 col:Int
 ttl:Int
def oF.enc (x:oF):List Data:=[.str x.name,.str x.source,Z x.col,Z x.ttl]
structure oo where
 name:K0
 source:K0
 thr:Int
def oo.enc (x:oo):List Data:=[.str x.name,.str x.source,Z x.thr]
structure rA where
 name:K0
 table:K0
def rA.enc (x:rA):List Data:=[.str x.name,.str x.table]
structure ru where
 name:K0
 tables:List K0
 keep:Int
def ru.enc (x:ru):List Data:=[.str x.name,y6 (λs=>[.str s]) x.tables,Z x.keep]
structure p9 where
 j7:List fR
 views:List Vw
 idxs:List mg
 J7:List mb
 L0:List oF
 M7:List oo
 O0:List rA
 Q3:List ru
def p9.enc (c:p9):List Data:=[y6 fR.enc c.j7,y6 Vw.enc c.views,y6 mg.enc c.idxs,y6 mb.enc c.J7,y6 oF.enc c.L0,y6 oo.enc c.M7,y6 rA.enc c.O0,y6 ru.enc c.Q3]
def RJ:CT:= .int .i64
def wL (n:Int):Prop:= -9223372036854775808<=n/\n<9223372036854775808
def sZ {α:Type}{e:List CT}{enc:α->List Data}{ok:α->Prop}(hr:∀r,aF e r->∃a,r=enc a/\ok a){d:Data}(h:Fits (.slice e) d) :
  ∃l:List α,d=y6 enc l/\O l<=maxLen/\∀a,a∈l->ok a:=by
 obtain ⟨rows,rfl,hl,hall⟩:=h;have:∀rows:List (List Data),(∀r,r∈rows->aF e r)->∃l:List α,O l=O rows/\rows.flatten=l.flatMap enc/\∀a,a∈l->ok a:=by
  intro rows
  induction rows with
  |nil=>simp_all
  |cons r rs ih =>
   intro h;obtain ⟨a,ha,hok⟩:=hr r (h r U);obtain ⟨l,h1,h2,h3⟩:=ih (λr hr' =>h r (by simp [hr']));refine ⟨a::l,by simp [h1],by simp [h2,ha],?_⟩;simp_all
 obtain ⟨l,h1,h2,h3⟩:=this rows hall
 grind [y6]
def Bc {d:Data}(h:Fits RJ d):∃n,d=Z n/\wL n:=by
 obtain ⟨n,rfl,hw⟩:=h;refine ⟨n,rfl,?_⟩;simp [Lit.wf] at hw;have hm:IntKind.i64.min= -9223372036854775808:=rfl
 grind [wL]
def Ko {r:List Data}(h:aF [RJ,RJ] r):∃p:Int×Int,r=[Z p.1,Z p.2]/\wL p.1/\wL p.2:=by
 obtain ⟨d,_,rfl,h1,e,_,rfl,h2,rfl⟩:=h;obtain ⟨n,rfl,hn⟩:=Bc h1;obtain ⟨m,rfl,hm⟩:=Bc h2;simp_all<;>grind
structure X0.ok (x:X0):Prop where
 op:wL x.op
 kind:wL x.kind
 int:wL x.int
 text:O x.text<=maxLen
 col:wL x.col
structure U4.ok (x:U4):Prop where
 name:O x.name<=maxLen
 type:wL x.type
 space:O x.space<=maxLen
 refs:O x.refs<=maxLen
 D6:O x.D6<=maxLen/\∀a,a∈x.D6->wL a
 fc:wL x.fc
 kA:wL x.kA
structure fR.ok (x:fR):Prop where
 name:O x.name<=maxLen
 o7:O x.o7<=maxLen/\∀a,a∈x.o7->a.ok
 erase:wL x.erase
 cz:wL x.cz
structure zW.ok (x:zW):Prop where
 name:O x.name<=maxLen
 expr:O x.expr<=maxLen/\∀a,a∈x.expr->a.ok
structure zA.ok (x:zA):Prop where
 name:O x.name<=maxLen
 func:wL x.func
 expr:O x.expr<=maxLen/\∀a,a∈x.expr->a.ok
structure Vw.ok (x:Vw):Prop where
 name:O x.name<=maxLen
 kind:wL x.kind
 left:O x.left<=maxLen
 right:O x.right<=maxLen
 on:O x.on<=maxLen/\∀a,a∈x.on->wL a.1/\wL a.2
 wh:O x.wh<=maxLen/\∀a,a∈x.wh->a.ok
 items:O x.items<=maxLen/\∀a,a∈x.items->a.ok
 distinct:True
 I6:O x.I6<=maxLen/\∀a,a∈x.I6->a.ok
structure mg.ok (x:mg):Prop where
 name:O x.name<=maxLen
 source:O x.source<=maxLen
 col:wL x.col
structure mb.ok (x:mb):Prop where
 name:O x.name<=maxLen
 source:O x.source<=maxLen
 col:wL x.col
 kind:wL x.kind
 width:wL x.width
 depth:wL x.depth
structure oF.ok (x:oF):Prop where
 name:O x.name<=maxLen
 source:O x.source<=maxLen
 col:wL x.col
 ttl:wL x.ttl
structure oo.ok (x:oo):Prop where
 name:O x.name<=maxLen
 source:O x.source<=maxLen
 thr:wL x.thr
structure rA.ok (x:rA):Prop where
 name:O x.name<=maxLen
 table:O x.table<=maxLen
structure ru.ok (x:ru):Prop where
 name:O x.name<=maxLen
 tables:O x.tables<=maxLen/\∀a,a∈x.tables->O a<=maxLen
 keep:wL x.keep
structure p9.ok (x:p9):Prop where
 j7:O x.j7<=maxLen/\∀a,a∈x.j7->a.ok
 views:O x.views<=maxLen/\∀a,a∈x.views->a.ok
 idxs:O x.idxs<=maxLen/\∀a,a∈x.idxs->a.ok
 J7:O x.J7<=maxLen/\∀a,a∈x.J7->a.ok
 L0:O x.L0<=maxLen/\∀a,a∈x.L0->a.ok
 M7:O x.M7<=maxLen/\∀a,a∈x.M7->a.ok
 O0:O x.O0<=maxLen/\∀a,a∈x.O0->a.ok
 Q3:O x.Q3<=maxLen/\∀a,a∈x.Q3->a.ok
section
variable {A:Prog} {l:J2} {b:Nat}
variable {dr:Bool} {j8 ops:List o3} {T:List c7} {H:j9} {pre:List c7} {l6:List Touch} {Q:List c7->j9->List c7->Prop}
theorem lM {j:Nat}{v:c7}(h:pre[j]? =J v)(r:List c7):(pre++r)[j]? =J v:=by
 grind
def Rx.ZN {op:s8}{j:Nat}{want w:Bool}{u:List Nat}(h:pre[j]? =J (.d (.bool w)))(hw:(w==want)=F)(hk:G9 ⟨T,H,pre++ .any::List.replicate (O ops) .any,l6⟩ op=F)(ha:op.y7=F)
  (h2:Rx A l b dr j8 ops T H (pre++[.tuple []]) l6 Q):Rx A l b dr j8 (⟨op,K,J (j,want),u⟩::ops) T H pre l6 Q:=by
 refine Rx.step (N1:=0) (rs:=[]) hk ha (λn _=>?_) (λrs=>by simp [G6]) h2
 grind [y3,y9,lM,put,K4,s7,E2]
theorem wo {mask:List Bool}{strict n:Nat}(h:O H=n):clean mask strict n ⟨T,H⟩=⟨U7 mask T,H⟩:=by
 grind [clean]
def HT {E:Env}{A6:Option Nat}{k j:Nat}{op:s8}{dst:Option Nat}{want w:Bool}{u:List Nat}{st:I5}(h:st.L[j]? =J (.d (.bool w)))(hw:(w==want)=W) :
  y3 E j8 A6 k ⟨op,dst,J (j,want),u⟩ st=y3 E j8 A6 k ⟨op,dst,K,u⟩ st:=by
 simp_all [y3,y9]
def Rx.wanted {op:s8}{dst:Option Nat}{j:Nat}{want w:Bool}{u:List Nat}(h:pre[j]? =J (.d (.bool w)))(hw:(w==want)=W)
  (h2:Rx A l b dr j8 (⟨op,dst,K,u⟩::ops) T H pre l6 Q):Rx A l b dr j8 (⟨op,dst,J (j,want),u⟩::ops) T H pre l6 Q:=by
 obtain ⟨r,N,hq,hr⟩:=h2;refine ⟨r,N,hq,λn hn=>?_⟩;have h3:=hr n hn;have h4:∀E A6,y3 E j8 A6 (O pre) ⟨op,dst,J (j,want),u⟩ ⟨T,H,pre++List.replicate (O ops+1) .any,l6⟩=y3 E j8 A6 (O pre) ⟨op,dst,K,u⟩ ⟨T,H,pre++List.replicate (O ops+1) .any,l6⟩ :=
  λE A6=>HT (lM h _) hw
 cases dr with
 |false =>
  simp_all [j5,if_false,List.length_cons,iU]
 |true =>
  simp [List.length_cons,Q1,ja] at h3 ⊢;intro na;rw [h4];obtain ⟨lg,e1,e2,e3⟩:=h3 na;refine ⟨lg,e1,e2,λk e he=>⟨(e3 k e he).1,λi hi hr=>?_⟩⟩
  grind
def Rx.stepT {i:o3}{T' pre' :List c7}{H' :j9}{v:c7}{aY :List Touch}{rs:List Nat}{N1:Nat}(hl:O pre'=O pre)
  (h:∀n,N1<=n->y3 (K7 A n l b) j8 K (O pre) i ⟨T,H,pre++ .any::List.replicate (O ops) .any,l6⟩=J (⟨T',H',pre' ++v::List.replicate (O ops) .any,aY⟩,rs))
  (h2:Rx A l b F j8 ops T' H' (pre' ++[v]) aY Q):Rx A l b F j8 (i::ops) T H pre l6 Q:=by
 obtain ⟨r,N,hq,h2⟩:=h2;refine ⟨r,max N N1,hq,λn hn=>?_⟩
 grind [iU]
def Rx.aA0 {x:y4}{u:List Nat}{v:c7}{cs:List c7}{s:Nat}(hx:Op T pre x v)(hc:v.cells? =J cs)(hs:T[s]?.isSome=W)
  (h2:Rx A l b F j8 ops (T.set s (.ptr (O H) 0)) (H++[.cells cs]) (pre++[.ptr (O H) 0]) (.slot s::l6) Q):Rx A l b F j8 (⟨.box x,J s,K,u⟩::ops) T H pre l6 Q:=by
 have hs:s<O T:=by
  simp_all
 refine Rx.stepT (N1:=0) (rs:=[]) rfl (λn _=>?_) h2;have h3:∀r:List c7,(pre++ .ptr (O H) 0::r)[O pre]? =J (.ptr (O H) 0):=λr=>U
 simp [y3,y9,B8,s8.B7,if_true,D3,hx.G7,hc,E1,newId,put,s7,E2,hs,A5.F6];simp [A5.G7,c7.K9]
def Rx.aG9 {s z n0:Nat}{cs:List Data}{u:List Nat}(hs:T[s]?.isSome=W)(h2:Rx A l b dr j8 ops (T.set s (.own z n0 cs)) H (pre++[.d (.slice n0 cs)]) (.slot s::l6) Q) :
  Rx A l b dr j8 (⟨.S0 (.const (.own z n0 cs)),J s,K,u⟩::ops) T H pre l6 Q:=by
 have hs:s<O T:=by
  simp_all
 refine Rx.step (N1:=0) (rs:=[]) rfl rfl (λn _=>?_) (fu s l6) h2;simp_all [y3,y9,B8,s8.B7,j5,if_false,A5.F6,put,K4,s7,E2,if_true]
def Ex.EM {mask:List Bool}{body:p7}{R:J6->St->Prop}(Inv:Nat->List c7->j9->Prop)(hl:∀k T' H',Inv k T' H' ->O H'=O H)
  (hb:∀k T' H',Inv k T' H' ->Ex A l b body ⟨U7 mask T',H'⟩ (oI R λs=>∃k',k' <k/\Inv k' s.T s.H)) {k:Nat} (h:Inv k T H):Ex A l b (.loop mask body) ⟨T,H⟩ R:=by
 refine Ex.loop (λk s=>Inv k s.T s.H) (λk s hs=>?_) (k:=k) h;obtain ⟨T',H'⟩:=s
 grind [wo]
end
theorem nL {α:Type}{enc:α->List Data}{sz:Nat}(hs:∀a,O (enc a)=sz):∀(l:List α) (i:Nat) (h:i<O l),(l.flatMap enc).drop (i * sz)=enc l[i]++(l.drop (i+1)).flatMap enc
 |a::l,0,h=>U
 |a::l,i+1,h=>by
  have h1:=nL hs l i (by simpa using h);rw [O7,Nat.succ_mul,Nat.add_comm,<- List.drop_drop];rw [show (enc a++l.flatMap enc).drop sz=l.flatMap enc by rw [<- hs a,List.drop_left]];simpa using h1
def Ug {α:Type}{enc:α->List Data}{sz:Nat}(hs:∀a,O (enc a)=sz)(l:List α)(i:Nat)(h:i<O l) :
  (l.flatMap enc).drop ((i:Int).toNat * sz)=enc l[i]++(l.drop (i+1)).flatMap enc:=by
 rw [Int.toNat_natCast];exact nL hs l i h
def p9.names (c:p9):List K0:=c.j7.map fR.name++c.views.map Vw.name++c.idxs.map mg.name++c.J7.map mb.name++c.L0.map oF.name++c.M7.map oo.name++c.O0.map rA.name++c.Q3.map ru.name
def cat (c:p9):c7:= .agg (c.enc.map .d)
def p9.iC (c:p9):Prop:=O c.j7<=1000/\O c.views<=1000/\O c.idxs<=1000/\O c.J7<=1000/\O c.L0<=1000/\O c.M7<=1000/\O c.O0<=1000/\O c.Q3<=1000
def kz {α:Type}(a b:Option α):Prop:=∀r,a=J r->b=J r
theorem kz.refl {α:Type}(a:Option α):kz a a:=λ_ h=>h
def kz.no {α:Type}(b:Option α):kz K b:=λ_ h=>by cases h
def LeC (c c' :tR):Prop:=∀f args H l,kz (c f args H l) (c' f args H l)
section
variable {cf Tl :tR} (hc:LeC cf Tl) {p:FuncId->Bool} {md:FuncId->Nat} {tQ:FuncId->Bool} {l:J2} {e:Nat}
include hc
def AE (k:Nat)(f:FuncId)(args:List c7)(st:I5):kz (C9 ⟨cf,p,md,tQ,l,e⟩ k f args st) (C9 ⟨Tl,p,md,tQ,l,e⟩ k f args st):=by
 unfold C9;simp only;split
 .cases h:cf f args st.H l with
  |none=>exact kz.no _
  |some r=>rw [hc _ _ _ _ _ h];exact kz.refl _
 .split
  .split
   .cases h:cf f args (List.take (E6 st.H l.strict 8 (A8 args)) st.H) { l with base:=E6 st.H l.strict 8 (A8 args),strict:=B5 st.H l.strict (E6 st.H l.strict 8 (A8 args)) } with
    |none=>exact kz.no _
    |some r=>rw [hc _ _ _ _ _ h];exact kz.refl _
   .cases h:cf f args (List.take (E6 st.H l.strict 8 (A8 args)) st.H) ⟨0,E6 st.H l.strict 8 (A8 args),E6 st.H l.strict 8 (A8 args),B5 st.H l.strict (E6 st.H l.strict 8 (A8 args))⟩ with
    |none=>exact kz.no _
    |some r=>rw [hc _ _ _ _ _ h];exact kz.refl _
   .cases h:cf f args (List.take (E6 st.H l.strict 8 (A8 args)) st.H) (l.jR (args.headD .any).J4 (E6 st.H l.strict 8 (A8 args)) (E6 st.H l.strict 8 (A8 args)) (B5 st.H l.strict (E6 st.H l.strict 8 (A8 args)))) with
    |none=>exact kz.no _
    |some r=>rw [hc _ _ _ _ _ h];exact kz.refl _
  .exact kz.no _
def Ue (j8:List o3)(A6:Option Nat)(k:Nat)(st:I5)(op:s8):kz (D3 ⟨cf,p,md,tQ,l,e⟩ j8 A6 k st op) (D3 ⟨Tl,p,md,tQ,l,e⟩ j8 A6 k st op):=by
 cases op
 case call f xs=>exact AE hc k f _ st
 case J8 sz len z ps b=>cases b<;>exact kz.refl _
 case X9 x xs =>
  simp [D3];split
  all_goals simp_all [AE,kz.no]
 all_goals exact kz.refl _
def Wa (j8:List o3)(A6:Option Nat)(k:Nat)(op:s8)(st:I5):kz (B8 ⟨cf,p,md,tQ,l,e⟩ j8 A6 k op st) (B8 ⟨Tl,p,md,tQ,l,e⟩ j8 A6 k op st):=by
 unfold B8;split
 .intro r hr
  cases hx:D3 ⟨cf,p,md,tQ,l,e⟩ j8 A6 k st op with
  |none=>simp_all
  |some x =>
   rw [hx] at hr;rw [Ue hc j8 A6 k st op _ hx];exact hr
 .exact kz.refl _
def Kx (j8:List o3)(A6:Option Nat)(k:Nat)(i:o3)(st:I5):kz (y3 ⟨cf,p,md,tQ,l,e⟩ j8 A6 k i st) (y3 ⟨Tl,p,md,tQ,l,e⟩ j8 A6 k i st):=by
 unfold y3;split
 .intro r hr
  cases hx:B8 ⟨cf,p,md,tQ,l,e⟩ j8 A6 k i.op st with
  |none=>simp_all
  |some x =>
   rw [hx] at hr;rw [Wa hc j8 A6 k i.op st _ hx];exact hr
 all_goals simp_all [kz.refl]
theorem Fe (j8:List o3):∀(is:List o3) (k:Nat) (st:I5),kz (iU ⟨cf,p,md,tQ,l,e⟩ j8 is k st) (iU ⟨Tl,p,md,tQ,l,e⟩ j8 is k st)
 |[],_,_=>kz.refl _
 |i::is,k,st=>by
  unfold iU;intro r hr;cases hx:y3 ⟨cf,p,md,tQ,l,e⟩ j8 K k i st with
  |none=>simp_all
  |some x =>
   rw [hx] at hr;rw [Kx hc j8 K k i st _ hx];exact Fe j8 is (k+1) x.1 r hr
def VZ (j8:List o3)(A6:Option Nat)(k:Nat)(i:o3)(st:I5):kz (ja ⟨cf,p,md,tQ,l,e⟩ j8 A6 k i st) (ja ⟨Tl,p,md,tQ,l,e⟩ j8 A6 k i st):=by
 unfold ja;split
 .exact kz.refl _
 .intro r hr
  cases hx:y3 ⟨cf,p,md,tQ,l,e⟩ j8 A6 k i st with
  |none=>simp_all
  |some x =>
   rw [hx] at hr;rw [Kx hc j8 A6 k i st _ hx];exact hr
theorem BR (j8:List o3):∀(is:List o3) (k na:Nat) (st:I5),kz (Q1 ⟨cf,p,md,tQ,l,e⟩ j8 is k na st) (Q1 ⟨Tl,p,md,tQ,l,e⟩ j8 is k na st)
 |[],_,_,_=>kz.refl _
 |i::is,k,na,st=>by
  unfold Q1;intro r hr;cases hx:ja ⟨cf,p,md,tQ,l,e⟩ j8 (if i.op.y7 then J na else K) k i st with
  |none=>simp_all
  |some x =>
   rw [hx] at hr;rw [VZ hc j8 _ k i st _ hx];simp at hr ⊢;cases hy:Q1 ⟨cf,p,md,tQ,l,e⟩ j8 is (k+1) (if i.op.y7 then na+1 else na) x.1 with
   |none=>simp_all
   |some y =>
    rw [hy] at hr;rw [BR j8 is (k+1) _ x.1 _ hy];exact hr
def uP (j8:List o3)(draw:Bool)(T:List c7)(H:j9):kz (T9 ⟨cf,p,md,tQ,l,e⟩ j8 draw T H) (T9 ⟨Tl,p,md,tQ,l,e⟩ j8 draw T H):=by
 unfold T9;split
 .intro r hr
  cases hx:Q1 ⟨cf,p,md,tQ,l,e⟩ j8 j8 0 (O H) ⟨T,H++Y7 j8,List.replicate (O j8) .any,slotsOf j8⟩ with
  |none=>simp_all
  |some x =>
   rw [hx] at hr;rw [BR hc j8 j8 0 _ _ _ hx];exact hr
 simp_all [Fe]
end
theorem JH {body body' :St->Option (J6×St)}(hb:∀st,kz (body st) (body' st))(mask:List Bool)(strict n:Nat):∀(k k' :Nat) (_:k<=k') (st:St),kz (mL body mask strict n k st) (mL body' mask strict n k' st)
 |0,_,_,_=>kz.no _
 |k+1,0,h,_=>V
 |k+1,k' +1,h,st=>by
  unfold mL;intro r hr;cases hx:body (clean mask strict n st) with
  |none=>simp_all
  |some x =>
   rw [hx] at hr;rw [hb _ _ hx];obtain ⟨x1,x2⟩:=x;cases x1 with
   |normal=>exact JH hb mask strict n k k' V x2 r hr
   |exit i=>exact hr
   |ret=>exact hr
theorem ig {cf Tl :tR}(hc:LeC cf Tl){p:FuncId->Bool}{md:FuncId->Nat}{tQ:FuncId->Bool}{l:J2}{e n n' :Nat}(hn:n<=n'):∀(c:p7) (st:St),kz (exec ⟨cf,p,md,tQ,l,e⟩ n c st) (exec ⟨Tl,p,md,tQ,l,e⟩ n' c st)
 | .skip,_=>kz.refl _
 | .exit _,_=>kz.refl _
 | .ret,_=>kz.refl _
 | .bad,_=>kz.refl _
 | .fz _,_=>kz.refl _
 | .region ops draw,st=>by
  unfold exec;intro r hr;cases hx:T9 ⟨cf,p,md,tQ,l,e⟩ ops draw st.T st.H with
  |none=>simp_all
  |some x =>
   rw [hx] at hr;rw [uP hc ops draw st.T st.H _ hx];exact hr
 | .seq a b,st=>by
  unfold exec;intro r hr;cases hx:exec ⟨cf,p,md,tQ,l,e⟩ n a st with
  |none=>simp_all
  |some x =>
   rw [hx] at hr;rw [ig hc hn a st _ hx];obtain ⟨x1,x2⟩:=x;cases x1 with
   |normal=>exact ig hc hn b x2 r hr
   |exit i=>exact hr
   |ret=>exact hr
 | .cond c a b,st=>by
  unfold exec;split
  .exact ig hc hn a st
  .exact ig hc hn b st
  .exact kz.refl _
 | .test ops draw c a b,st=>by
  unfold exec;intro r hr;cases hx:T9 ⟨cf,p,md,tQ,l,e⟩ ops draw st.T st.H with
  |none=>simp_all
  |some x =>
   rw [hx] at hr;rw [uP hc ops draw st.T st.H _ hx];simp at hr ⊢;split at hr
   .exact ig hc hn a _ r hr
   .exact ig hc hn b _ r hr
   .cases hr
 | .block id body,st=>by
  unfold exec;intro r hr;cases hx:exec ⟨cf,p,md,tQ,l,e⟩ n body st with
  |none=>simp_all
  |some x =>
   rw [hx] at hr;rw [ig hc hn body st _ hx];exact hr
 | .loop mask body,st=>by
  exact JH (λst=>ig hc hn body st) mask _ _ n n' hn st
theorem GO (A:Prog):∀(n n' :Nat),n<=n' ->LeC (call A n) (call A n')
 |0,_,_=>λ_ _ _ _=>kz.no _
 |n+1,0,h=>V
 |n+1,n' +1,h=>λf args H l=>by
  unfold call;split
  .exact kz.refl _
  .split
   next af _=>
    unfold iA;split
    .intro r hr
     cases hx:exec ⟨call A n,A.prom,A.mode,A.idle,l,O H⟩ n af.body ⟨args++List.replicate (O af.names - O args) .any,H⟩ with
     |none=>simp_all
     |some x =>
      rw [hx] at hr;rw [ig (GO A n n' V) V _ _ _ hx];exact hr
    .exact kz.no _
   .exact kz.refl _
def Pf.Zp {A:Prog}{n:Nat}{f:FuncId}{args:List c7}{v:c7}(h:call A n f args [] R5=J (v,[])):Pf A f args v :=
 ⟨n,λm hm=>GO A n m hm f args [] R5 _ h⟩
open Go.ChangeShapes Go.WideShapes Go.ChangeAt Go.RowKit
section
variable {H:Type} {enc:TypeId×Value->H} {P:Program} {w:World} {held:Bool} {base:Nat} {spare:Nat->Bool}
def Wq {t e:TypeId}{fuel:Nat}{a:Addr}{len cap:Nat}{x:DataW H×List MemPlace}(hu:P.underlying t=J (.slice e))(h:DataW.trod enc P w base spare held fuel t [.slice (J a) len cap]=J x):∃elems rest,x.1= .slice elems rest/\O elems=len:=by
 cases fuel with
 |zero=>simp [DataW.trod] at h
 |succ fuel =>
  unfold DataW.trod at h
  grind [Option.bind_eq_some_iff,Option.map_eq_some_iff,List.length_map,jv,List.length_range]
def Szd (P:Program)(ts:List TypeId)(as:List c7):Prop:=∀(j:Nat) (t e:TypeId) (n:Nat) (cells:List Data),ts[j]? =J t->P.underlying t=J (.slice e)->as[j]? =J (.d (.slice n cells))->n * P.bytesOf e<=reachBytes
theorem Wi:∀(ts:List TypeId) (vs:List Value) (ds:List (DataW H)) (ps:List MemPlace) (as:List c7),DataW.TrodAll enc P w base spare held ts vs ds ps->K1 (G0 w) I0 N0 w as vs->(DataW.weightsEach P ts ds).all (·<=reachBytes)=W->Szd P ts as
 |[],_,_,_,_,_,_,_=>λj t e n cells ht=>by simp at ht
 |t::ts,vs,ds,ps,as,h,hv,hs=>λj t' e n cells ht hu ha=>by
  obtain ⟨v,vs1,d,ds1,a,b,rfl,rfl,rfl,h1,h2⟩:=Go.ChangeShapes.trodAll_cons h;cases as with
  |nil=>simp at ha
  |cons a0 as =>
   obtain ⟨v',xs,e1,hv1,hv2⟩:=hv;cases e1;simp only [DataW.weightsEach,List.all_append,Bool.and_eq_true] at hs;cases j with
   |succ j=>exact Wi ts _ _ _ as h2 hv2 hs.2 j t' e n cells M hu M
   |zero =>
    simp [List.getElem?_cons_zero,Option.some.injEq] at ht ha;subst ht ha
    rcases hv1 with ⟨_,rfl,_⟩|⟨bb,o,cap,rfl,_,_⟩
    .simp
    .obtain ⟨fuel,hf⟩:=h1
     obtain ⟨elems,rest,e2,e3⟩:=Wq hu hf;have:=sized_slice (ts:=[t]) (ds:=[.slice elems rest]) (by simp_all [DataW.weightsEach,List.all_append,Bool.and_eq_true]) (j:=0) rfl rfl hu
     grind
end
def DD {H:Type}{enc:TypeId×Value->H}{P:Program}{A:Prog}(hok:sJ P A){fid:FuncId}{f:Func}{s:ChangeSpec}(hvars:s.vars=[]){tb:TypeId}(UH:f.resultTypes= #[tb])(htb:P.underlying tb=J .bool)
  {ls:List (List CT)} (Sc:GA P f.params.toList ls=W) {d5:World} {base:Nat} {args:Array Value} {ds gs:List (DataW H)} {before:List MemPlace} {r:Reach}
  (hfn:s.fn H ds={ results:=[.lit (.bool W)],args:=ds })
  (hval:∀(j:Nat) t v,f.params[j]? =J t->args[j]? =J v->Value.okWide P d5 r base t v) (hW:DataW.Whole enc P f.params.toList s.vars F d5 args.toList ds gs before)
  (hsz:(DataW.weightsEach P (f.params.toList++s.plain.varTypes P) (ds++gs)).all (·<=reachBytes)=W)
  (aF7:∀as,qK P f.params.toList ls as->Szd P f.params.toList as->∃n,call A n fid as [] R5=J (.d (.bool W),[])) :
  Calls P fid args d5 λe W' =>∃v,e= .returned v/\s.post enc P f F W F F d5 args v W' :=by
 have hW' :=hW;obtain ⟨p,q,hA,hV,rfl,hfz,hnd⟩:=hW;rw [hvars] at hV;obtain ⟨rfl,rfl⟩:=trodVars_none hV;have bl5 :(DataW.weightsEach P f.params.toList ds).all (·<=reachBytes)=W:=by
  simp_all [ChangeSpec.plain,DataSpec.varTypes,List.append_nil]
 obtain ⟨⟨as,a1,a2⟩,a3⟩:=Oi f.params.toList ls args.toList ds p Sc (λj t v ht hv=>hval j t v M M) hA;obtain ⟨n,hn⟩:=aF7 as a1 (Wi _ _ _ _ _ hA a2 bl5);refine (Sr hok hn a2).mono ?_;rintro e W' ⟨rfl,hK⟩;have aD5 :s.fn H (ds++[])={ results:=[.lit (.bool W)],args:=ds }:=M
 refine ⟨_,rfl,SH (pa:=p) (pv:=[]) hW' hK (λb sp hd=>?_) (λsp hsp=>?_) (λsp _=>?_) rfl (λj t v ht hv=>?_)⟩
 .rw [aD5,UH]
  exact trodAll_cons_mk (shut_bool htb _) trodAll_mk0
 .simp_all
 .rw [aD5,hvars]
  rfl
 grind [Value.resultList,okWide_bool_mk]
end Go.A5


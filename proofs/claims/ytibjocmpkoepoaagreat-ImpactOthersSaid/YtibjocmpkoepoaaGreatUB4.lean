import Derived.Test.YtibjocmpkoepoaaGreatUB2
import Derived.Defers
import Derived.Recover
import Derived.ChangeSame
import Derived.ProofKit
import Derived.OpenShut
import Derived.SizedLaws
set_option linter.all false
open Bool renaming false_eq_true→j6,true→W,false→F
open List renaming getElem?_append_left→s9,getElem?_append_right→s5,getElem?_eq_getElem→n9,getElem_of_mem→E9,map_cons→E8,mem_append→A5,replicate_succ→L3,length→O
open Nat renaming add_assoc→K1,le_of_ble_eq_true→j4,le_refl→j9,le_trans→p7,lt_or_ge→y7
open Option renaming map_some→B6,some→J,none→K
namespace Go.y9
variable [D2]
def G6.wK:G6->Exit
 | .normal=> .normal
 | .exit id=> .exit id
 | .ret=> .ret
def uE (P:Program)(names:List Tmp)(ops:Array Oper)(n:Nat)(c' :Operand)(c:A3):Bool:=Cx.ck ⟨P,names,ops⟩ (λj=>decide (j<n)) c' c
def U1 (P:Program)(names:List Tmp)(nt:Nat):Code->K7->Bool
 |c,.seq (.fz _) k=>U1 P names nt c k
 | .skip,.skip=>W
 | .region _ ops d',.region j8 d=>d==d' &&bM P names nt ops j8 d
 | .seq (.region _ ops d') (.seq (.cond c' x' y') z'),.seq (.test j8 d c x y) k =>
  d==d' &&bM P names nt ops j8 d&&uE P names ops (O j8) c' c&&U1 P names nt x' x&&U1 P names nt y' y&&U1 P names nt z' k
 | .seq (.region _ ops d') (.cond c' x' y'),.test j8 d c x y =>
  d==d' &&bM P names nt ops j8 d&&uE P names ops (O j8) c' c&&U1 P names nt x' x&&U1 P names nt y' y
 | .seq (.region i ops d') (.seq (.cond c' x' y') z'),.seq (.seq (.region j8 d) (.cond c x y)) k =>
  U1 P names nt (.region i ops d') (.region j8 d)&&U1 P names nt (.cond c' x' y') (.cond c x y)&&U1 P names nt z' k
 | .seq x' y',.seq x y=>U1 P names nt x' x&&U1 P names nt y' y
 | .cond c' x' y',.cond c x y=>uE P names #[] 0 c' c&&U1 P names nt x' x&&U1 P names nt y' y
 | .block id' b',.block id b=>id' ==id&&U1 P names nt b' b
 | .loop b',.loop _ b=>U1 P names nt b' b
 | .exit id',.exit id=>id' ==id
 | .ret,.ret=>W
 |_,.bad=>W
 |_,_=>F
theorem lK:∀(m:List Bool) (T:List c7) (s:Nat),(P8 m T).getD s .any=T.getD s .any\/(P8 m T).getD s .any= .any
 |[],[],s=>by simp [P8]
 |[],v::vs,0=>by simp [P8]
 |[],v::vs,s+1=>by simpa [P8] using lK [] vs s
 |b::m,[],s=>by simp_all [P8]
 |true::m,v::vs,0=>by simp [P8]
 |false::m,v::vs,0=>by simp [P8]
 |true::m,v::vs,s+1=>by simpa [P8] using lK m vs s
 |false::m,v::vs,s+1=>by simpa [P8] using lK m vs s
theorem iI:∀(m:List Bool) (T:List c7),O (P8 m T)=O T
 |[],[]=>by simp [P8]
 |[],v::vs=>by simpa [P8] using iI [] vs
 |b::m,[]=>by simp_all [P8]
 |true::m,v::vs=>by simpa [P8] using iI m vs
 |false::m,v::vs=>by simpa [P8] using iI m vs
def least {p:Nat->Prop}(h:∃m,p m):∃m,p m/\∀k,p k->m<=k:=by
 obtain ⟨m,hm⟩:=h
 induction m using Nat.strongRecOn with
 |_ m ih =>
  grind
def SE {α β:Type}(d3:Nat->α->β->Prop):∃μ:α->β->Nat,∀a b,(∃m,d3 m a b)->d3 (μ a b) a b/\∀k,d3 k a b->μ a b<=k:=by
 have:∀a b,∃m,(∃m,d3 m a b)->d3 m a b/\∀k,d3 k a b->m<=k:=by
  intro a b
  by_cases h:∃m,d3 m a b
  all_goals simp_all [least,absurd]
 exact ⟨λa b=>Classical.choose (this a b),λa b=>Classical.choose_spec (this a b)⟩
section
variable {P:Program} {names:List Tmp} {E:Env} {nt:Nat}
def BO {st:St}{a:Act}{w:World}{G:Gh}{I:O5}{N:Nat->Prop}(h:Cd P names E nt st a w G I N)(mask:List Bool){n:Nat}(hn:E.entry<=n) :
  ∃N',Cd P names E nt (clean mask E.lim.strict n st) a w G I N' /\W2 E st.H w G I N (clean mask E.lim.strict n st).H w G I N' :=by
 have hT:∀(s:Nat) t,names[s]? =J t->VR G I N w (.slot s) ((P8 mask st.T).getD s .any) (a.tmps.getD t undef):=by
  intro s t ht
  rcases lK mask st.T s with e|e
  .rw [e];exact h.T s t ht
  simp_all [VR]
 unfold clean;split
 next hc=>
  refine ⟨λi=>N i/\i<n,⟨λs t ht=>VR.low n _ _ _ ?_ (hT s t ht),λid o ho=>?_,h.wf,λid o ho=>?_,?_,λid hid=>?_,?_,h.size,h.idle⟩,?_⟩
  .cases hg:(P8 mask st.T)[s]? with
   |none=>simp [hg,c7.F4]
   |some v =>
    have:=jW _ _ _ hg
    grind
  .have hlt:id<n:=by grind
   rw [List.getElem?_take_of_lt hlt] at ho;exact OR.low hlt o (qZ h.Q7 hc.2 hlt ho) (h.H id o ho)
  .have hlt:id<n:=by grind
   rw [List.getElem?_take_of_lt hlt] at ho;exact h.Q7 id o ho
  .simp [iI];exact h.U2
  .have:=h.Y8 id hid.1
   simp;omega
  .have:=h.Aj
   simp;omega
  .refine ⟨Ext.refl _ _,hU.refl _ _ _,λ_ _ _=>rfl,λid hid hN=>⟨hN,V⟩,λid _ hN=>hN.1,λid o' _ ho=>?_⟩
   grind
 .exact ⟨N,⟨hT,h.H,h.wf,h.Q7,by simp [iI];exact h.U2,h.Y8,h.Aj,h.size,h.idle⟩,W2.refl _ _ _ _ _ _⟩
def Sound (P:Program)(names:List Tmp)(nt:Nat)(E:Env)(C:Code)(run:St->Option (G6×St)):Prop :=
 ∀st x st' a w G I N,run st=J (x,st')->Cd P names E nt st a w G I N->∀Q:Exit->Act->World->Prop,
  (∀a' w' G' I' N',Cd P names E nt st' a' w' G' I' N' ->xe E st.H w G I N st'.H w' G' I' N' ->Q x.wK a' w')->C.wp P Q a w
def wJ {X:Cx}{j8:List x9}{S:Nat->Prop}{r:F5}{a:Act}{w:World}{G:Gh}{I:O5}{N:Nat->Prop}{d9:Nat->Bool}(h:Rg X j8 E nt S r a w G I N)(hD:∀j,d9 j=W->S j){c' :Operand}{c:A3}(hc:X.ck d9 c' c=W){b:Bool}
  (hv:F1 r.T r.L c= .d (.bool b)):a.eval c' = .bool b:=by
 have:=h.ri.M9 hD c' c hc;simp_all [VR,DR]
def uI {st:St}{a:Act}{w:World}{G:Gh}{I:O5}{N:Nat->Prop}(h:Cd P names E nt st a w G I N){c' :Operand}{c:A3}(hc:uE P names #[] 0 c' c=W){b:Bool}(hv:F1 st.T [] c= .d (.bool b)):a.eval c' = .bool b:=by
 have hR:Rg ⟨P,names,#[]⟩ [] E nt (λ_=>False) ⟨st.T,st.H,[],[]⟩ a w G I N:=h.start _ rfl (λ_ h=>h) [] U U rfl [];exact wJ hR (d9:=λj=>decide (j<0)) (λj hj=>by simp at hj) hc hv
def andThen (rx ry:St->Option (G6×St)):St->Option (G6×St):=λst=>match rx st with
 |some (.normal,st')=>ry st'
 |r=>r
def wC {x y:Code}{rx ry:St->Option (G6×St)}(hx:Sound P names nt E x rx)(hy:Sound P names nt E y ry)
  {st:St} {e:G6} {st' :St} {a:Act} {w:World} {G:Gh} {I:O5} {N:Nat->Prop} (hrun:andThen rx ry st=J (e,st')) (h:Cd P names E nt st a w G I N) (Q:Exit->Act->World->Prop)
  (hQ:∀a' w' G' I' N',Cd P names E nt st' a' w' G' I' N' ->xe E st.H w G I N st'.H w' G' I' N' ->Q e.wK a' w'):x.wp P (Exit.then (y.wp P Q) Q) a w:=by
 unfold andThen at hrun;split at hrun
 next st1 h1=>
  refine hx st .normal st1 a w G I N h1 h _ ?_;intro a1 w1 G1 I1 N1 hc hs;simp only [G6.wK,Exit.then];refine hy st1 e st' a1 w1 G1 I1 N1 hrun hc Q ?_;intro a2 w2 G2 I2 N2 oG hs2;exact hQ a2 w2 G2 I2 N2 oG (hs.trans hs2)
 next hne=>
  refine hx st e st' a w G I N hrun h _ ?_;intro a1 w1 G1 I1 N1 hc hs;have:=hQ a1 w1 G1 I1 N1 hc hs;cases e with
  |normal=>exact absurd hrun (hne st')
  |exit id=>exact this
  |ret=>exact this
def ru {x y:Code}{rx ry:St->Option (G6×St)}(hx:Sound P names nt E x rx)(hy:Sound P names nt E y ry) :
  Sound P names nt E (.seq x y) (andThen rx ry) :=
 λ_ _ _ _ _ _ _ _ hrun h Q hQ=>wp_seq (wC hx hy hrun h Q hQ)
def xk (rx ry rz:St->Option (G6×St)):andThen (andThen rx ry) rz=andThen rx (andThen ry rz):=by
 grind [andThen]
def wB (hE:FT P E)(hn:gA names=W){ops:Array Oper}{j8:List x9}{d:Bool}{c:A3}{c' :Operand}(aj0:bM P names nt ops j8 d=W)(hck:uE P names ops (O j8) c' c=W)
  {st:St} {a:Act} {w:World} {G:Gh} {I:O5} {N:Nat->Prop} (h:Cd P names E nt st a w G I N) {r:F5} (hr:P0 E j8 d st.T st.H=J r) {b:Bool} (hv:F1 r.T r.L c= .d (.bool b)) (id:Nat) (Q:Exit->Act->World->Prop)
  (hQ:∀a' w' G' I' N',Cd P names E nt ⟨r.T,r.H⟩ a' w' G' I' N' ->xe E st.H w G I N r.H w' G' I' N' ->a'.eval c' = .bool b->Q .normal a' w'):(Code.region id ops d).wp P Q a w:=by
 refine pG hE hn aj0 h hr id Q ?_;intro a' w' G' I' N' hR hs;exact hQ a' w' G' I' N' (Cd.done rfl hR) hs.XK (wJ hR (d9:=λj=>decide (j<O j8)) (λj hj=>by simpa using hj) hck hv)
def FG {c:Code}{body:St->Option (G6×St)}(hb:Sound P names nt E c body)(mask:List Bool)(fuel:Nat) :
  Sound P names nt E (.loop c) (λst=>iG body mask E.lim.strict (O st.H) fuel st):=by
 intro st e st' a w G I N hrun h Q hQ;simp only at hrun;generalize hn:O st.H=n at hrun;have Sd:E.entry<=n:=by rw [<- hn];exact h.Aj
 let d3:Nat->Act->World->Prop:=λm a' w' =>∃st1 G1 I1 N1,iG body mask E.lim.strict n m st1=J (e,st')/\Cd P names E nt st1 a' w' G1 I1 N1/\xe E st.H w G I N st1.H w' G1 I1 N1
 obtain ⟨μ,VU⟩:=SE d3;refine wp_loop (I:=λa' w' =>∃m,d3 m a' w') (μ:=μ) ⟨fuel,st,G,I,N,hrun,h,xe.refl _ _ _ _ _ _⟩ ?_;intro a1 w1 hJ;obtain ⟨hm,hmin⟩:=VU a1 w1 hJ;generalize hμ:μ a1 w1=m at hm;obtain ⟨st1,G1,I1,N1,yJ,hc1,hs1⟩:=hm;cases m with
 |zero=>simp [iG] at yJ
 |succ m =>
  simp only [iG] at yJ;obtain ⟨N2,oG,hs2⟩:=BO hc1 mask Sd;split at yJ
  next st2 RV=>
   refine hb _ .normal st2 a1 w1 G1 I1 N2 RV oG _ ?_;intro a3 w3 G3 I3 N3 Qh hs3;simp only [G6.wK,Exit.then];have hJ3:d3 m a3 w3:=⟨st2,G3,I3,N3,yJ,Qh,(hs1.trans hs2.XK).trans hs3⟩;refine ⟨⟨m,hJ3⟩,?_⟩;exact Nat.lt_succ_of_le ((VU a3 w3 ⟨m,hJ3⟩).2 m hJ3)
  next hne=>
   refine hb _ e st' a1 w1 G1 I1 N2 yJ oG _ ?_;intro a3 w3 G3 I3 N3 Qh hs3;have:=hQ a3 w3 G3 I3 N3 Qh ((hs1.trans hs2.XK).trans hs3);cases e with
   |normal=>exact absurd yJ (hne st')
   |exit id=>exact this
   |ret=>exact this
def uV {lim:Nat}(x y:K7):exec E lim (.seq x y)=andThen (exec E lim x) (exec E lim y):=by
 rfl
def ET (hE:FT P E)(hn:gA names=W)(lim:Nat):∀(n:Nat) (c:K7) (C:Code),SizeOf.sizeOf c<n->U1 P names nt C c=W->Sound P names nt E C (exec E lim c):=by
 intro n
 induction n with
 |zero=>intro c C h;omega
 |succ n ih =>
 intro c C hsz hc;unfold U1 at hc;split at hc
 all_goals (try (cases hc;done))
 ·
  rename_i s k;simp only [K7.seq.sizeOf_spec] at hsz;have ik:=ih k C V hc;intro st e st' a w G I N hrun h Q hQ;simp only [exec] at hrun;cases hf:jN E.lim E.entry s st with
  |none=>rw [hf] at hrun;cases hrun
  |some st1 =>
   rw [hf] at hrun;obtain ⟨G1,I1,N1,h1,s1⟩:=RN h hf;exact ik st1 e st' a w G1 I1 N1 hrun h1 Q (λa' w' G' I' N' nR hs' =>hQ a' w' G' I' N' nR (s1.trans hs'))
 ·
  intro st e st' a w G I N hrun h Q hQ;simp only [exec] at hrun;cases hrun;exact wp_skip (hQ a w G I N h (xe.refl _ _ _ _ _ _))
 ·
  rename_i id ops d' j8 d;simp only [Bool.and_eq_true,beq_iff_eq] at hc;obtain ⟨rfl,hc⟩:=hc;intro st e st' a w G I N hrun h Q hQ;simp only [exec] at hrun;split at hrun
  next r hr=>
   cases hrun;refine pG hE hn hc h hr id Q ?_;intro a' w' G' I' N' hR hs;exact hQ a' w' G' I' N' (Cd.done rfl hR) hs.XK
  .cases hrun
 ·
  rename_i id ops d' c' x' y' z' j8 d c x y k;simp only [Bool.and_eq_true,beq_iff_eq] at hc;obtain ⟨⟨⟨⟨⟨rfl,h1⟩,h2⟩,h3⟩,h4⟩,h5⟩:=hc;simp only [K7.seq.sizeOf_spec,K7.test.sizeOf_spec] at hsz;have ix:=ih x x' V h3;have iy:=ih y y' V h4;have iz:=ih k z' V h5;intro st e st' a w G I N hrun h Q hQ;simp only [exec] at hrun;refine wp_seq ?_;cases hr:P0 E j8 d st.T st.H with
  |none=>rw [hr] at hrun;cases hrun
  |some r =>
   rw [hr] at hrun;simp only at hrun;have both:∀(b:Bool) (z:Code) (rz:St->Option (G6×St)),F1 r.T r.L c= .d (.bool b)->Sound P names nt E z rz->andThen rz (exec E lim k) ⟨r.T,r.H⟩=J (e,st')->(if b then x' else y')=z->(Code.region id ops d).wp P (Exit.then ((Code.seq (.cond c' x' y') z').wp P Q) Q) a w:=by
    intro b z rz hv hz Lc hbz;refine wB hE hn h1 h2 h hr hv id _ ?_;intro a' w' G' I' N' nR hs' hev;simp only [Exit.then];refine wp_seq (wp_cond hev ?_);rw [hbz];refine wC hz iz Lc nR Q ?_;intro a2 w2 G2 I2 N2 oG hs2;exact hQ a2 w2 G2 I2 N2 oG (hs'.trans hs2)
   cases hv:F1 r.T r.L c with
   |d v =>
    cases v with
    |bool b =>
     rw [hv] at hrun;cases b with
     |true=>exact both W x' _ hv ix hrun rfl
     |false=>exact both F y' _ hv iy hrun rfl
    |_=>rw [hv] at hrun;cases hrun
   |_=>rw [hv] at hrun;cases hrun
 ·
  rename_i id ops d' c' x' y' j8 d c x y;simp only [Bool.and_eq_true,beq_iff_eq] at hc;obtain ⟨⟨⟨⟨rfl,h1⟩,h2⟩,h3⟩,h4⟩:=hc;simp only [K7.test.sizeOf_spec] at hsz;have ix:=ih x x' V h3;have iy:=ih y y' V h4;intro st e st' a w G I N hrun h Q hQ;simp only [exec] at hrun;refine wp_seq ?_;cases hr:P0 E j8 d st.T st.H with
  |none=>rw [hr] at hrun;cases hrun
  |some r =>
   rw [hr] at hrun;simp only at hrun;have both:∀(b:Bool) (z:Code) (rz:St->Option (G6×St)),F1 r.T r.L c= .d (.bool b)->Sound P names nt E z rz->rz ⟨r.T,r.H⟩=J (e,st')->(if b then x' else y')=z->(Code.region id ops d).wp P (Exit.then ((Code.cond c' x' y').wp P Q) Q) a w:=by
    intro b z rz hv hz Lc hbz;refine wB hE hn h1 h2 h hr hv id _ ?_;intro a' w' G' I' N' nR hs' hev;simp only [Exit.then];refine wp_cond hev ?_;rw [hbz];refine hz _ e st' a' w' G' I' N' Lc nR Q ?_;intro a2 w2 G2 I2 N2 oG hs2;exact hQ a2 w2 G2 I2 N2 oG (hs'.trans hs2)
   cases hv:F1 r.T r.L c with
   |d v =>
    cases v with
    |bool b =>
     rw [hv] at hrun;cases b with
     |true=>exact both W x' _ hv ix hrun rfl
     |false=>exact both F y' _ hv iy hrun rfl
    |_=>rw [hv] at hrun;cases hrun
   |_=>rw [hv] at hrun;cases hrun
 ·
  rename_i i ops d' c' x' y' z' j8 d c x y k;simp only [Bool.and_eq_true] at hc;simp only [K7.seq.sizeOf_spec] at hsz;rw [uV,uV,xk];exact ru (ih (.region j8 d) _ V hc.1.1) (ru (ih (.cond c x y) _ V hc.1.2) (ih k z' V hc.2))
 ·
  rename_i x' y' x y _ _ _;simp only [Bool.and_eq_true] at hc;simp only [K7.seq.sizeOf_spec] at hsz;rw [uV];exact ru (ih x x' V hc.1) (ih y y' V hc.2)
 ·
  rename_i c' x' y' c x y;simp only [Bool.and_eq_true] at hc;simp only [K7.cond.sizeOf_spec] at hsz;intro st e st' a w G I N hrun h Q hQ;simp only [exec] at hrun;split at hrun
  next hv=>
   exact wp_cond_true (uI h hc.1.1 hv) (ih x x' V hc.1.2 st e st' a w G I N hrun h Q hQ)
  next hv=>
   exact wp_cond_false (uI h hc.1.1 hv) (ih y y' V hc.2 st e st' a w G I N hrun h Q hQ)
  .cases hrun
 ·
  rename_i id' b' id b;simp only [Bool.and_eq_true,beq_iff_eq] at hc;obtain ⟨rfl,hc⟩:=hc;simp only [K7.block.sizeOf_spec] at hsz;have ib:=ih b b' V hc;intro st e st' a w G I N hrun h Q hQ;simp only [exec] at hrun;refine wp_block ?_;split at hrun
  next i1 st1 h1=>
   refine ib st (.exit i1) st1 a w G I N h1 h _ ?_;intro a' w' G' I' N' nR hs';simp only [G6.wK,Exit.inBlock];split at hrun
   next he=>
    cases hrun;rw [if_pos he];exact hQ a' w' G' I' N' nR hs'
   next he=>
    cases hrun;rw [if_neg he];exact hQ a' w' G' I' N' nR hs'
  next hne=>
   refine ib st e st' a w G I N hrun h _ ?_;intro a' w' G' I' N' nR hs';have:=hQ a' w' G' I' N' nR hs';cases e with
   |normal=>exact this
   |exit i=>exact absurd hrun (hne i st')
   |ret=>exact this
 ·
  rename_i b' mask b;simp only [K7.loop.sizeOf_spec] at hsz;exact FG (ih b b' V hc) mask lim
 ·
  rename_i id' id;intro st e st' a w G I N hrun h Q hQ;simp only [beq_iff_eq] at hc;subst hc;simp only [exec] at hrun;cases hrun;exact wp_exit (hQ a w G I N h (xe.refl _ _ _ _ _ _))
 ·
  intro st e st' a w G I N hrun h Q hQ;simp only [exec] at hrun;cases hrun;exact wp_ret (hQ a w G I N h (xe.refl _ _ _ _ _ _))
 ·
  intro st e st' a w G I N hrun h Q hQ;simp only [exec] at hrun;cases hrun
end
end Go.y9
namespace Go.y9
variable [D2]
def freeze (G:Gh)(n:Nat):Gh:=λb =>
 match G b with
 | .obj id=>if n<=id then .gO else .obj id
 |x=>x
section
variable {P:Program} {G:Gh} {I:O5} {N:Nat->Prop} {w:World} {n:Nat}
def Er {b o:Nat}(h:eT G b o):eT (freeze G n) b o:=by
 grind [eT,freeze]
def ny:Ext G w (freeze G n) w where
 os:=rfl
 tape:=rfl
 output:=rfl
 drawn _:=j9 _
 size:=j9 _
 gO b o h:=⟨Er h,rfl⟩
 still b h:=⟨by grind [freeze],rfl⟩
 shape _ c _ _ h:=⟨c,h,rfl⟩
def jf (q:Place):X7 q G w (freeze G n) w:=λb m hb=>⟨by simp [freeze,hb],rfl⟩
def vh {b id:Nat}(h:id<n)(hb:G b= .obj id):freeze G n b= .obj id:=by simp_all [freeze,if_neg]
def Im (h:WF G w):WF (freeze G n) w:=λb hb=>by simp [freeze,h b hb]
theorem yD {pl:Place}{a:c7}{x:Value}(h:VR G I N w pl a x):VR (freeze G n) I N w pl a x :=
 VR.mono ny.sub (λ_ _=>rfl) (λ_ h=>h) _ _ _ (Or.inr (jf pl)) h
theorem NJ {pl:Place}{a:c7}{d:Data}{x:Value}(h:a.data? =J d)(hv:VR G I N w pl a x):DR G w d x:=by
 unfold c7.data? at h;split at h
 .simp_all [VR]
 .have:=hv.I7 (tK := .none)
  simp_all [c7.I7,VR]
 .have:=hv.I7 (tK := .none)
  simp_all [c7.I7,VR]
 .cases h
theorem yo:∀(cs:List c7) (xs:List Data),H7 cs=J xs->O xs=O cs/\∀(i:Nat) x,xs[i]? =J x->∃a,cs[i]? =J a/\a.data? =J x
 |[],xs,h=>by simp_all [H7]
 |c::cs,xs,h=>by
  unfold H7 at h;split at h
  .split at h
   next ys hys=>
    obtain ⟨g1,g2⟩:=yo cs ys hys
    grind
   .cases h
  .cases h
theorem lH {H:k9}(hH:HR G I N w H):∀(fuel:Nat) (as bs:List c7),X6 H n fuel as=J bs->O bs=O as/\∀(i:Nat) a pl x,as[i]? =J a->VR G I N w pl a x->∃b,bs[i]? =J b/\VR (freeze G n) I N w pl b x
 |0,as,bs,h=>by simp [X6] at h
 |fuel+1,[],bs,h=>by
  simp_all [X6]
 |fuel+1,v::vs,bs,h=>by
  simp [X6] at h;split at h
  .cases h
  next ws hws=>
   obtain ⟨l1,l2⟩:=lH hH fuel vs ws hws;have fin:∀(u:c7),(∀pl x,VR G I N w pl v x->VR (freeze G n) I N w pl u x)->bs=u::ws->O bs=O (v::vs)/\∀(i:Nat) a pl x,(v::vs)[i]? =J a->VR G I N w pl a x->∃b,bs[i]? =J b/\VR (freeze G n) I N w pl b x:=by
    grind
   have ba4:∀(l l' :List c7),X6 H n fuel l=J l' ->∀xs,H6 G I N w l xs->H6 (freeze G n) I N w l' xs:=by
    intro l l' hl xs hx;obtain ⟨m1,m2⟩:=lH hH fuel l l' hl;have hlen:=H6.length _ _ hx
    grind [O8,y8,n9,H6.get]
   split at h
   next id sz lo len=>
    split at h
    .grind [yD]
    .split at h
     next us Ue=>
      split at h
      next us' ak2=>
       split at h
       next xs hxs=>
        cases h;refine fin _ (λpl x hv=>?_) rfl;simp only [VR] at hv ⊢;obtain ⟨hN,cap,rfl,hcap,c,e,f,hc,hsz⟩:=hv;refine Or.inr ⟨(I id).1,(I id).2+lo,cap,rfl,hcap,?_⟩;obtain ⟨d1,d2⟩:=yo us' xs hxs;obtain ⟨m1,m2⟩:=lH hH fuel us us' ak2;refine uh _ xs λi y hi=>?_
        have hpos:0<len * sz:=by
         all_goals grind [rd,y8]
        obtain ⟨_,zs,g1,g2,g3,g4⟩:=hH.rd Ue hpos;have sr:i<len * sz:=by grind
        have Cp:G (I id).1= .obj id:=by
         unfold rd at Ue;split at Ue
         next l0 hl0=>
          have:=hH id _ hl0
          grind [OR]
         .cases Ue
        refine ⟨?_,?_⟩
        .simp_all [freeze,if_pos,eT]
        .have hz:zs[i]? =J zs[i]:=n9 V
         have hu:us[i]? =J us[i]:=n9 V
         grind [NJ]
       .cases h
      .cases h
     .cases h
   .grind [VR]
   all_goals grind [VR,yD]
end
def cA (P:Program)(names:List Tmp):List ResultVar->List Eo->Bool
 |[],[]=>W
 | .tmp t::r,.slot s::q=>names[s]? ==J t&&cA P names r q
 | .cell a t::r,.cell s n::q=>names[s]? ==J a&&nF P t n&&cA P names r q
 |_,_=>F
def nM (tmps:Array Value):ResultVar->Sem Value
 | .tmp t=>pure (tmps.getD t undef)
 | .cell a t=>do loadVar t (<- asAddr (tmps.getD a undef))
section
variable {P:Program} {names:List Tmp} {E:Env} {nt:Nat} {st:St} {a:Act} {w:World} {G:Gh} {I:O5} {N:Nat->Prop}
def Pj (h:Cd P names E nt st a w G I N){rv:ResultVar}{ar:Eo}(hc:cA P names [rv] [ar]=W){v:c7}(hv:jq st.T st.H ar=J v):∃x s,(nM a.tmps rv).run P w= .ok x w/\VR G I N w (.slot s) v x:=by
 cases rv with
 |tmp t =>
  cases ar with
  |slot s =>
   simp only [cA,Bool.and_eq_true,beq_iff_eq] at hc;simp [jq] at hv;have:=h.T s t hc.1;simp_all [nM]<;>grind
  |cell s n=>simp [cA] at hc
 |cell t ty =>
  cases ar with
  |slot s=>simp [cA] at hc
  |cell s n =>
   simp only [cA,Bool.and_eq_true,beq_iff_eq] at hc;obtain ⟨⟨h1,h2⟩,_⟩:=hc;cases n with
   |none =>
    simp [jq] at hv;split at hv
    next id off hT=>
     split at hv
     next u hu=>
      cases hv;have hp:=h.T s t h1;rw [Y3 hT] at hp;simp [VR] at hp;obtain ⟨_,xs,g1,_,g3,g4⟩:=h.H.rd hu V;obtain ⟨z,rfl⟩:∃z,xs=[z]:=List.length_eq_one_iff.1 g1;have hz:=g3 0 z rfl;have hvz:=g4 0 u z rfl rfl;have ha:aI P ty=J F:=by simp_all [nF]
      refine ⟨z,s,?_,hvz.I7⟩;simp_all [nM,asAddr,loadVar,Z4]
     .cases hv
    .cases hv
   |some n =>
    simp [jq] at hv;split at hv
    next id off hT=>
     split at hv
     next us hu=>
      cases hv;have hp:=h.T s t h1;rw [Y3 hT] at hp;simp [VR] at hp;have ha:aI P ty=J W/\P.cellsOf ty=n/\0<n:=by simp_all [nF,and_assoc]
      obtain ⟨_,xs,g1,g2,g3,g4⟩:=h.H.rd hu ha.2.2;have hs:(sizeOf ty).run P w= .ok n w:=by
       grind [run_sizeOf,aI,info_of_underlying]
      have hl:=run_loadCells_list (P:=P) w (ad (I id).1 ((I id).2+off)) xs (λj v hj=>by simp_all [W3]);refine ⟨.agg xs.toArray,s,?_,?_⟩
      .simp_all [nM,asAddr,loadVar,Z4]
      .refine ⟨_,rfl,O8 _ _ (by simp [g1,g2]) λj b v hj hv=>?_⟩
       simp at hj hv;obtain ⟨b',hb',rfl⟩:=hj;exact (g4 j b' v hb' hv).I7
     .cases hv
    .cases hv
theorem Hq (h:Cd P names E nt st a w G I N):∀(XA:List ResultVar) (Nz:List Eo) (vs:List c7),cA P names XA Nz=W->V2 st.T st.H Nz=J vs ->
  ∃xs:List Value,(XA.mapM (nM a.tmps)).run P w= .ok xs w/\O xs=O vs/\∀(i:Nat) v x,vs[i]? =J v->xs[i]? =J x->∃s,VR G I N w (.slot s) v x
 |[],Nz,vs,hc,hv=>by
  cases Nz with
  |cons _ _=>simp [cA] at hc
  |nil =>
   simp_all [V2]
 |rv::XA,Nz,vs,hc,hv=>by
  cases Nz with
  |nil=>simp_all [cA]
  |cons ar Nz =>
   have hc1:cA P names [rv] [ar]=W/\cA P names XA Nz=W:=by
    cases rv<;>cases ar<;>simp_all [cA]
   simp [V2] at hv;split at hv
   next v Qu=>
    split at hv
    next vs' hvs=>
     obtain ⟨x,s,h1,h2⟩:=Pj h hc1.1 Qu;obtain ⟨xs,h3,h4,h5⟩:=Hq h XA Nz vs' hc1.2 hvs;simp_all<;>grind
    .cases hv
   .cases hv
end
end Go.y9
namespace Go.y9
variable [D2]
structure dX (w w' :World):Prop where
 heap:w'.heap=w.heap
 os:w'.os=w.os
 tape:w'.tape=w.tape
 output:w'.output=w.output
 drawn:w.drawn<=w'.drawn
theorem dX.refl (w:World):dX w w:=⟨rfl,rfl,rfl,rfl,j9 _⟩
theorem dX.trans {w w1 w2:World}(h:dX w w1)(k:dX w1 w2):dX w w2:=⟨k.heap.trans h.heap,k.os.trans h.os,k.tape.trans h.tape,k.output.trans h.output,p7 h.drawn k.drawn⟩
theorem dX.ext {G:Gh}{w w' :World}(h:dX w w'):Ext G w G w' where
 os:=h.os
 tape:=h.tape
 output:=h.output
 drawn _:=h.drawn
 size:=by rw [h.heap];exact j9 _
 gO b o hi:=⟨hi,fh h.heap _⟩
 still b _:=⟨rfl,by rw [h.heap]⟩
 shape b c e f hc:=⟨c,by rw [h.heap];exact hc,rfl⟩
def dX.keeps {G:Gh}{w w' :World}(h:dX w w')(q:Place):X7 q G w G w' :=λb n hb=>⟨hb,by rw [h.heap]⟩
def Idle (P:Program)(f:FuncId):Prop :=
 P5 P f=W/\∀args w,CallsD P f args .returning w λe u' w' =>(∃v,e= .returned v)/\u' = .returning/\dX w w'
section
variable {P:Program} {names:List Tmp} {E:Env} {nt:Nat} {st:St} {a:Act} {w w' :World} {G:Gh} {I:O5} {N:Nat->Prop}
def Cd.same (h:Cd P names E nt st a w G I N)(hw:dX w w'):Cd P names E nt st a w' G I N where
 T s t ht:=VR.mono hw.ext.sub (λ_ _=>rfl) (λ_ h=>h) _ _ _ (Or.inr (hw.keeps _)) (h.T s t ht)
 H id o ho:=OR.mono hw.ext.sub (λ_ _=>rfl) (λ_ h=>h) id o (λh=>⟨h,by rw [hw.heap]⟩) (λ_=>hw.keeps _) (h.H id o ho)
 wf b hb:=h.wf b (by rw [<- hw.heap];exact hb)
 Q7:=h.Q7
 U2:=h.U2
 Y8:=h.Y8
 Aj:=h.Aj
 size:=h.size
 idle:=h.idle
def W2.same {H0 H:k9}{w0:World}{G0:Gh}{I0:O5}{N0:Nat->Prop}(h:W2 E H0 w0 G0 I0 N0 H w G I N)(hw:dX w w'):W2 E H0 w0 G0 I0 N0 H w' G I N :=
 h.trans ⟨hw.ext,λid _=>⟨λb hb=>⟨hb,by rw [hw.heap]⟩,λ_=>hw.keeps _⟩,λ_ _ _=>rfl,λ_ _ h=>h,λ_ _ h=>h,λ_ o _ ho=>Or.inr ⟨o,ho,j9 _⟩⟩
theorem sD {idle:FuncId->Bool}(yF:∀f,idle f=W->Idle P f){fn:Func}{tmps:Array Value}{R:Ending->World->Prop}:∀(ds:List Deferred) (w:World),(∀d,d∈ds->Bs P idle d) ->
  (∀w',dX w w' ->∃v,(results fn tmps).run P w' = .ok v w' /\R (.returned v) w')->Leaves P fn tmps R ds .returning w
 |[],w,_,h=>h w (dX.refl w)
 |d::ds,w,hd,h=>by
  obtain ⟨f,cap,h1,h2⟩:=hd d U;obtain ⟨hcan,hD⟩:=yF f h2;obtain ⟨tgt,dargs⟩:=d;subst h1;refine leaves_cons (f:=f) (args:=dargs++cap) U (by simp_all [invoke,pI]) ?_;refine CallsD.mono (hD _ w) ?_;rintro e u' w' ⟨⟨v,rfl⟩,rfl,hw⟩;exact sD yF ds w' (λd hd' =>hd d (by simp [hd'])) (λw'' Yl =>h w'' (hw.trans Yl))
def Dx {fn:Func}{tmps:Array Value}{xs:List Value}(h:(fn.results.toList.mapM (nM tmps)).run P w= .ok xs w) :
  (results fn tmps).run P w= .ok (if h:O xs=1 then xs[0]' V else .tuple xs.toArray) w:=by
 have e:results fn tmps=(fn.results.mapM (nM tmps) >>= λvs=>pure (if h:vs.size=1 then vs[0] else .tuple vs)):=by
  rfl
 grind [Array.mapM_eq_mapM_toList,map_eq_pure_bind,Sem.run_bind,Result.andThen_ok,Sem.run_pure,List.size_toArray]
def Tu {vs:List c7}{xs:List Value}(hl:O xs=O vs)(h:∀(i:Nat) v x,vs[i]? =J v->xs[i]? =J x->∃s,VR G I N w (.slot s) v x) :
  ∃pl G2,gb pl G w G2/\(∀id off,pl≠ .cell id off)/\VR G2 I N w .ret (j5 vs) (if h:O xs=1 then xs[0]' V else .tuple xs.toArray):=by
 by_cases h1:O xs=1
 .obtain ⟨x,rfl⟩:=List.length_eq_one_iff.1 h1
  obtain ⟨v,rfl⟩:=List.length_eq_one_iff.1 (hl.symm.trans h1);obtain ⟨s,hv⟩:=h 0 v x rfl rfl;simp [j5]
  by_cases ho:∃z n c,v= .own z n c
  .obtain ⟨z,n,c,rfl⟩:=ho
   obtain ⟨G2,hm,Uf⟩:=fT (tK := .ret) U hv
   grind
  .exact ⟨.slot s,G,gb.refl _ _ _,U,by simpa using hv.Bw (λz n c e=>ho ⟨z,n,c,e⟩)⟩
 .refine ⟨.ret,G,gb.refl _ _ _,U,?_⟩
  rw [dif_neg h1];have e:j5 vs= .tuple (vs.map c7.I7):=by
   simp_all [j5]<;>grind
  rw [e];refine ⟨_,rfl,O8 _ _ (by simp [hl]) λj b v hj hv=>?_⟩;simp at hj hv;obtain ⟨b',hb',rfl⟩:=hj;obtain ⟨s,hs⟩:=h j b' v hb' hv;exact hs.I7
end
def gd (P:Program)(fn:Func)(af:p6):Bool :=
 match fn.body with
 |some c=>gA af.names&&decide (af.nparams<=O af.names)&&(af.names.take af.nparams==List.range af.nparams)&&decide (af.nparams<=fn.ntmps) &&
   U1 P af.names fn.ntmps c af.body && cA P af.names fn.results.toList af.results && fn.name != "runtime.NumGoroutine"
 |none=>F
def EB {P:Program}{A:Prog}(yF:∀f,A.idle f=W->Idle P f){cf:nW}{n:Nat}(GG:jR P cf A.prom)(hcan:∀f args H lm r,cf f args H lm=J r->P5 P f=W)
  {f:FuncId} {fn:Func} {af:p6} (hf:P.funcs[f]? =J fn) (Cm:gd P fn af=W) {args:List c7} {H:k9} {l:F9} {v:c7} {H1:k9} (hrun:dZ A cf n af args H l=J (v,H1))
  {w:World} {G:Gh} {I:O5} {N:Nat->Prop} {H9:Array Value} (hpre:xb l H w G I N args H9) (hbase:af.eY=F->l.base=O H) :
  Calls P f H9 w λe w' =>∃x G' I' N',e= .returned x/\jC l H w G I N v H1 x w' G' I' N' :=by
 unfold gd at Cm;cases hbody:fn.body with
 |none=>rw [hbody] at Cm;cases Cm
 |some c =>
  rw [hbody] at Cm;simp only [Bool.and_eq_true,decide_eq_true_eq,beq_iff_eq] at Cm;obtain ⟨⟨⟨⟨⟨⟨Sj,hnp⟩,VK⟩,hnt⟩,Vi⟩,hres⟩,_⟩:=Cm;unfold dZ at hrun;split at hrun
  next hlen=>
   have hvl:H9.size=O args:=by simpa using H6.length _ _ hpre.args
   have hstart:Cd P af.names ⟨cf,A.prom,A.mode,A.idle,l,O H⟩ fn.ntmps ⟨args++List.replicate (O af.names - O args) .any,H⟩ { tmps:=H9++Array.replicate (fn.ntmps - H9.size) undef,defers:=[] } w G I N:=by
    refine ⟨λs t ht=>?_,hpre.hr,hpre.wf,hpre.Q7,?_,hpre.Y8,j9 _,?_,U⟩
    .simp only
     by_cases hs:s<O args
     .have hst:t=s:=by
       have h1:(af.names.take af.nparams)[s]? =J t:=by rw [List.getElem?_take_of_lt V];exact ht
       rw [VK,List.getElem?_range V] at h1;cases h1;rfl
      subst hst;obtain ⟨x,g1,g2⟩:=H6.get _ _ hpre.args t args[t] (n9 hs);have e1:(args++List.replicate (O af.names - O args) c7.any).getD t .any=args[t]:=by
       rw [List.getD,s9 hs,n9 hs];rfl
      have e2:(H9++Array.replicate (fn.ntmps - H9.size) undef).getD t undef=x:=by
       have hv:H9[t]? =J x:=by simpa using g1
       have hlt:t<H9.size:=Nat.lt_of_lt_of_eq hs hvl.symm;simp [Array.getElem?_append_left hlt,hv]
      rw [e1,e2];exact g2.place
     .have e1:(args++List.replicate (O af.names - O args) c7.any).getD s .any= .any:=by
       rw [List.getD,s5 V]
       rcases y7 (s - O args) (O af.names - O args) with h|h
       .simp [h]
       .rw [List.getElem?_eq_none (by simpa using h)];rfl
      rw [e1];simp [VR]
    .simp;omega
    .simp;omega
   have hE:FT P ⟨cf,A.prom,A.mode,A.idle,l,O H⟩:=⟨GG,hcan,hpre.strict,hpre.base⟩;refine calls_of_wp_defers hf hbody ?_;have fin:∀(st:St) (vs:List c7),V2 st.T st.H af.results=J vs->finish af.eY (O H) vs st.H=J (v,H1)->∀a' w' G' I' N',Cd P af.names ⟨cf,A.prom,A.mode,A.idle,l,O H⟩ fn.ntmps st a' w' G' I' N' ->
     W2 ⟨cf,A.prom,A.mode,A.idle,l,O H⟩ H w G I N st.H w' G' I' N' ->Leaves P fn a'.tmps (λe w' =>∃x G' I' N',e= .returned x/\jC l H w G I N v H1 x w' G' I' N') a'.defers .returning w' :=by
    intro st vs hvs qI a' w' G' I' N' hc hs;refine sD yF a'.defers w' hc.idle ?_;intro w'' VO;have oG:=hc.same VO;have hs2:=hs.same VO;obtain ⟨xs,h1,h2,h3⟩:=Hq oG fn.results.toList af.results vs hres hvs;refine ⟨_,Dx h1,(if h:O xs=1 then xs[0]' V else .tuple xs.toArray),?_⟩;obtain ⟨pl,G2,hm,oJ,hv⟩:=Tu (w:=w'') (G:=G') (I:=I') (N:=N') h2 h3;have EZ:Ext G w G2 w'' :=hs2.ext.trans hm.ext;have Qr:hU l G w G2 w'' :=hs2.aV.trans λid _=>⟨λb hb=>⟨hm.obj b id hb,rfl⟩,λoff=>hm.keeps _ (λe=>oJ id off e.symm)⟩
    have hhr:HR G2 I' N' w'' st.H:=oG.H.CV hm oJ;unfold finish at qI;split at qI
    .cases qI
     refine ⟨G2,I',N',rfl,hv,hhr,hm.wf oG.wf,EZ,Qr,λid hid hN=>hs2.inj id hid hN,λid hN=>hs2.mono id (hpre.Y8 id hN) hN,λid hid hN=>hs2.old id hid hN,oG.Y8,hs2.hle,oG.Q7⟩
    next sw=>
     have sw:af.eY=F:=by simpa using sw
     have hb:=hbase sw;split at qI
     next u hu=>
      split at qI
      next qH=>
       cases qI;obtain ⟨_,hfz⟩:=lH (n:=O H) hhr 1000000 _ _ hu;obtain ⟨b,e1,e2⟩:=hfz 0 _ .ret _ rfl hv;simp at e1;subst e1;have KV:=VR.low (O H) _ _ _ qH e2;have hlt:∀(id:Nat) o,(st.H.take (O H))[id]? =J o->id<O H/\st.H[id]? =J o:=by
        intro id o ho;have:id<O H:=by have:=y8 ho;simp at this;omega
        rw [List.getElem?_take_of_lt this] at ho;exact ⟨this,ho⟩
       refine ⟨freeze G2 (O H),I',λi=>N' i/\i<O H,rfl,KV,λid o ho=>?_,Im (hm.wf oG.wf),EZ.trans ny,λid hid=>?_,λid hid hN=>hs2.inj id hid hN,λid hN=>⟨hs2.mono id (hpre.Y8 id hN) hN,hpre.Y8 id hN⟩,
        λid hid hN=>hs2.old id hid hN.1,λid hN=>?_,λid o' hid ho=>?_,λid o ho=>?_⟩
       .obtain ⟨h4,h5⟩:=hlt id o ho
        have cQ:=(oG.Q7 id o h5).2 (by simp only;omega);simp only at cQ;exact OR.mono ny.sub (λ_ _=>rfl) (λ_ h=>h) id o (λhb=>⟨vh h4 hb,rfl⟩) (λ_=>jf _) (OR.low h4 o V (hhr id o h5))
       .obtain ⟨p1,p2⟩:=Qr id hid
        refine ⟨λb hb=>?_,λoff b m hb=>?_⟩
        .obtain ⟨q1,q2⟩:=p1 b hb
         exact ⟨vh (hpre.gX b id hb) q1,q2⟩
        .obtain ⟨q1,q2⟩:=p2 off b m hb
         obtain ⟨q3,_⟩:=jf (w:=w'') (n:=O H) (.cell id off) b m q1;exact ⟨q3,q2⟩
       .have:=oG.Y8 id hN.1;simp;omega
       .obtain ⟨h4,h5⟩:=hlt id o' ho
        exact hs2.hle id o' hid h5
       .obtain ⟨h4,h5⟩:=hlt id o ho
        exact oG.Q7 id o h5
      .cases qI
     .cases qI
   split at hrun
   .cases hrun
   next x st hne hex=>
    split at hrun
    next vs hvs=>
     refine ET hE Sj n _ af.body c (Nat.lt_succ_self _) Vi _ x st _ w G I N hex hstart _ ?_;intro a' w' G' I' N' hc hs;have:=fin st vs hvs hrun a' w' G' I' N' hc (hs H w G I N hpre.al2 (W2.refl _ _ _ _ _ _));cases x with
     |normal=>exact this
     |ret=>exact this
     |exit id=>exact absurd rfl (hne id)
    .cases hrun
   .cases hrun
  .cases hrun
def aD (P:Program)(prom:FuncId->Bool)(f:FuncId)(p:List c7->k9->F9->Option (c7×k9)):Prop :=
 P5 P f=W/\∀args H l v H1,p args H l=J (v,H1)->∀w G I N H9,xb l H w G I N args H9->(prom f=F->l.base=O H) ->
  Calls P f H9 w λe w' =>∃x G' I' N',e= .returned x/\jC l H w G I N v H1 x w' G' I' N'
structure mQ (P:Program)(A:Prog):Prop where
 idle:∀f,A.idle f=W->Idle P f
 aB:∀f p,A.aB f=J p->aD P A.prom f p
 fn:∀f af,A.aB f=K->A.fn f=J af->∃fn,P.funcs[f]? =J fn/\gd P fn af=W
def ED {P:Program}{f:FuncId}{fn:Func}{af:p6}(hf:P.funcs[f]? =J fn)(h:gd P fn af=W):P5 P f=W:=by
 grind [gd,P5]
theorem mT {P:Program}{A:Prog}(h:mQ P A):∀n,jR P (call A n) A.prom/\∀f args H lm r,call A n f args H lm=J r->P5 P f=W
 |0=>⟨λf args H l v H1 hc=>by simp [call] at hc,λf args H lm r hc=>by simp [call] at hc⟩
 |n+1=>by
  obtain ⟨ih1,ih2⟩:=mT h n;refine ⟨λf args H l v H1 hc w G I N H9 hpre hb=>?_,λf args H lm r hc=>?_⟩
  .simp [call] at hc
   split at hc
   next p hp=>
    exact (h.aB f p hp).2 args H l v H1 hc w G I N H9 hpre hb
   next hp=>
    split at hc
    next af Vc=>
     obtain ⟨fn,h1,h2⟩:=h.fn f af hp Vc;exact EB h.idle ih1 ih2 h1 h2 hc hpre (λee=>hb (by simp_all [Prog.prom]))
    .cases hc
  .simp [call] at hc
   split at hc
   next p hp=>
    exact (h.aB f p hp).1
   next hp=>
    split at hc
    next af Vc=>
     obtain ⟨fn,h1,h2⟩:=h.fn f af hp Vc;exact ED h1 h2
    .cases hc
end Go.y9
namespace Go.y9
variable [D2]
def fu (o:Oper):Bool:=match o.op with
 | .call ⟨.builtin .recover,args,_⟩=>args.isEmpty&&o.guard.isNone
 |_=>F
def Aw (P:Program)(d:Option Tmp)(o:Oper):Bool:=match o.op with
 | .binOp .neq t (.tmp x) (.const .nilIface) _=>d==J x&&o.guard.isNone&&(match P.underlying t with
  |some (.interface _)=>W
  |_=>F)
 |_=>F
def bp (P:Program)(fn:Func):Bool :=
 fn.name != "runtime.NumGoroutine" && fn.results.isEmpty && (match fn.body with
 |some (.region _ ops F)=>(match ops.toList with
  |[o]=>fu o
  |_=>F)
 |some (.seq (.region _ ops F) (.cond (.tmp c) _ .skip))=>(match ops.toList with
  |[o1,o2]=>fu o1&&Aw P o1.dst o2&&o2.dst==J c&&(match o1.dst with
   |some d=>decide (d<fn.ntmps)&&decide (c<fn.ntmps)
   |none=>F)
  |_=>F)
 |_=>F)
def sL {P:Program}{o:Oper}(h:fu o=W)(a:Act)(w:World):(execOp a.eval o).run P w= .ok .recover w:=by
 unfold fu at h;split at h
 next args argTypes hop=>
  obtain ⟨dst,aU,ty,pos,after,guard⟩:=o;simp only at hop;subst hop;simp [execOp,resolve,invoke,builtin]
 .cases h
def kP {o:Oper}(h:fu o=W)(y:Nat->Option Bool):Region.wanted o y=W:=by
 unfold fu at h;split at h
 .simp only [Bool.and_eq_true] at h
  have:o.guard=K:=by simpa using h.2
  simp [Region.wanted,this]
 .cases h
def MQ {P:Program}{o:Oper}{d:Option Tmp}(h:Aw P d o=W)(a:Act)(w:World)(ha:∀x,d=J x->a.tmps.getD x undef= .nilIface):(execOp a.eval o).run P w= .ok (.value (.bool F)) w:=by
 unfold Aw at h;split at h
 next t x yt hop=>
  simp only [Bool.and_eq_true,beq_iff_eq] at h;obtain ⟨⟨h1,h2⟩,h3⟩:=h;obtain ⟨dst,aU,ty,pos,after,guard⟩:=o;simp only at hop;subst hop;have hx:a.eval (.tmp x)= .nilIface:=by simp only [Act.eval];exact ha x h1
  split at h3
  next ms hu=>
   have h1:(execOp a.eval (⟨dst,.binOp .neq t (.tmp x) (.const .nilIface) yt,ty,pos,after,guard⟩:Oper)).run P w= .ok (.value (.bool F)) w:=by
    simp only [execOp,hx];have hc:a.eval (.const .nilIface)= .nilIface:=rfl;rw [hc];simp only [eqGuard,binOp];simp [xB hu]
   exact h1
  .cases h3
 .cases h
def V4 {P:Program}{f:FuncId}{fn:Func}(hf:P.funcs[f]? =J fn)(h:bp P fn=W):Idle P f:=by
 unfold bp at h;simp only [Bool.and_eq_true] at h;obtain ⟨⟨hname,hres⟩,h⟩:=h;have VC :fn.results= #[]:=by simpa using hres
 have hrun:∀tmps w,(results fn tmps).run P w= .ok (.tuple #[]) w:=by
  intro tmps w;simp [results,VC]
 have Qn:∀(c₀:Frame) (cs:List Frame),c₀.mode= .returning->recoverD (c₀::cs)=K:=by
  intro c₀ cs hm;simp [recoverD,hm]
 split at h
 next id ops hb=>
  refine ⟨by simp only [P5,hf,hb];simpa using hname,λargs w=>?_⟩;refine callsD_of_wpS hf hb ?_;intro c₀ cs hm;split at h
  next o ho=>
   have KZ:ops= #[o]:=by apply Array.toList_inj.1;simpa using ho
   subst KZ;refine wpS_region ?_;have tv:(#[o]:Array Oper)[0]? =J o:=rfl;show wpOpsS P #[o] _ [0] _ _ _
   simp only [wpOpsS,tv,kP h,if_true,sL h,Qn c₀ cs hm];refine ⟨by rw [iZ],.returning,?_,.tuple #[],hrun _ _,⟨_,rfl⟩,rfl,dX.refl _⟩;cases c₀;simp only at hm;subst hm;rfl
  .cases h
 next id ops c thn hb=>
  refine ⟨by simp only [P5,hf,hb];simpa using hname,λargs w=>?_⟩;refine callsD_of_wpS hf hb ?_;intro c₀ cs hm;split at h
  next o1 o2 ho=>
   have KZ:ops= #[o1,o2]:=by apply Array.toList_inj.1;simpa using ho
   subst KZ;simp only [Bool.and_eq_true,beq_iff_eq] at h;obtain ⟨⟨⟨h1,h2⟩,h3⟩,h4⟩:=h;cases hd:o1.dst with
   |none=>rw [hd] at h4;cases h4
   |some d =>
    rw [hd] at h4;simp only [Bool.and_eq_true,decide_eq_true_eq] at h4;refine wpS_seq (wpS_region ?_);have Ni:(#[o1,o2]:Array Oper)[0]? =J o1:=rfl;have hg1:(#[o1,o2]:Array Oper)[1]? =J o2:=rfl;show wpOpsS P #[o1,o2] _ [0,1] _ _ _
    simp only [wpOpsS,Ni,hg1,kP h1,if_true,sL h1,Qn c₀ cs hm];have Iw:∀y,Region.wanted o2 y=W:=by
     intro y;unfold Aw at h2;split at h2
     .simp only [Bool.and_eq_true] at h2
      have:o2.guard=K:=by simpa using h2.1.2
      simp [Region.wanted,this]
     .cases h2
    have hlt:d<(args++Array.replicate (fn.ntmps - args.size) undef).size:=Nat.lt_of_lt_of_le h4.1 D;have hlt2:c<(args++Array.replicate (fn.ntmps - args.size) undef).size:=Nat.lt_of_lt_of_le h4.2 D;have Fb:=λa hh=>MQ (P:=P) h2 a w hh
    simp only [Iw,if_true];rw [Fb _ (by
     intro x hx;rw [hd] at hx;cases hx;rw [hd];exact Z3 hlt)]
    simp only [Oper.upon,Exit.thenS];refine wpS_cond (t:=F) ?_ ?_
    .rw [h3]
     simp only [Act.eval];exact Z3 (by rw [size_put];exact hlt2)
    .refine wpS_of_wp (wp_skip ?_)
     refine ⟨by rw [iZ,iZ],.returning,?_,.tuple #[],hrun _ _,⟨_,rfl⟩,rfl,dX.refl _⟩;cases c₀;simp only at hm;subst hm;rfl
  .cases h
 .cases h
end Go.y9
namespace Go.y9
variable [D2]
mutual
def UP:Data->Data->Bool
 | .bool a,.bool b=>a==b
 | .int k a,.int k' b=>k==k' &&a==b
 | .str a,.str b=>a==b
 | .slice n xs,.slice m ys=>n==m&&Ih xs ys
 | .dK,.dK=>W
 | .gB,.gB=>W
 | .jl,.jl=>W
 | .nilIface,.nilIface=>W
 |_,_=>F
def Ih:List Data->List Data->Bool
 |[],[]=>W
 |x::xs,y::ys=>UP x y&&Ih xs ys
 |_,_=>F
end
mutual
theorem yA:∀(a b:Data),UP a b=W->a=b
 | .slice n xs,b,h=>by
  cases b<;>simp [UP,Bool.and_eq_true,beq_iff_eq,j6] at h;rw [h.1,uS _ _ h.2]
 | .bool _,b,h| .int _ _,b,h| .str _,b,h| .dK,b,h| .gB,b,h| .jl,b,h| .nilIface,b,h=>by cases b<;>simp_all [UP]
theorem uS:∀(a b:List Data),Ih a b=W->a=b
 |[],[],_=>rfl
 |x::xs,y::ys,h=>by
  simp [Ih,Bool.and_eq_true] at h;rw [yA x y h.1,uS xs ys h.2]
 |[],_::_,h=>by simp [Ih] at h
 |_::_,[],h=>by simp [Ih] at h
end
def XT:c7->c7->Bool
 | .d x,.d y=>UP x y
 |_,_=>F
def Ig:List c7->List c7->Bool
 |[],[]=>W
 |x::xs,y::ys=>XT x y&&Ig xs ys
 |_,_=>F
def eqA:c7->c7->Bool
 | .agg l,.agg m=>Ig l m
 |a,b=>XT a b
def Ie:List c7->List c7->Bool
 |[],[]=>W
 |x::xs,y::ys=>eqA x y&&Ie xs ys
 |_,_=>F
theorem yz {a b:c7}(h:XT a b=W):a=b:=by
 unfold XT at h
 grind [yA]
theorem uR:∀(a b:List c7),Ig a b=W->a=b
 |[],[],_=>rfl
 |x::xs,y::ys,h=>by
  simp [Ig,Bool.and_eq_true] at h;rw [yz h.1,uR xs ys h.2]
 |[],_::_,h=>by simp [Ig] at h
 |_::_,[],h=>by simp [Ig] at h
def Ic {a b:c7}(h:eqA a b=W):a=b:=by
 unfold eqA at h
 grind [uR,yz]
theorem uQ:∀(a b:List c7),Ie a b=W->a=b
 |[],[],_=>rfl
 |x::xs,y::ys,h=>by
  simp [Ie,Bool.and_eq_true] at h;rw [Ic h.1,uQ xs ys h.2]
 |[],_::_,h=>by simp [Ie] at h
 |_::_,[],h=>by simp [Ie] at h
structure xS where
 f:FuncId
 args:List c7
 res:c7
def N6:F9:=⟨0,0,0,0⟩
def F9.isZero (l:F9):Bool:=l.Ef==0&&l.Ee==0&&l.base==0&&l.strict==0
theorem Ay {l:F9}(h:l.isZero=W):l=N6:=by
 obtain ⟨a,b,c,d⟩:=l;simp [F9.isZero] at h;obtain ⟨⟨⟨rfl,rfl⟩,rfl⟩,rfl⟩:=h;rfl
def look (f:FuncId)(args:List c7):List xS->Option c7
 |[]=>K
 |e::es=>if e.f==f&&Ie e.args args then J e.res else look f args es
theorem vz {f:FuncId}{args:List c7}{v:c7}:∀(es:List xS),look f args es=J v->∃e,e∈es/\e.f=f/\e.args=args/\e.res=v
 |[],h=>by simp [look] at h
 |e::es,h=>by
  unfold look at h;split at h
  .grind [uQ]
  .obtain ⟨e',h1,h2⟩:=vz es h
   grind
def memo (A:Prog)(es:List xS):Prog :=
 ⟨A.fn,A.idle,A.mode,λf=>if es.any (λe=>e.f==f) then J (λargs H l=>if H.isEmpty&&l.isZero then (match look f args es with
  |some v=>J (v,[])
  |none=>K) else K) else A.aB f⟩
end Go.y9
namespace Go.y9
variable [D2]
structure Kept (w w' :World):Prop where
 os:w'.os=w.os
 output:w'.output=w.output
 size:w.heap.size<=w'.heap.size
 old:∀b:Nat,b<w.heap.size->w'.heap[b]? =w.heap[b]?
def Kept.but {w w' :World}(h:Kept w w')(may:MemPlace->Prop):w.keptBut w' may:=by
 refine ⟨h.os,h.output,λi hi=>?_⟩;rw [h.old i hi];split
 next kE ga=>
  rw [kE] at ga;cases ga;exact ⟨rfl,rfl,rfl,λ_ _=>rfl⟩
 next kE ga=>
  rw [kE] at ga;cases ga;exact Or.inr ⟨rfl,rfl⟩
 .rfl
theorem Kept.frozen {w w' :World}(h:Kept w w'){a:Addr}(ha:a.block<w.heap.size):w'.frozen? a=w.frozen? a:=by
 simp [World.frozen?,h.old a.block ha]
def G0 (w:World):Gh:=λb=>if b<w.heap.size then .gO else .free
def ID {P:Program}{A:Prog}(h:mQ P A){n:Nat}{f:FuncId}{args:List c7}{H9:Array Value}{w:World}(hc:call A n f args [] N6=J (.d (.bool W),[]))
  (hargs:H6 (G0 w) (λ_=>(0,0)) (λ_=>False) w args H9.toList):Calls P f H9 w λe w' =>e= .returned (.bool W)/\Kept w w' :=by
 have hpre:xb N6 [] w (G0 w) (λ_=>(0,0)) (λ_=>False) args H9:=by
  refine ⟨hargs,?_,?_,?_,?_,j9 _,j9 _,?_,λ_ b n pl hb=>by simp [G0] at hb;split at hb<;>cases hb⟩
  .intro id o ho;simp at ho
  .intro b hb;simp only [G0];rw [if_neg V]
  .intro id hid;exact hid.elim
  .intro id o ho;simp at ho
  .intro b id hb
   simp [G0] at hb;split at hb<;>cases hb
 refine Calls.mono ((mT h n).1 f args [] N6 _ _ hc w _ _ _ H9 hpre (λ_=>rfl)) ?_;rintro e w' ⟨x,G',I',N',rfl,hp⟩;have hx:=hp.val;subst hx;refine ⟨rfl,hp.ext.os,hp.ext.output,hp.ext.size,λb hb=>?_⟩;refine (hp.ext.still b (Or.inl ?_)).2;simp only [G0];rw [if_pos hb]
def zV {A:Prog}{n:Nat}{f:FuncId}{af:p6}{args:List c7}{H:k9}{l:F9}(hp:A.aB f=K)(hf:A.fn f=J af):call A (n+1) f args H l=dZ A (call A n) n af args H l:=by
 simp [call,hp,hf]
def R4 (af:p6)(n:Nat)(o:Option (G6×St)):Option (c7×k9):=match o with
 |some (.exit _,_)=>K
 |some (_,st)=>(match V2 st.T st.H af.results with
  |some vs=>finish af.eY n vs st.H
  |none=>K)
 |none=>K
def og {A:Prog}{cf:nW}{n:Nat}{af:p6}{args:List c7}{H:k9}{l:F9}(h:O args=af.nparams) :
  dZ A cf n af args H l=R4 af (O H) (exec ⟨cf,A.prom,A.mode,A.idle,l,O H⟩ n af.body ⟨args++List.replicate (O af.names - O args) .any,H⟩):=by
 unfold dZ R4;rw [if_pos h];rfl
section
variable {H:Type} {enc:TypeId×Value->H} {P:Program}
open Go.ChangeShapes Go.WideShapes
def IW {f:Func}{s:ChangeSpec}{apart fresh handsOn again:Bool}{d6 W' :World}{args:Array Value}{v:Value}{ds gs:List (DataW H)}{before pa pv:List MemPlace}
  (hW:DataW.Whole enc P f.params.toList s.vars apart d6 args.toList ds gs before) (hK:Kept d6 W')
  (hres:∀(b:Nat) (sp:Nat->Bool) (hd:Bool),DataW.TrodAll enc P W' b sp hd f.resultTypes.toList (v.resultList f.resultTypes.size) (s.fn H (ds++gs)).results [])
  (hargs:∀sp:Nat->Bool,(∀p∈before,sp p.block=W)->DataW.TrodAll enc P W' 0 sp W f.params.toList args.toList (s.fn H (ds++gs)).args pa)
  (hvars:∀sp:Nat->Bool,(∀p∈before,sp p.block=W)->DataW.TrodVars enc P W' sp s.vars (s.fn H (ds++gs)).vars pv)
  (hps:before=pa++pv)
  (hok:∀(j:Nat) (t:TypeId) (r:Value),f.resultTypes[j]? =J t->(v.resultList f.resultTypes.size)[j]? =J r->Value.okWide P W' .any 0 t r) :
  s.post enc P f apart fresh handsOn again d6 args v W' :=by
 have hlt:=hW.lt;have hin:∀p,p∈pa++pv->p∈before:=λp hp=>by rw [hps];exact hp
 refine ⟨ds,gs,before,[],pa,pv,hW,hres _ _ _,hargs _ (λp hp=>by simpa using hlt p hp),hvars _ (λp hp=>by simpa using hlt p hp),World.keptBut_mono (λp hp=>⟨hp,?_⟩) (hK.but _),λ_=>?_⟩
 .rw [hps,A5] at hp
  exact Or.inr hp
 .obtain ⟨_,_,_,_,_,hz,hn⟩:=hW
  refine ⟨hok,_,_,([]++pa)++pv,⟨[]++pa,pv,trodAll_append (hargs _ (λ_ _=>rfl)) (hres _ _ _),hvars _ (λ_ _=>rfl),rfl,λb off hp=>?_,λha=>?_⟩,λp hp _=>?_⟩
  .have hb:=hin _ (by simpa using hp)
   rw [hK.frozen (hlt _ hb)];exact hz b off hb
  .have:=hn ha
   rw [hps] at this;simpa using this
  .exact hin p (by simpa using hp)
end
end Go.y9
namespace Go.y9
instance:D2:=⟨False⟩
inductive CT where
 |bool
 |int (k:IntKind)
 |str
 |slice (e:List CT)
mutual
def Fits:CT->Data->Prop
 | .bool,d=>∃b,d= .bool b
 | .int k,d=>∃n,d= .int k n/\(Lit.int k n).wf=W
 | .str,d=>∃s:List UInt8,d= .str s/\O s<=maxLen
 | .slice e,d=>∃rows:List (List Data),d= .slice (O rows) rows.flatten/\O rows<=maxLen/\∀r,r∈rows->U3 e r
def U3:List CT->List Data->Prop
 |[],ds=>ds=[]
 |c::cs,ds=>∃d r,ds=d::r/\Fits c d/\U3 cs r
end
theorem U3.length:∀(l:List CT) (ds:List Data),U3 l ds->O ds=O l
 |[],ds,h=>by simp_all [U3]
 |c::cs,ds,h=>by
  obtain ⟨d,r,rfl,_,h3⟩:=h;simp [U3.length cs r h3]
theorem iQ:∀{l m:List CT} {ds es:List Data},U3 l ds->U3 m es->U3 (l++m) (ds++es)
 |[],m,ds,es,h,k=>by simp_all [U3]
 |c::cs,m,ds,es,h,k=>by
  obtain ⟨d,r,rfl,h2,h3⟩:=h;exact ⟨d,r++es,rfl,h2,iQ h3 k⟩
def JR (a:Addr)(m n:Nat):a.add (m+n)=(a.add m).add n:=by
 grind [Addr.add,K1]
def Es (P:Program)(lay:TypeId->List CT->Bool):List Field->Nat->List CT->Bool
 |[],_,l=>l.isEmpty
 |f::fs,o,l=>f.offset==o&&decide (P.cellsOf f.type<=O l)&&lay f.type (l.take (P.cellsOf f.type))&&Es P lay fs (o+P.cellsOf f.type) (l.drop (P.cellsOf f.type))
def HE (lay:List CT->Bool)(c:Nat):Nat->List CT->Bool
 |0,l=>l.isEmpty
 |m+1,l=>decide (c<=O l)&&lay (l.take c)&&HE lay c m (l.drop c)
def Lay (P:Program):Nat->TypeId->List CT->Bool
 |0,_,_=>F
 |n+1,t,l=>match P.underlying t with
  |some .bool=>(match l with
   |[.bool]=>W
   |_=>F)
  |some (.int k)=>(match l with
   |[.int k']=>k==k'
   |_=>F)
  |some .string=>(match l with
   |[.str]=>W
   |_=>F)
  |some (.slice e)=>(match l with
   |[.slice le]=>Lay P n e le&&P.cellsOf e==O le&&decide (0<O le)
   |_=>F)
  |some (.struct fs)=>P.cellsOf t==O l&&Es P (Lay P n) fs.toList 0 l
  |some (.array m e)=>P.cellsOf t==O l&&HE (Lay P n e) (P.cellsOf e) m l
  |_=>F
abbrev I0:O5:=λ_=>(0,0)
abbrev N0:Nat->Prop:=λ_=>False
theorem Kept.cell {w w' :World}(h:Kept w w'){a:Addr}{v:Value}(hv:w.cell? a=J v):w'.cell? a=J v:=by
 have:a.block<w.heap.size:=by
  grind [y7,World.cell?,Array.getElem?_eq_none]
 have e:w'.cell? a=w.cell? a:=by
  unfold World.cell?;rw [h.old _ this]
 simp_all
theorem fA {α β:Type}{f g:α->Option β}:∀{l:List α} {ys:List β},(∀x y,x∈l->y∈ys->f x=J y->g x=J y)->l.mapM f=J ys->l.mapM g=J ys
 |[],ys,_,h=>by simpa using h
 |x::xs,ys,hfg,h=>by
  rw [List.mapM_cons] at h ⊢;cases hf:f x with
  |none=>simp_all
  |some y =>
   rw [hf] at h;cases hr:xs.mapM f with
   |none=>simp_all
   |some r =>
    simp [hr] at h;subst h;rw [hfg x y U U hf,fA (λa b ha hb=>hfg a b (by simp [ha]) (by simp [hb])) hr];rfl
theorem eW {α β:Type}{f:α->Option β}:∀{l:List α} {ys:List β},l.mapM f=J ys->O ys=O l/\∀(i:Nat) x,l[i]? =J x->∃y,ys[i]? =J y/\f x=J y
 |[],ys,h=>M
 |x::xs,ys,h=>by
  rw [List.mapM_cons] at h;cases hf:f x with
  |none=>simp_all
  |some y =>
   rw [hf] at h;cases hr:xs.mapM f with
   |none=>simp_all
   |some r =>
    simp  at h;obtain ⟨h1,h2⟩:=eW hr
    grind
theorem Kept.cells {w w' :World}(h:Kept w w'){base:Nat}{a:Addr}{n:Nat}{cs:List Value}(hc:w.cells? base a n=J cs):w'.cells? base a n=J cs:=by
 unfold World.cells? at hc ⊢;split at hc
 next hb=>
  rw [if_pos hb];exact fA (λx y _ _ hx=>h.cell hx) hc
 .cases hc
section
variable {H:Type} {enc:TypeId×Value->H} {P:Program} {w:World} {base:Nat} {spare:Nat->Bool} {held:Bool}
theorem trod_bool {t:TypeId}{fuel:Nat}{cs:List Value}{x:DataW H×List MemPlace}(hu:P.underlying t=J .bool)(h:DataW.trod enc P w base spare held (fuel+1) t cs=J x):∃b,cs=[.bool b]/\x=(.lit (.bool b),[]):=by
 unfold DataW.trod at h
 grind
theorem trod_int {t:TypeId}{k:IntKind}{fuel:Nat}{cs:List Value}{x:DataW H×List MemPlace}(hu:P.underlying t=J (.int k))(h:DataW.trod enc P w base spare held (fuel+1) t cs=J x):∃n,cs=[.int k n]/\(Lit.int k n).wf=W/\x=(.lit (.int k n),[]):=by
 unfold DataW.trod at h
 grind
theorem wP {t:TypeId}{fuel:Nat}{cs:List Value}{x:DataW H×List MemPlace}(hu:P.underlying t=J .string)(h:DataW.trod enc P w base spare held (fuel+1) t cs=J x):∃s:ByteArray,cs=[.string s]/\s.size<=maxLen/\x=(.lit (.string s.data.toList),[]):=by
 unfold DataW.trod at h
 grind
def trod_slice {t e:TypeId}{fuel:Nat}{cs:List Value}{x:DataW H×List MemPlace}(hu:P.underlying t=J (.slice e))(h:DataW.trod enc P w base spare held (fuel+1) t cs=J x) :
  (cs=[.slice K 0 0]/\x=(.nil,[]))\/∃a len cap,cs=[.slice (J a) len cap]/\base<=a.block/\len<=cap/\cap<=maxLen /\
   (∃elems,((List.range len).mapM λi=>(w.cells? base (a.add (i * P.cellsOf e)) (P.cellsOf e)).bind (DataW.trod enc P w base spare held fuel e))=J elems) /\
   (spare a.block=W->∃rest,((List.range (cap - len)).mapM λj=>(w.cells? base (a.add ((len+j) * P.cellsOf e)) (P.cellsOf e)).bind (DataW.trod enc P w base spare held fuel e))=J rest):=by
 unfold DataW.trod at h;rw [hu] at h
 match cs,h with
 |[],h=>cases h
 |[v],h =>
  cases v<;>try (cases h)
  rename_i o len cap;cases o with
  |none =>
   cases len with
   |zero =>
    cases cap with
    |zero=>simp_all
    |succ c=>cases h
   |succ n=>cases h
  |some a =>
   simp only at h;split at h
   next hc=>
    refine Or.inr ⟨a,len,cap,rfl,hc.1,hc.2.1,hc.2.2,?_⟩;cases hm:(List.range len).mapM λi=>(w.cells? base (a.add (i * P.cellsOf e)) (P.cellsOf e)).bind (DataW.trod enc P w base spare held fuel e) with
    |none=>simp_all
    |some elems =>
     refine ⟨⟨elems,rfl⟩,λhs=>?_⟩;cases hr:(List.range (cap - len)).mapM λj=>(w.cells? base (a.add ((len+j) * P.cellsOf e)) (P.cellsOf e)).bind (DataW.trod enc P w base spare held fuel e) with
     |none=>simp_all
     |some rest=>simp_all
   .cases h
 |v::_::_,h=>simp_all
def trod_array {t e:TypeId}{m:Nat}{fuel:Nat}{cs:List Value}{x:DataW H×List MemPlace}(hu:P.underlying t=J (.array m e))(h:DataW.trod enc P w base spare held (fuel+1) t cs=J x) :
  O cs=P.cellsOf t/\∃xs,((List.range m).mapM λi=>DataW.trod enc P w base spare held fuel e ((cs.drop (i * P.cellsOf e)).take (P.cellsOf e)))=J xs/\x=(.agg (xs.map (·.1)),xs.flatMap (·.2)):=by
 simp_all [DataW.trod]<;>grind
def trod_struct {t:TypeId}{fs:Array Field}{fuel:Nat}{cs:List Value}{x:DataW H×List MemPlace}(hu:P.underlying t=J (.struct fs))(h:DataW.trod enc P w base spare held (fuel+1) t cs=J x) :
  O cs=P.cellsOf t/\∃xs,(fs.toList.mapM λf=>DataW.trod enc P w base spare held fuel f.type ((cs.drop f.offset).take (P.cellsOf f.type)))=J xs/\x=(.agg (xs.map (·.1)),xs.flatMap (·.2)):=by
 simp_all [DataW.trod]<;>grind
abbrev Cells (w:World)(ds:List Data)(cs:List Value):Prop:=H6 (G0 w) I0 N0 w (ds.map .d) cs
theorem Cells.append {ds es:List Data}{cs fs:List Value}(h:Cells w ds cs)(k:Cells w es fs):Cells w (ds++es) (cs++fs):=by
 simp_all [Cells,List.map_append,mR]
theorem Rm {b o:Nat}{v:Value}(h:w.cell? (ad b o)=J v):eT (G0 w) b o:=by
 grind [y7,World.cell?,Array.getElem?_eq_none,eT,G0]
def Mr (hspare:∀b,spare b=W):∀(n:Nat) (t:TypeId) (l:List CT),Lay P n t l=W->∀(fuel:Nat) (cs:List Value) (x:DataW H×List MemPlace),DataW.trod enc P w base spare held fuel t cs=J x->∃ds,U3 l ds/\Cells w ds cs:=by
 intro n
 induction n with
 |zero=>simp_all [Lay]
 |succ n ih =>
  intro t l hL fuel cs x h;cases fuel with
  |zero=>simp [DataW.trod] at h
  |succ fuel =>
   unfold Lay at hL;split at hL
   next hu=>
    split at hL
    .obtain ⟨b,rfl,_⟩:=trod_bool hu h
     exact ⟨[.bool b],by simp [U3,Fits],by simp [Cells,H6,VR,DR]⟩
    .cases hL
   next k hu=>
    split at hL
    next k'=>
     have:k=k' :=M
     subst this;obtain ⟨m,rfl,hw,_⟩:=trod_int hu h;exact ⟨[.int k m],by simp_all [U3,Fits],by simp [Cells,H6,VR,DR]⟩
    .cases hL
   next hu=>
    split at hL
    .obtain ⟨s,rfl,hs,_⟩:=wP hu h
     refine ⟨[.str s.data.toList],?_,by simp [Cells,H6,VR,DR]⟩;simp_all [U3,Fits]
    .cases hL
   next e hu=>
    split at hL
    next le=>
     simp only [Bool.and_eq_true,beq_iff_eq,decide_eq_true_eq] at hL;obtain ⟨⟨hLe,hce⟩,hpos⟩:=hL
     rcases trod_slice hu h with ⟨rfl,_⟩|⟨a,len,cap,rfl,hb,hlc,hcm,⟨elems,hel⟩,oK⟩
     .refine ⟨[.slice 0 []],?_,by simp [Cells,H6,VR,DR]⟩
      simp only [U3,Fits];exact ⟨_,_,rfl,⟨[],rfl,U,U⟩,rfl⟩
     ·
      obtain ⟨JC,jH⟩:=eW hel;have rows:∀m,m<=len->∃rows:List (List Data),O rows=m/\(∀r,r∈rows->U3 le r)/\(∀(j:Nat) d,rows.flatten[j]? =J d->∃v,w.cell? (a.add j)=J v/\DR (G0 w) w d v):=by
       intro m
       induction m with
       |zero=>simp_all
       |succ m ihm =>
        intro hm;obtain ⟨rows,r1,r2,r3⟩:=ihm V;obtain ⟨y,_,hy⟩:=jH m m (List.getElem?_range V);cases hcell:w.cells? base (a.add (m * P.cellsOf e)) (P.cellsOf e) with
        |none=>simp_all
        |some Rw =>
         rw [hcell] at hy;simp only [Option.bind_some] at hy;obtain ⟨ds,f1,f2⟩:=ih e le hLe fuel Rw y hy;have hds:O ds=O le:=U3.length _ _ f1;have GH:O rows.flatten=m * O le:=by
          rw [List.length_flatten];have:∀q,q∈rows.map List.length->q=O le:=by
           grind [U3.length]
          have aj1:rows.map List.length=List.replicate m (O le):=by
           rw [List.eq_replicate_iff]
           grind
          rw [aj1];simp
         refine ⟨rows++[ds],by simp [r1],?_,?_⟩
         .grind
         .intro j d hj
          rw [List.flatten_append] at hj;simp only [List.flatten_cons,List.flatten_nil,List.append_nil] at hj
          by_cases hjl:j<O rows.flatten
          .grind
          .rw [s5 V] at hj
           have wY:=y8 hj;unfold World.cells? at hcell;split at hcell
           .obtain ⟨c1,c2⟩:=eW hcell
            obtain ⟨v,v1,v2⟩:=c2 (j - O rows.flatten) (j - O rows.flatten) (List.getElem?_range V);have af5:(a.add (m * P.cellsOf e)).add (j - O rows.flatten)=a.add j:=by
             rw [<- JR];simp_all
            rw [af5] at v2;obtain ⟨v',w1,w2⟩:=H6.get _ _ f2 (j - O rows.flatten) (.d d) M;simp_all [VR]
           .cases hcell
      obtain ⟨rows,r1,r2,r3⟩:=rows len (j9 _);refine ⟨[.slice (O rows) rows.flatten],?_,?_⟩
      .grind [U3,Fits]
      .simp only [Cells,E8,List.map_nil,H6,VR]
       refine ⟨_,_,rfl,?_,rfl⟩;simp only [DR]
       by_cases hcap:cap=0
       .simp_all
       ·
        have Sf:∃Rw,w.cells? base (a.add 0) (P.cellsOf e)=J Rw:=by
         by_cases hl0:len=0
         .obtain ⟨rest,hr⟩:=oK (hspare _)
          obtain ⟨_,c2⟩:=eW hr;obtain ⟨y,_,hy⟩:=c2 0 0 (by grind);rw [hl0] at hy;simp only [Nat.zero_add,Nat.zero_mul] at hy;cases Eg:w.cells? base (a.add 0) (P.cellsOf e) with
          |none=>simp_all
          |some Rw=>simp_all
         .obtain ⟨y,_,hy⟩:=jH 0 0 (by grind)
          simp only [Nat.zero_mul] at hy;cases Eg:w.cells? base (a.add 0) (P.cellsOf e) with
          |none=>simp_all
          |some Rw=>simp_all
        obtain ⟨Rw,NY⟩:=Sf;have hcell:∃v,w.cell? a=J v:=by
         unfold World.cells? at NY;split at NY
         .obtain ⟨_,c2⟩:=eW NY
          obtain ⟨v,_,hv⟩:=c2 0 0 M;simp_all [Addr.add]
         .cases NY
        obtain ⟨v,hv⟩:=hcell;have ha:a=ad a.block a.off:=by
         obtain ⟨b,o,sp⟩:=a;cases sp with
         |none=>rfl
         |some q =>
          grind [World.cell?]
        grind [uh,W3,Rm]
    .cases hL
   next fs hu=>
    simp only [Bool.and_eq_true,beq_iff_eq] at hL;obtain ⟨hlen,xs,hxs,_⟩:=trod_struct hu h;have fields:∀(fl:List Field) (o:Nat) (l:List CT) (ys:List (DataW H×List MemPlace)),Es P (Lay P n) fl o l=W->(fl.mapM λf=>DataW.trod enc P w base spare held fuel f.type ((cs.drop f.offset).take (P.cellsOf f.type)))=J ys->O (cs.drop o)=O l ->
      ∃ds,U3 l ds/\Cells w ds (cs.drop o):=by
     intro fl
     induction fl with
     |nil =>
      simp_all [Es,U3,Cells,H6]<;>omega
     |cons f fl ihf =>
      intro o l ys hl hm hlen;simp only [Es,Bool.and_eq_true,beq_iff_eq,decide_eq_true_eq] at hl;obtain ⟨⟨⟨ho,hle⟩,Ir⟩,oK⟩:=hl;rw [List.mapM_cons] at hm;cases hf:DataW.trod enc P w base spare held fuel f.type ((cs.drop f.offset).take (P.cellsOf f.type)) with
      |none=>simp_all
      |some y =>
       rw [hf] at hm;cases hr:fl.mapM λf=>DataW.trod enc P w base spare held fuel f.type ((cs.drop f.offset).take (P.cellsOf f.type)) with
       |none=>simp_all
       |some r =>
        rw [ho] at hf;obtain ⟨d1,a1,a2⟩:=ih f.type _ Ir fuel _ y hf;obtain ⟨d2,b1,b2⟩:=ihf (o+P.cellsOf f.type) (l.drop (P.cellsOf f.type)) r oK hr (by grind);refine ⟨d1++d2,?_,?_⟩
        .grind [List.take_append_drop,iQ]
        .have:cs.drop o=(cs.drop o).take (P.cellsOf f.type)++cs.drop (o+P.cellsOf f.type):=by
          rw [<- List.drop_drop,List.take_append_drop]
         rw [this];exact a2.append b2
    grind
   next m e hu=>
    simp only [Bool.and_eq_true,beq_iff_eq] at hL;obtain ⟨hlen,xs,hxs,_⟩:=trod_array hu h;obtain ⟨_,hat⟩:=eW hxs;have elems:∀(q k:Nat) (l:List CT),k+q=m->HE (Lay P n e) (P.cellsOf e) q l=W->O (cs.drop (k * P.cellsOf e))=O l->∃ds,U3 l ds/\Cells w ds (cs.drop (k * P.cellsOf e)):=by
     intro q
     induction q with
     |zero =>
      simp_all [HE,U3,Cells,H6]<;>omega
     |succ q ihq =>
      intro k l hkq hl hlen;simp only [HE,Bool.and_eq_true,decide_eq_true_eq] at hl;obtain ⟨⟨hle,Ir⟩,oK⟩:=hl;obtain ⟨y,_,hy⟩:=hat k k (by grind);obtain ⟨d1,a1,a2⟩:=ih e _ Ir fuel _ y hy;obtain ⟨d2,b1,b2⟩:=ihq (k+1) (l.drop (P.cellsOf e)) V oK (by grind);refine ⟨d1++d2,?_,?_⟩
      .grind [List.take_append_drop,iQ]
      .have:cs.drop (k * P.cellsOf e)=(cs.drop (k * P.cellsOf e)).take (P.cellsOf e)++cs.drop ((k+1) * P.cellsOf e):=by
        rw [Nat.succ_mul,<- List.drop_drop,List.take_append_drop]
       rw [this];exact a2.append b2
    have:=elems m 0 l V hL.2 M;simp_all
   .cases hL
def Ju {w' :World}(hK:Kept w w'){sp:Nat->Bool}:∀(n:Nat) (t:TypeId) (l:List CT),Lay P n t l=W->∀(fuel:Nat) (cs:List Value) (x:DataW H×List MemPlace),(∀p,p∈x.2->sp p.block=W) ->
  DataW.trod enc P w base (λ_=>W) held fuel t cs=J x->DataW.trod enc P w' base sp held fuel t cs=J x:=by
 intro n
 induction n with
 |zero=>simp_all [Lay]
 |succ n ih =>
  intro t l hL fuel cs x hsp h;cases fuel with
  |zero=>simp [DataW.trod] at h
  |succ fuel =>
   unfold Lay at hL;split at hL
   next hu=>
    obtain ⟨b,rfl,rfl⟩:=trod_bool hu h;simp [DataW.trod,hu]
   next k hu=>
    obtain ⟨m,rfl,hw,rfl⟩:=trod_int hu h;simp [DataW.trod,hu,hw]
   next hu=>
    obtain ⟨s,rfl,hs,rfl⟩:=wP hu h;simp [DataW.trod,hu,hs]
   next e hu=>
    split at hL
    next le=>
     simp only [Bool.and_eq_true,beq_iff_eq,decide_eq_true_eq] at hL;obtain ⟨⟨hLe,hce⟩,hpos⟩:=hL;have hel:∀(a:Addr) (y:DataW H×List MemPlace),(∀p,p∈y.2->sp p.block=W)->(w.cells? base a (P.cellsOf e)).bind (DataW.trod enc P w base (λ_=>W) held fuel e)=J y->(w'.cells? base a (P.cellsOf e)).bind (DataW.trod enc P w' base sp held fuel e)=J y:=by
      intro a y hy1 hy;cases hc:w.cells? base a (P.cellsOf e) with
      |none=>simp_all
      |some Rw =>
       rw [hK.cells hc]
       grind
     rcases trod_slice hu h with ⟨rfl,rfl⟩|⟨a,len,cap,rfl,hb,hlc,hcm,⟨elems,Vn⟩,oK⟩
     .simp [DataW.trod,hu]
     .obtain ⟨rest,hr⟩:=oK rfl
      have hx:x=(.slice (elems.map (·.1)) (rest.map (·.1)),MemPlace.row a ((O elems+O rest) * P.cellsOf e)++(elems++rest).flatMap (·.2)):=by
       simp_all [DataW.trod,if_pos,Option.bind_some,if_true,B6,Option.some.injEq]
      subst hx;have hin:∀y,y∈elems++rest->∀p,p∈y.2->sp p.block=W:=by
       grind
      have hblk:cap - len=0\/sp a.block=W:=by
       by_cases hc0:cap=0
       .omega
       .right
        have h1:=(eW Vn).1;have h2:=(eW hr).1;simp only [List.length_range] at h1 h2;have:0<(O elems+O rest) * P.cellsOf e:=by
         rw [h1,h2,hce];exact Nat.mul_pos V hpos
        refine hsp (.cell a.block (a.off+0)) (List.mem_append_left _ ?_);exact List.mem_map.2 ⟨0,List.mem_range.2 this,rfl⟩
      unfold DataW.trod;rw [hu];simp only;rw [if_pos ⟨hb,hlc,hcm⟩,fA (λi y _ hy' hy=>hel _ y (hin y (by simp [hy'])) hy) Vn];have hr' :=fA (g:=λj=>(w'.cells? base (a.add ((len+j) * P.cellsOf e)) (P.cellsOf e)).bind (DataW.trod enc P w' base sp held fuel e)) (λi y _ hy' hy=>hel _ y (hin y (by simp [hy'])) hy) hr
      grind
    .cases hL
   next fs hu=>
    obtain ⟨hlen,xs,hxs,rfl⟩:=trod_struct hu h;have fields:∀(fl:List Field) (o:Nat) (l:List CT),Es P (Lay P n) fl o l=W->∀f,f∈fl->∃l',Lay P n f.type l' =W:=by
     intro fl
     induction fl with
     |nil=>simp_all
     |cons g fl ihf =>
      grind [Es]
    have:=fA (g:=λf=>DataW.trod enc P w' base sp held fuel f.type ((cs.drop f.offset).take (P.cellsOf f.type))) (λf y hf hy' hy=>by
     grind) hxs
    simp_all [DataW.trod,if_pos]
   next m e hu=>
    obtain ⟨hlen,xs,hxs,rfl⟩:=trod_array hu h;have Ir:m=0\/∃l',Lay P n e l' =W:=by
     cases m with
     |zero=>omega
     |succ m =>
      grind [HE]
    have:=fA (g:=λi=>DataW.trod enc P w' base sp held fuel e ((cs.drop (i * P.cellsOf e)).take (P.cellsOf e))) (λi y hi hy' hy=>by
     grind) hxs
    simp_all [DataW.trod,if_pos]
   .cases hL
end
def isStr (P:Program)(t:TypeId):Bool:=match P.underlying t with
 |some (.struct _)=>W
 |_=>F
def asArg (agg:Bool)(ds:List Data):c7:=if agg then .agg (ds.map .d) else .d (ds.headD .dK)
def lB (P:Program):List TypeId->List (List CT)->List c7->Prop
 |[],_,as=>as=[]
 |t::ts,ls,as=>∃ds r,as=asArg (isStr P t) ds::r/\U3 (ls.headD []) ds/\lB P ts ls.tail r
def Lh (P:Program)(t:TypeId):Bool:=match P.underlying t with
 |some (.array _ _)=>W
 |_=>F
def zI (P:Program):List TypeId->List (List CT)->Bool
 |[],_=>W
 |t::ts,ls=>(Lay P 20 t (ls.headD [])&& !Lh P t)&&zI P ts ls.tail
section
variable {H:Type} {enc:TypeId×Value->H} {P:Program} {w:World} {held:Bool}
theorem tX {t:TypeId}{r:Reach}{b0:Nat}{v:Value}(hval:Value.okWide P w r b0 t v){td:TypeDesc}(hu:P.underlying t=J td)(htd:td= .bool\/(∃k,td= .int k)\/td= .string\/∃e,td= .slice e):∀cs,v≠ .agg cs:=by
 simp_all [Value.okWide,Cell.okWide,Cell.ok]<;>grind
theorem cells_one {v u:Value}(hv:∀cs,v≠ .agg cs)(h:v.cells.toList=[u]):u=v:=by
 simp_all [Value.cells,absurd]
def Rt {t:TypeId}{l:List CT}(hL:Lay P 20 t l=W)(hna:Lh P t=F){r:Reach}{b0:Nat}{v:Value}(hval:Value.okWide P w r b0 t v){d:DataW H}{ps:List MemPlace}(h:DataW.Trod enc P w 0 (λ_=>W) held t v d ps) :
  ∃ds,U3 l ds/\VR (G0 w) I0 N0 w .none (asArg (isStr P t) ds) v:=by
 obtain ⟨fuel,h⟩:=h;obtain ⟨ds,h1,h2⟩:=Mr (λ_=>rfl) 20 t l hL fuel _ _ h;unfold isStr asArg;split
 .grind [Value.okWide,VR,Value.cells]
 .cases fuel with
  |zero=>simp [DataW.trod] at h
  |succ fuel =>
   have one:∀u,v.cells.toList=[u]->u=v->VR (G0 w) I0 N0 w .none (.d (ds.headD .dK)) v:=by
    rintro u hu rfl;rw [hu] at h2;cases ds with
    |nil=>simp [Cells,H6] at h2
    |cons d0 r =>
     simp_all [Cells,H6]<;>grind
   unfold Lay at hL;split at hL
   .grind [trod_bool,cells_one,tX]
   .grind [trod_int,cells_one,tX]
   .grind [wP,cells_one,tX]
   next e hu=>
    rcases trod_slice hu h with ⟨hb,_⟩|⟨a,len,cap,hb,_⟩
    all_goals grind [cells_one,tX]
   all_goals simp_all [absurd,Lh]
theorem Gc {r:Reach}{b0:Nat}:∀(ts:List TypeId) (ls:List (List CT)) (vs:List Value) (ds:List (DataW H)) (ps:List MemPlace),zI P ts ls=W->(∀(j:Nat) t v,ts[j]? =J t->vs[j]? =J v->Value.okWide P w r b0 t v) ->
  DataW.TrodAll enc P w 0 (λ_=>W) held ts vs ds ps ->
  (∃as,lB P ts ls as/\H6 (G0 w) I0 N0 w as vs)/\∀w',Kept w w' ->∀sp:Nat->Bool,(∀p,p∈ps->sp p.block=W)->DataW.TrodAll enc P w' 0 sp held ts vs ds ps
 |[],ls,vs,ds,ps,_,_,h=>by
  obtain ⟨rfl,rfl,rfl⟩:=Go.ChangeShapes.trodAll_nil h;exact ⟨⟨[],by rfl,by simp [H6]⟩,λ_ _ _ _=>rfl⟩
 |t::ts,ls,vs,ds,ps,hL,hval,h=>by
  simp [zI,Bool.and_eq_true,Bool.not_eq_true'] at hL;obtain ⟨v,vs1,d,ds1,a,b,rfl,rfl,rfl,h1,h2⟩:=Go.ChangeShapes.trodAll_cons h;obtain ⟨⟨as,g1,g2⟩,g3⟩:=Gc ts ls.tail vs1 ds1 b hL.2 (λj t' v' ht hv=>hval (j+1) t' v' M M) h2;obtain ⟨dd,e1,e2⟩:=Rt hL.1.1 hL.1.2 (hval 0 t v rfl rfl) h1;refine ⟨⟨asArg (isStr P t) dd::as,?_,?_⟩,λw' hK sp hsp=>?_⟩
  .grind [lB]
  .grind [H6]
  .obtain ⟨fuel,hf⟩:=h1
   exact ⟨a,b,⟨fuel,Ju hK 20 t _ hL.1.1 fuel _ _ (λp hp=>hsp p M) hf⟩,g3 w' hK sp (λp hp=>hsp p (by simp [hp])),rfl⟩
end
open Go.ChangeShapes Go.WideShapes Go.ChangeAt Go.RowKit
end Go.y9
namespace Go.y9
def I4 (A:Prog)(n:Nat)(l:F9)(b:Nat):Env:=⟨call A n,A.prom,A.mode,A.idle,l,b⟩
def Ex (A:Prog)(l:F9)(b:Nat)(c:K7)(st:St)(Q:G6->St->Prop):Prop :=
 ∃x s N,Q x s/\∀n,N<=n->exec (I4 A n l b) n c st=J (x,s)
def Rn (A:Prog)(l:F9)(b:Nat)(ops:List x9)(draw:Bool)(T:List c7)(H:k9)(Q:List c7->k9->List c7->Prop):Prop :=
 ∃r N,Q r.T r.H r.L/\∀n,N<=n->P0 (I4 A n l b) ops draw T H=J r
section
variable {A:Prog} {l:F9} {b:Nat}
theorem Ex.mono {c:K7}{st:St}{Q R:G6->St->Prop}(h:Ex A l b c st Q)(k:∀x s,Q x s->R x s):Ex A l b c st R:=by
 obtain ⟨x,s,N,hq,h⟩:=h;exact ⟨x,s,N,k x s hq,h⟩
theorem Ex.skip {st:St}{Q:G6->St->Prop}(h:Q .normal st):Ex A l b .skip st Q:=⟨_,_,0,h,λ_ _=>rfl⟩
theorem Ex.exit {id:Nat}{st:St}{Q:G6->St->Prop}(h:Q (.exit id) st):Ex A l b (.exit id) st Q:=⟨_,_,0,h,λ_ _=>rfl⟩
theorem Ex.ret {st:St}{Q:G6->St->Prop}(h:Q .ret st):Ex A l b .ret st Q:=⟨_,_,0,h,λ_ _=>rfl⟩
theorem Ex.region {ops:List x9}{draw:Bool}{T:List c7}{H:k9}{Q:G6->St->Prop}(h:Rn A l b ops draw T H λT' H' _=>Q .normal ⟨T',H'⟩):Ex A l b (.region ops draw) ⟨T,H⟩ Q:=by
 obtain ⟨r,N,hq,h⟩:=h;refine ⟨_,_,N,hq,λn hn=>?_⟩;simp_all [exec]
def jO (Q:G6->St->Prop)(go:St->Prop):G6->St->Prop
 | .normal,s=>go s
 | .exit i,s=>Q (.exit i) s
 | .ret,s=>Q .ret s
theorem Ex.seq {c d:K7}{st:St}{Q:G6->St->Prop}(h:Ex A l b c st (jO Q λs=>Ex A l b d s Q)):Ex A l b (.seq c d) st Q:=by
 obtain ⟨x,s,N,hq,h⟩:=h;cases x with
 |normal =>
  obtain ⟨x2,s2,N2,gM,h2⟩:=hq;refine ⟨x2,s2,max N N2,gM,λn hn=>?_⟩
  grind [exec]
 |exit i=>exact ⟨_,_,N,hq,λn hn=>by simp_all [exec]⟩
 |ret=>exact ⟨_,_,N,hq,λn hn=>by simp_all [exec]⟩
def lY (id:Nat)(Q:G6->St->Prop):G6->St->Prop
 | .exit i,s=>if i=id then Q .normal s else Q (.exit i) s
 | .normal,s=>Q .normal s
 | .ret,s=>Q .ret s
theorem Ex.block {id:Nat}{c:K7}{st:St}{Q:G6->St->Prop}(h:Ex A l b c st (lY id Q)):Ex A l b (.block id c) st Q:=by
 obtain ⟨x,s,N,hq,h⟩:=h;cases x with
 |normal=>exact ⟨_,_,N,hq,λn hn=>by simp_all [exec]⟩
 |ret=>exact ⟨_,_,N,hq,λn hn=>by simp_all [exec]⟩
 |exit i =>
  simp [lY] at hq;split at hq
  .exact ⟨_,_,N,hq,λn hn=>by simp_all [exec,if_pos]⟩
  .exact ⟨_,_,N,hq,λn hn=>by simp_all [exec,if_neg]⟩
theorem Ex.test {ops:List x9}{draw:Bool}{c:A3}{d e:K7}{T:List c7}{H:k9}{Q:G6->St->Prop}
  (h:Rn A l b ops draw T H λT' H' L=>∃t,F1 T' L c= .d (.bool t)/\(t=W->Ex A l b d ⟨T',H'⟩ Q)/\(t=F->Ex A l b e ⟨T',H'⟩ Q)):Ex A l b (.test ops draw c d e) ⟨T,H⟩ Q:=by
 obtain ⟨r,N,⟨t,h1,h2,h3⟩,h⟩:=h;cases t with
 |true =>
  obtain ⟨x,s,N2,hq,k⟩:=h2 rfl;exact ⟨x,s,max N N2,hq,λn hn=>by grind [exec]⟩
 |false =>
  obtain ⟨x,s,N2,hq,k⟩:=h3 rfl;exact ⟨x,s,max N N2,hq,λn hn=>by grind [exec]⟩
theorem Ex.cond {c:A3}{d e:K7}{st:St}{t:Bool}{Q:G6->St->Prop}(h1:F1 st.T [] c= .d (.bool t))
  (h2:t=W->Ex A l b d st Q) (h3:t=F->Ex A l b e st Q):Ex A l b (.cond c d e) st Q:=by
 cases t with
 |true =>
  obtain ⟨x,s,N2,hq,k⟩:=h2 rfl;exact ⟨x,s,N2,hq,λn hn=>by simp_all [exec]⟩
 |false =>
  obtain ⟨x,s,N2,hq,k⟩:=h3 rfl;exact ⟨x,s,N2,hq,λn hn=>by simp_all [exec]⟩
theorem Ex.loop {mask:List Bool}{body:K7}{st:St}{Q:G6->St->Prop}(Inv:Nat->St->Prop)
  (hb:∀k s,Inv k s->Ex A l b body (clean mask l.strict (O st.H) s) (jO Q λs' =>∃k',k' <k/\Inv k' s')) {k:Nat} (h:Inv k st):Ex A l b (.loop mask body) st Q:=by
 have main:∀k s,Inv k s->∃x s2 N,Q x s2/\∀n,N<=n->∀j,N<=j->iG (exec (I4 A n l b) n body) mask l.strict (O st.H) j s=J (x,s2):=by
  intro k
  induction k using Nat.strongRecOn with
  |_ k ih =>
   intro s hs;obtain ⟨x,s1,N,hq,h1⟩:=hb k s hs;cases x with
   |normal =>
    obtain ⟨k',hk,hi⟩:=hq;obtain ⟨x,s2,N2,gM,h2⟩:=ih k' hk s1 hi;refine ⟨x,s2,max N N2+1,gM,λn hn j hj=>?_⟩;obtain ⟨j,rfl⟩:∃j',j=j' +1:=⟨j - 1,V⟩
    grind [iG]
   |exit i =>
    refine ⟨_,_,N+1,hq,λn hn j hj=>?_⟩;obtain ⟨j,rfl⟩:∃j',j=j' +1:=⟨j - 1,V⟩
    grind [iG]
   |ret =>
    refine ⟨_,_,N+1,hq,λn hn j hj=>?_⟩;obtain ⟨j,rfl⟩:∃j',j=j' +1:=⟨j - 1,V⟩
    grind [iG]
 obtain ⟨x,s2,N,hq,h⟩:=main k st h;exact ⟨x,s2,N,hq,λn hn=>by exact h n hn n hn⟩
def Pf (A:Prog)(f:FuncId)(args:List c7)(v:c7):Prop :=
 ∃N,∀n,N<=n->call A n f args [] N6=J (v,[])
def Pf.Wa {f:FuncId}{af:p6}{args:List c7}{v:c7}(T:List c7)(hp:A.aB f=K)(hf:A.fn f=J af)(hn:O args=af.nparams)
  (hT:args++List.replicate (O af.names - O args) .any=T) (h:Ex A N6 0 af.body ⟨T,[]⟩ λx s=>R4 af 0 (J (x,s))=J (v,[])):Pf A f args v:=by
 obtain ⟨x,s,N,hq,h⟩:=h;refine ⟨N+1,λn hn' =>?_⟩;obtain ⟨n,rfl⟩:∃j,n=j+1:=⟨n - 1,V⟩;simp_all [zV,og,I4,List.length_nil]
def BR (H:k9)(strict k:Nat):D4 H strict k 0=0:=by
 cases k<;>simp [D4]
def aL {E:Env}{k:Nat}{f:FuncId}{args:List c7}{st:F5}{v:c7}(ee:E.prom f=F)(hm:E.mode f=1)(hb:A2 args=0)
  (hc:E.cf f args [] N6=J (v,[])):B7 E k f args st=J (put st k v):=by
 simp [B7,hb,BR];have h0:A6 st.H E.lim.strict 0=0:=by rfl
 have h1:E.cf f args [] ⟨0,0,0,0⟩=J (v,[]):=hc
 grind [D3]
def mZ (ops:List x9):Bool:=ops.all λi=> !i.op.y3&&i.Y2.all λe=>decide (e<O ops)
end
theorem wrap_small {n:Int}(h: -9223372036854775808<=n)(h2:n<9223372036854775808):IntKind.wrap .i64 n=n:=by
 grind [IntKind.wrap,IntKind.signed,IntKind.bits]
section
variable {A:Prog} {l:F9} {b:Nat}
def F0.Ph:F0->Bool
 | .load _ _=>W
 | .lookup .. =>W
 |_=>F
def kf:List x9->Nat
 |[]=>0
 |i::is=>max (if i.op.Ph then (i.Y2.map (·+1)).foldl max 0 else 0) (kf is)
theorem FA {ρ:A3->c7}{H:k9}{op:F0}{v:c7}{rs:List Nat}(h:l5 ρ H op=J (v,rs))(hr:op.Ph=F):rs=[]:=by
 cases op<;>simp [F0.Ph] at hr<;>simp [l5] at h<;>repeat' split at h
 all_goals simp_all
theorem wF {E:Env}{j8:List x9}{z6:Option Nat}{k:Nat}{i:x9}{st st' :F5}{rs:List Nat}(h:x8 E j8 z6 k i st=J (st',rs))(hr:i.op.Ph=F):rs=[]:=by
 simp [x8] at h;split at h
 .split at h
  next st1 Xz h1=>
   split at h
   .simp [B1] at h1
    split at h1
    .grind
    grind [Option.some.injEq,Prod.mk.injEq,FA]
   .cases h
  .cases h
 all_goals grind
theorem oE:∀(l:List Nat) (a:Nat),a<=l.foldl max a
 |[],_=>j9 _
 |x::l,a=>p7 (Nat.le_max_left a x) (oE l (max a x))
theorem mH:∀(l:List Nat) (a x:Nat),x∈l->x<=l.foldl max a
 |y::l,a,x,h=>by
  rcases List.mem_cons.1 h with rfl|h
  .grind [p7,Nat.le_max_right,oE]
  .exact mH l _ x h
theorem ur:∀{j8:List x9} {i:x9} {e:Nat},i∈j8->i.op.Ph=W->e∈i.Y2->e<kf j8
 |j::j8,i,e,h,hr,he=>by
  simp only [kf]
  rcases List.mem_cons.1 h with rfl|h
  .have:=mH (i.Y2.map (·+1)) 0 (e+1) (List.mem_map.2 ⟨e,he,rfl⟩)
   rw [hr,if_pos rfl];omega
  .have:=ur h hr he
   omega
def Rx (A:Prog)(l:F9)(b:Nat)(dr:Bool)(j8 ops:List x9)(T:List c7)(H:k9)(pre:List c7)(l6:List Touch)(Q:List c7->k9->List c7->Prop):Prop :=
 ∃r N,Q r.T r.H r.L/\∀n,N<=n->if dr=W then ∀na,∃lg:List cT,M4 (I4 A n l b) j8 ops (O pre) na ⟨T,H,pre++List.replicate (O ops) .any,l6⟩=J (r,lg)/\O lg=O ops/\∀k e,lg[k]? =J e->(O pre+k<kf j8->∀rs,E6 e.Co rs=F)/\∀i,ops[k]? =J i->i.op.Ph=F->e.reads=[]
  else eH (I4 A n l b) j8 ops (O pre) ⟨T,H,pre++List.replicate (O ops) .any,l6⟩=J r
variable {dr:Bool} {j8 ops:List x9} {T:List c7} {H:k9} {pre:List c7} {l6:List Touch} {Q:List c7->k9->List c7->Prop}
def Rx.nil (h:Q T H pre):Rx A l b dr j8 [] T H pre l6 Q:=by
 refine ⟨⟨T,H,pre,l6⟩,0,h,λn _=>?_⟩;simp_all [eH,M4]
def Rx.DJ {i:x9}{T' pre' :List c7}{H' :k9}{v:c7}{V8 :List Touch}{rs:List Nat}{N1:Nat}(hl:O pre'=O pre)
  (hk:F2 ⟨T,H,pre++ .any::List.replicate (O ops) .any,l6⟩ i.op=F) (ha:i.op.y3=F)
  (h:∀n,N1<=n->x8 (I4 A n l b) j8 K (O pre) i ⟨T,H,pre++ .any::List.replicate (O ops) .any,l6⟩=J (⟨T',H',pre' ++v::List.replicate (O ops) .any,V8⟩,rs))
  (ht:O pre<kf j8->∀rs,E6 (V8.take (O V8 - O l6)) rs=F) (h2:Rx A l b dr j8 ops T' H' (pre' ++[v]) V8 Q):Rx A l b dr j8 (i::ops) T H pre l6 Q:=by
 obtain ⟨r,N,hq,h2⟩:=h2;refine ⟨r,max N N1,hq,λn hn=>?_⟩;have h3:=h2 n V;have h4:=h n V;cases dr with
 |false =>
  simp_all [j6,if_false,List.length_cons,L3,eH]
 |true =>
  simp [List.length_cons,L3] at h3 ⊢;intro na;obtain ⟨lg,e1,e2,e3⟩:=h3 na;refine ⟨T0 (I4 A n l b) i K ⟨T,H,pre++ .any::List.replicate (O ops) .any,l6⟩ ⟨T',H',pre' ++v::List.replicate (O ops) .any,V8⟩ rs::lg,?_,by simp [e2],?_⟩
  .simp_all [M4,eS,Bool.false_and,j6,if_false]
  .intro k e he
   cases k with
   |zero =>
    grind [List.getElem?_cons_zero,Option.some.injEq,T0,W8,wF]
   |succ k =>
    grind
def Rx.stepG {i:x9}{T' pre' :List c7}{H' :k9}{v:c7}{V8 :List Touch}{rs:List Nat}{N1:Nat}(hl:O pre'=O pre)
  (hk:F2 ⟨T,H,pre++ .any::List.replicate (O ops) .any,l6⟩ i.op=F) (ha:i.op.y3=F)
  (h:∀n,N1<=n->x8 (I4 A n l b) j8 K (O pre) i ⟨T,H,pre++ .any::List.replicate (O ops) .any,l6⟩=J (⟨T',H',pre' ++v::List.replicate (O ops) .any,V8⟩,rs))
  (ht:∀rs,E6 (V8.take (O V8 - O l6)) rs=F) (h2:Rx A l b dr j8 ops T' H' (pre' ++[v]) V8 Q):Rx A l b dr j8 (i::ops) T H pre l6 Q :=
 Rx.DJ hl hk ha h (λ_=>ht) h2
def Rx.step {i:x9}{T' :List c7}{H' :k9}{v:c7}{V8 :List Touch}{rs:List Nat}{N1:Nat}(hk:F2 ⟨T,H,pre++ .any::List.replicate (O ops) .any,l6⟩ i.op=F)(ha:i.op.y3=F)
  (h:∀n,N1<=n->x8 (I4 A n l b) j8 K (O pre) i ⟨T,H,pre++ .any::List.replicate (O ops) .any,l6⟩=J (⟨T',H',pre++v::List.replicate (O ops) .any,V8⟩,rs))
  (ht:∀rs,E6 (V8.take (O V8 - O l6)) rs=F) (h2:Rx A l b dr j8 ops T' H' (pre++[v]) V8 Q):Rx A l b dr j8 (i::ops) T H pre l6 Q :=
 Rx.stepG rfl hk ha h ht h2
def SO (T pre:List c7):A3->Option c7
 | .slot s=>T[s]?
 | .loc j=>pre[j]?
 | .const v=>J v
def Op (T pre:List c7)(x:A3)(v:c7):Prop:=SO T pre x=J v/\v.I7=v
theorem Op.F1 {x:A3}{v:c7}(h:Op T pre x v)(m:Nat):F1 T (pre++ .any::List.replicate m .any) x=v:=by
 obtain ⟨h1,h2⟩:=h;cases x with
 |slot s=>simp_all [SO,y9.F1]
 |loc j =>
  grind [SO,y7,List.getElem?_eq_none,y9.F1,s9]
 |const u=>simp_all [SO,Option.some.injEq,y9.F1,Km]
theorem I6 (pre:List c7)(a v:c7)(r:List c7):(pre++a::r).set (O pre) v=pre++v::r:=by
 simp
def Rx.pure {op:F0}{u:List Nat}{v:c7}{rs:List Nat}(hE:op.A9=F)(hp:∀m,l5 (y9.F1 T (pre++ .any::List.replicate m .any)) H op=J (v,rs))
  (h2:Rx A l b dr j8 ops T H (pre++[v]) l6 Q):Rx A l b dr j8 (⟨op,K,K,u⟩::ops) T H pre l6 Q:=by
 have hm:∀x,op≠ .dJ x:=by
  rintro x rfl;simp_all [l5]
 refine Rx.step (N1:=0) (rs:=rs) ?_ ?_ ?_ ?_ h2
 .cases op<;>first|rfl|grind [F0.A9]
 .cases op<;>first|rfl|(simp [F0.A9] at hE)|skip
  rename_i ob;cases ob
  .rfl
  simp_all
 .intro n _
  have h3:B1 (I4 A n l b) j8 K (O pre) op ⟨T,H,pre++ .any::List.replicate (O ops) .any,l6⟩=J (⟨T,H,pre++v::List.replicate (O ops) .any,l6⟩,rs):=by
   simp_all [absurd,B1,j6,if_false,put,I6,F0.A9]
  grind [x8,y5,s8,C9]
 simp_all [E6]
theorem Op.E2 {x:A3}{v:c7}(h:Op T pre x v)(m:Nat):y9.E2 ⟨T,H,pre++ .any::List.replicate m .any,l6⟩ x=(v,⟨T,H,pre++ .any::List.replicate m .any,l6⟩):=by
 have hr:=h.F1 m;cases x with
 |slot s=>grind [y9.E2]
 |loc j =>
  obtain ⟨h1,h2⟩:=h
  grind [SO,y7,List.getElem?_eq_none,y9.E2,s9,c7.I7]
 |const u =>
  obtain ⟨h1,h2⟩:=h;simp [SO,Option.some.injEq] at h1;subst h1;rfl
theorem Rx.dJ {x:A3}{u:List Nat}{v:c7}(hx:Op T pre x v)(h2:Rx A l b dr j8 ops T H (pre++[v]) l6 Q):Rx A l b dr j8 (⟨.dJ x,K,K,u⟩::ops) T H pre l6 Q:=by
 refine Rx.step (N1:=0) (rs:=[]) rfl rfl (λn _=>?_) (λrs=>by simp [E6]) h2;simp [x8,y5,B1,F0.A9,j6,if_false,hx.E2,put,I6,s8,C9]
def Rx.VZ {x:A3}{u:List Nat}{v:c7}{s:Nat}(hx:Op T pre x v)(hs:T[s]?.isSome=W)(h2:Rx A l b dr j8 ops (T.set s v) H (pre++[v]) (.slot s::l6) Q) :
  Rx A l b dr j8 (⟨.dJ x,J s,K,u⟩::ops) T H pre l6 Q:=by
 refine Rx.step (N1:=0) (rs:=[]) rfl rfl (λn _=>?_) (λrs=>?_) h2
 .have hv:=hx.2
  have hs:s<O T:=by
   simp_all
  simp only [x8,y5,B1,F0.A9,j6,if_false,hx.E2,put,I6,s8,C9,hs,if_true];have h3:y9.E2 ⟨T,H,pre++v::List.replicate (O ops) .any,l6⟩ (.loc (O pre))=(v,⟨T,H,pre++v::List.replicate (O ops) .any,l6⟩):=by
   grind [y9.E2,c7.I7,y9.F1]
  rw [h3]
 simp_all [E6,Touch.E3]
def Rx.SJ {s:Nat}{u:List Nat}{z n:Nat}{cs:List Data}(hx:T[s]? =J (.own z n cs))(h2:Rx A l b dr j8 ops T H (pre++[.d (.slice n cs)]) l6 Q):Rx A l b dr j8 (⟨.dJ (.slot s),K,K,u⟩::ops) T H pre l6 Q:=by
 refine Rx.step (N1:=0) (rs:=[]) rfl rfl (λn _=>?_) (λrs=>by simp [E6]) h2;simp_all [x8,y5,B1,F0.A9,j6,if_false,y9.E2,put,I6,s8,C9,y9.F1,c7.I7]
def bZ (s:Nat)(l6:List Touch)(rs:List Nat):E6 ((Touch.slot s::l6).take (O (Touch.slot s::l6) - O l6)) rs=F:=by
 simp_all [E6,Touch.E3]
theorem Rx.append {j s sz bytes:Nat}{y:A3}{u u' :List Nat}{d' :Option Nat}{g' :Option (Nat×Bool)}{n' len m:Nat}{cs' cells new:List Data}{vy:c7}{cs:List c7}
  (hj:pre[j]? =J (.d (.slice n' cs'))) (ha:j8[j]? =J ⟨.dJ (.slot s),d',g',u'⟩) (ht:l6.any (Touch.P9 s)=F) (hT:T[s]? =J (.own sz len cells))
  (hy:∀m,y9.F1 T (pre++ .any::List.replicate m .any) y=vy) (hc:B4 H sz vy=J (m,cs)) (hd:H7 cs=J new) (hr:roomFor (len+m) bytes=W) (h0:0<sz)
  (h2:Rx A l b dr j8 ops (T.set s (.d (.slice len cells))) H (pre++[.own sz (len+m) (cells++new)]) (.slot s::l6) Q):Rx A l b dr j8 (⟨.append sz bytes F (.loc j) y,K,K,u⟩::ops) T H pre l6 Q:=by
 have hjl:j<O pre:=by
  grind
 have hL:∀r:List c7,(pre++ .any::r)[j]? =J (.d (.slice n' cs')):=λr=>by grind
 have Sq:y9.F1 T (pre++ .any::List.replicate (O ops) .any) (.loc j)= .d (.slice n' cs'):=by simp [y9.F1,hL,c7.I7]
 refine Rx.step (N1:=0) (rs:=[]) (by simp_all [F2]) rfl (λn _=>?_) (bZ s l6) h2;simp_all [x8,y5,B1,F0.A9,B9,J1,O6,W0,put,s8,C9]<;>grind
def Rx.LF {j s:Nat}{u:List Nat}{z n0:Nat}{cs:List Data}(hj:pre[j]? =J (.own z n0 cs))(hs:T[s]?.isSome=W)
  (h2:Rx A l b dr j8 ops (T.set s (.own z n0 cs)) H (pre.set j (.d (.slice n0 cs))++[.d (.slice n0 cs)]) (.slot s::l6) Q):Rx A l b dr j8 (⟨.dJ (.loc j),J s,K,u⟩::ops) T H pre l6 Q:=by
 have hjl:j<O pre:=by
  grind
 have hs:s<O T:=by
  simp_all
 refine Rx.stepG (N1:=0) (rs:=[]) U rfl rfl (λn _=>?_) (bZ s l6) h2;have hL:∀r:List c7,(pre++ .any::r)[j]? =J (.own z n0 cs):=λr=>by grind
 have h4:∀(a v:c7) (r:List c7),(pre.set j (.d (.slice n0 cs))++a::r).set (O pre) v=pre.set j (.d (.slice n0 cs))++v::r:=λa v r=>M
 simp_all [x8,y5,B1,F0.A9,j6,if_false,y9.E2,put,s8,C9,if_true]
def Rn.ON {T:List c7}{H:k9}(h:Rx A l b F ops ops T H [] [] Q):Rn A l b ops F T H Q:=by
 obtain ⟨r,N,hq,h⟩:=h;exact ⟨r,N,hq,λn hn=>by simp_all [P0]⟩
def Rn.OM {T:List c7}{H:k9}(hp:mZ ops=W)(h:Rx A l b W ops ops T H [] [] Q):Rn A l b ops W T H Q:=by
 obtain ⟨r,N,hq,h⟩:=h;refine ⟨r,N,hq,λn hn=>?_⟩;have h1:=h n hn;obtain ⟨lg,e1,e2,e3⟩:=h1 (O H);simp only [mZ,List.all_eq_true,Bool.and_eq_true,Bool.not_eq_true',decide_eq_true_eq] at hp;have qG:S8 ops=[]:=by
  simp_all [S8,List.map_eq_nil_iff,List.filter_eq_nil_iff,Bool.not_eq_true]
 have qo:slotsOf ops=[]:=by
  simp_all [slotsOf,List.filterMap_eq_nil_iff]
 have ah6:aT ops lg=W:=by
  simp only [aT,List.all_eq_true];rintro ⟨i,le⟩ sr e he;obtain ⟨j,hj,hji⟩:=E9 sr;simp [List.length_zip] at hj;have hj1:j<O ops:=V
  have hj2:j<O lg:=V
  simp [List.getElem_zip] at hji;obtain ⟨rfl,rfl⟩:=hji;have hi:ops[j]∈ops:=List.getElem_mem hj1;have hlt:=(hp _ hi).2 e he;have this:e<O lg:=V
  have hmk:ops[j].op.makes=F:=by
   have:=(hp _ hi).1;cases ho:ops[j].op<;>rw [ho] at this<;>first|rfl|exact this
  cases hr:ops[j].op.Ph with
  |true =>
   have h5:=(e3 e _ (n9 this)).1 (by simpa using ur hi hr he);simp_all
  |false =>
   have h5:=(e3 j _ (n9 hj2)).2 _ (n9 hj1) hr
   grind [E6]
 simp_all [List.length_nil,List.nil_append,P0,if_true,List.append_nil]
theorem Rx.call {f:FuncId}{xs:List A3}{u:List Nat}{v:c7}{args:List c7}(ee:A.prom f=F)(hm:A.mode f=1)(ha:∀m,xs.map (y9.F1 T (pre++ .any::List.replicate m .any))=args)
  (hb:A2 args=0) (hc:Pf A f args v) (h2:Rx A l b dr j8 ops T H (pre++[v]) l6 Q):Rx A l b dr j8 (⟨.call f xs,K,K,u⟩::ops) T H pre l6 Q:=by
 obtain ⟨d8,hc⟩:=hc;refine Rx.step (N1:=d8) (rs:=[]) rfl rfl (λn hn=>?_) (λrs=>by simp [E6]) h2;have h3:B7 (I4 A n l b) (O pre) f args ⟨T,H,pre++ .any::List.replicate (O ops) .any,l6⟩=J (put ⟨T,H,pre++ .any::List.replicate (O ops) .any,l6⟩ (O pre) v) :=
  aL ee hm hb (hc n hn)
 simp_all [x8,y5,B1,F0.A9,if_true,B9,s8,C9,put,I6]
def zP {o:BinOp}{c d e:Int}(h:o= .add/\c+d=e\/o= .sub/\c - d=e)(h0: -9223372036854775808<=e)(h1:e<9223372036854775808):H8 o (.int .i64 c) (.int .i64 d)=J (.int .i64 e):=by
 grind [H8,Q8,W4,wrap_small]
end
abbrev G4:=List UInt8
def s7 {α:Type}(f:α->List Data)(l:List α):Data:= .slice (O l) (l.flatMap f)
def Z (n:Int):Data:= .int .i64 n
structure R2 where
 op:Int
 kind:Int
 int:Int
 text:G4
 col:Int
def R2.enc (t:R2):List Data:=[Z t.op,Z t.kind,Z t.int,.str t.text,Z t.col]
structure P4 where
 name:G4
 type:Int
 space:G4
 refs:G4
 C6:List Int
 bU:Int
 fZ:Int
def P4.enc (c:P4):List Data:=[.str c.name,Z c.type,.str c.space,.str c.refs,s7 (λn=>[Z n]) c.C6,Z c.bU,Z c.fZ]
structure cw where
 name:G4
 o7:List P4
 erase:Int
 Z7:Int
def cw.enc (t:cw):List Data:=[.str t.name,s7 P4.enc t.o7,Z t.erase,Z t.Z7]
structure tM where
 name:G4
 expr:List R2
def tM.enc (x:tM):List Data:=[.str x.name,s7 R2.enc x.expr]
structure sZ where
 name:G4
 func:Int
 expr:List R2
def sZ.enc (x:sZ):List Data:=[.str x.name,Z x.func,s7 R2.enc x.expr]
structure Vw where
 name:G4
 kind:Int
 left:G4
 right:G4
 on:List (Int×Int)
 wh:List R2
 items:List tM
 distinct:Bool
 F6:List sZ
def Vw.enc (v:Vw):List Data:=[.str v.name,Z v.kind,.str v.left,.str v.right,s7 (λp=>[Z p.1,Z p.2]) v.on,s7 R2.enc v.wh,s7 tM.enc v.items,.bool v.distinct,s7 sZ.enc v.F6]
structure gZ where
 name:G4
 source:G4
 col:Int
def gZ.enc (x:gZ):List Data:=[.str x.name,.str x.source,Z x.col]
structure gW where
 name:G4
 source:G4
 col:Int
 kind:Int
 width:Int
 depth:Int
def gW.enc (x:gW):List Data:=[.str x.name,.str x.source,Z x.col,Z x.kind,Z x.width,Z x.depth]
structure jK where
 name:G4
 source:G4
 col:Int
 ttl:Int
def jK.enc (x:jK):List Data:=[.str x.name,.str x.source,Z x.col,Z x.ttl]
structure jD where
 name:G4
 source:G4
 TG:Int
def jD.enc (x:jD):List Data:=[.str x.name,.str x.source,Z x.TG]
structure me where
 name:G4
 table:G4
def me.enc (x:me):List Data:=[.str x.name,.str x.table]
structure mc where
 name:G4
 tables:List G4
 keep:Int
def mc.enc (x:mc):List Data:=[.str x.name,s7 (λs=>[.str s]) x.tables,Z x.keep]
structure o9 where
 j7:List cw
 views:List Vw
 idxs:List gZ
 G7:List gW
 I5:List jK
 J5:List jD
 J6:List me
 L4:List mc
def o9.enc (c:o9):List Data:=[s7 cw.enc c.j7,s7 Vw.enc c.views,s7 gZ.enc c.idxs,s7 gW.enc c.G7,s7 jK.enc c.I5,s7 jD.enc c.J5,s7 me.enc c.J6,s7 mc.enc c.L4]
def UM:CT:= .int .i64
def tG (n:Int):Prop:= -9223372036854775808<=n/\n<9223372036854775808
def uW {α:Type}{e:List CT}{enc:α->List Data}{ok:α->Prop}(hr:∀r,U3 e r->∃a,r=enc a/\ok a){d:Data}(h:Fits (.slice e) d) :
  ∃l:List α,d=s7 enc l/\O l<=maxLen/\∀a,a∈l->ok a:=by
 obtain ⟨rows,rfl,hl,hall⟩:=h;have:∀rows:List (List Data),(∀r,r∈rows->U3 e r)->∃l:List α,O l=O rows/\rows.flatten=l.flatMap enc/\∀a,a∈l->ok a:=by
  intro rows
  induction rows with
  |nil=>simp_all
  |cons r rs ih =>
   intro h;obtain ⟨a,ha,hok⟩:=hr r (h r U);obtain ⟨l,h1,h2,h3⟩:=ih (λr hr' =>h r (by simp [hr']));refine ⟨a::l,by simp [h1],by simp [h2,ha],?_⟩;simp_all
 obtain ⟨l,h1,h2,h3⟩:=this rows hall
 grind [s7]
def Ce {d:Data}(h:Fits UM d):∃n,d=Z n/\tG n:=by
 obtain ⟨n,rfl,hw⟩:=h;refine ⟨n,rfl,?_⟩;simp [Lit.wf] at hw;have hm:IntKind.i64.min= -9223372036854775808:=rfl
 grind [tG]
structure R2.ok (x:R2):Prop where
 op:tG x.op
 kind:tG x.kind
 int:tG x.int
 text:O x.text<=maxLen
 col:tG x.col
structure P4.ok (x:P4):Prop where
 name:O x.name<=maxLen
 type:tG x.type
 space:O x.space<=maxLen
 refs:O x.refs<=maxLen
 C6:O x.C6<=maxLen/\∀a,a∈x.C6->tG a
 bU:tG x.bU
 fZ:tG x.fZ
structure cw.ok (x:cw):Prop where
 name:O x.name<=maxLen
 o7:O x.o7<=maxLen/\∀a,a∈x.o7->a.ok
 erase:tG x.erase
 Z7:tG x.Z7
structure tM.ok (x:tM):Prop where
 name:O x.name<=maxLen
 expr:O x.expr<=maxLen/\∀a,a∈x.expr->a.ok
structure sZ.ok (x:sZ):Prop where
 name:O x.name<=maxLen
 func:tG x.func
 expr:O x.expr<=maxLen/\∀a,a∈x.expr->a.ok
structure Vw.ok (x:Vw):Prop where
 name:O x.name<=maxLen
 kind:tG x.kind
 left:O x.left<=maxLen
 right:O x.right<=maxLen
 on:O x.on<=maxLen/\∀a,a∈x.on->tG a.1/\tG a.2
 wh:O x.wh<=maxLen/\∀a,a∈x.wh->a.ok
 items:O x.items<=maxLen/\∀a,a∈x.items->a.ok
 distinct:True
 F6:O x.F6<=maxLen/\∀a,a∈x.F6->a.ok
structure gZ.ok (x:gZ):Prop where
 name:O x.name<=maxLen
 source:O x.source<=maxLen
 col:tG x.col
structure gW.ok (x:gW):Prop where
 name:O x.name<=maxLen
 source:O x.source<=maxLen
 col:tG x.col
 kind:tG x.kind
 width:tG x.width
 depth:tG x.depth
structure jK.ok (x:jK):Prop where
 name:O x.name<=maxLen
 source:O x.source<=maxLen
 col:tG x.col
 ttl:tG x.ttl
structure jD.ok (x:jD):Prop where
 name:O x.name<=maxLen
 source:O x.source<=maxLen
 TG:tG x.TG
structure me.ok (x:me):Prop where
 name:O x.name<=maxLen
 table:O x.table<=maxLen
structure mc.ok (x:mc):Prop where
 name:O x.name<=maxLen
 tables:O x.tables<=maxLen/\∀a,a∈x.tables->O a<=maxLen
 keep:tG x.keep
structure o9.ok (x:o9):Prop where
 j7:O x.j7<=maxLen/\∀a,a∈x.j7->a.ok
 views:O x.views<=maxLen/\∀a,a∈x.views->a.ok
 idxs:O x.idxs<=maxLen/\∀a,a∈x.idxs->a.ok
 G7:O x.G7<=maxLen/\∀a,a∈x.G7->a.ok
 I5:O x.I5<=maxLen/\∀a,a∈x.I5->a.ok
 J5:O x.J5<=maxLen/\∀a,a∈x.J5->a.ok
 J6:O x.J6<=maxLen/\∀a,a∈x.J6->a.ok
 L4:O x.L4<=maxLen/\∀a,a∈x.L4->a.ok
section
variable {A:Prog} {l:F9} {b:Nat}
variable {dr:Bool} {j8 ops:List x9} {T:List c7} {H:k9} {pre:List c7} {l6:List Touch} {Q:List c7->k9->List c7->Prop}
theorem gP {j:Nat}{v:c7}(h:pre[j]? =J v)(r:List c7):(pre++r)[j]? =J v:=by
 grind
def Rx.Pv {op:F0}{j:Nat}{want w:Bool}{u:List Nat}(h:pre[j]? =J (.d (.bool w)))(hw:(w==want)=F)(hk:F2 ⟨T,H,pre++ .any::List.replicate (O ops) .any,l6⟩ op=F)(ha:op.y3=F)
  (h2:Rx A l b dr j8 ops T H (pre++[.tuple []]) l6 Q):Rx A l b dr j8 (⟨op,K,J (j,want),u⟩::ops) T H pre l6 Q:=by
 refine Rx.step (N1:=0) (rs:=[]) hk ha (λn _=>?_) (λrs=>by simp [E6]) h2
 grind [x8,y5,gP,put,I6,s8,C9]
theorem qy {mask:List Bool}{strict n:Nat}(h:O H=n):clean mask strict n ⟨T,H⟩=⟨P8 mask T,H⟩:=by
 grind [clean]
def Ba {E:Env}{z6:Option Nat}{k j:Nat}{op:F0}{dst:Option Nat}{want w:Bool}{u:List Nat}{st:F5}(h:st.L[j]? =J (.d (.bool w)))(hw:(w==want)=W) :
  x8 E j8 z6 k ⟨op,dst,J (j,want),u⟩ st=x8 E j8 z6 k ⟨op,dst,K,u⟩ st:=by
 simp_all [x8,y5]
def Rx.wanted {op:F0}{dst:Option Nat}{j:Nat}{want w:Bool}{u:List Nat}(h:pre[j]? =J (.d (.bool w)))(hw:(w==want)=W)
  (h2:Rx A l b dr j8 (⟨op,dst,K,u⟩::ops) T H pre l6 Q):Rx A l b dr j8 (⟨op,dst,J (j,want),u⟩::ops) T H pre l6 Q:=by
 obtain ⟨r,N,hq,hr⟩:=h2;refine ⟨r,N,hq,λn hn=>?_⟩;have h3:=hr n hn;have h4:∀E z6,x8 E j8 z6 (O pre) ⟨op,dst,J (j,want),u⟩ ⟨T,H,pre++List.replicate (O ops+1) .any,l6⟩=x8 E j8 z6 (O pre) ⟨op,dst,K,u⟩ ⟨T,H,pre++List.replicate (O ops+1) .any,l6⟩ :=
  λE z6=>Ba (gP h _) hw
 cases dr with
 |false =>
  simp_all [j6,if_false,List.length_cons,eH]
 |true =>
  simp [List.length_cons,M4,eS] at h3 ⊢;intro na;rw [h4];obtain ⟨lg,e1,e2,e3⟩:=h3 na;refine ⟨lg,e1,e2,λk e he=>⟨(e3 k e he).1,λi hi hr=>?_⟩⟩
  grind
def Rx.stepT {i:x9}{T' pre' :List c7}{H' :k9}{v:c7}{V8 :List Touch}{rs:List Nat}{N1:Nat}(hl:O pre'=O pre)
  (h:∀n,N1<=n->x8 (I4 A n l b) j8 K (O pre) i ⟨T,H,pre++ .any::List.replicate (O ops) .any,l6⟩=J (⟨T',H',pre' ++v::List.replicate (O ops) .any,V8⟩,rs))
  (h2:Rx A l b F j8 ops T' H' (pre' ++[v]) V8 Q):Rx A l b F j8 (i::ops) T H pre l6 Q:=by
 obtain ⟨r,N,hq,h2⟩:=h2;refine ⟨r,max N N1,hq,λn hn=>?_⟩
 grind [eH]
def Rx.UF {x:A3}{u:List Nat}{v:c7}{cs:List c7}{s:Nat}(hx:Op T pre x v)(hc:v.cells? =J cs)(hs:T[s]?.isSome=W)
  (h2:Rx A l b F j8 ops (T.set s (.ptr (O H) 0)) (H++[.cells cs]) (pre++[.ptr (O H) 0]) (.slot s::l6) Q):Rx A l b F j8 (⟨.box x,J s,K,u⟩::ops) T H pre l6 Q:=by
 have hs:s<O T:=by
  simp_all
 refine Rx.stepT (N1:=0) (rs:=[]) rfl (λn _=>?_) h2;have h3:∀r:List c7,(pre++ .ptr (O H) 0::r)[O pre]? =J (.ptr (O H) 0):=λr=>U
 simp [x8,y5,B1,F0.A9,if_true,B9,hx.F1,hc,C8,newId,put,s8,C9,hs,y9.E2];simp [y9.F1,c7.I7]
def Rx.Wc {s z n0:Nat}{cs:List Data}{u:List Nat}(hs:T[s]?.isSome=W)(h2:Rx A l b dr j8 ops (T.set s (.own z n0 cs)) H (pre++[.d (.slice n0 cs)]) (.slot s::l6) Q) :
  Rx A l b dr j8 (⟨.dJ (.const (.own z n0 cs)),J s,K,u⟩::ops) T H pre l6 Q:=by
 have hs:s<O T:=by
  simp_all
 refine Rx.step (N1:=0) (rs:=[]) rfl rfl (λn _=>?_) (bZ s l6) h2;simp_all [x8,y5,B1,F0.A9,j6,if_false,y9.E2,put,I6,s8,C9,if_true]
def Ex.yU {mask:List Bool}{body:K7}{R:G6->St->Prop}(Inv:Nat->List c7->k9->Prop)(hl:∀k T' H',Inv k T' H' ->O H'=O H)
  (hb:∀k T' H',Inv k T' H' ->Ex A l b body ⟨P8 mask T',H'⟩ (jO R λs=>∃k',k' <k/\Inv k' s.T s.H)) {k:Nat} (h:Inv k T H):Ex A l b (.loop mask body) ⟨T,H⟩ R:=by
 refine Ex.loop (λk s=>Inv k s.T s.H) (λk s hs=>?_) (k:=k) h;obtain ⟨T',H'⟩:=s
 grind [qy]
end
theorem je {α:Type}{enc:α->List Data}{sz:Nat}(hs:∀a,O (enc a)=sz):∀(l:List α) (i:Nat) (h:i<O l),(l.flatMap enc).drop (i * sz)=enc l[i]++(l.drop (i+1)).flatMap enc
 |a::l,0,h=>U
 |a::l,i+1,h=>by
  have h1:=je hs l i (by simpa using h);rw [List.flatMap_cons,Nat.succ_mul,Nat.add_comm,<- List.drop_drop];rw [show (enc a++l.flatMap enc).drop sz=l.flatMap enc by rw [<- hs a,List.drop_left]];simpa using h1
def Kv {α:Type}{enc:α->List Data}{sz:Nat}(hs:∀a,O (enc a)=sz)(l:List α)(i:Nat)(h:i<O l) :
  (l.flatMap enc).drop ((i:Int).toNat * sz)=enc l[i]++(l.drop (i+1)).flatMap enc:=by
 rw [Int.toNat_natCast];exact je hs l i h
def o9.names (c:o9):List G4:=c.j7.map cw.name++c.views.map Vw.name++c.idxs.map gZ.name++c.G7.map gW.name++c.I5.map jK.name++c.J5.map jD.name++c.J6.map me.name++c.L4.map mc.name
def cat (c:o9):c7:= .agg (c.enc.map .d)
def o9.eD (c:o9):Prop:=O c.j7<=1000/\O c.views<=1000/\O c.idxs<=1000/\O c.G7<=1000/\O c.I5<=1000/\O c.J5<=1000/\O c.J6<=1000/\O c.L4<=1000
open Go
def PY (P:Program)(g:FuncId->Option p6)(f:Nat):Bool:=match g f with
 |none=>W
 |some af=>match P.funcs[f]? with
  |some fn=>gd P fn af
  |none=>F
def upTo (n:Nat)(g:FuncId->Option p6)(f:FuncId):Option p6:=match Nat.blt f n with
 |true=>g f
 |false=>K
def eE (P:Program)(g:FuncId->Option p6)(k:Nat):Bool:=(List.range' (32 * k) 32).all (PY P g)
def PK {P:Program}{g:FuncId->Option p6}{n:Nat}(h:∀k,k<n->eE P g k=W)(f:FuncId)(af:p6)(hf:upTo (32 * n) g f=J af):∃fn,P.funcs[f]? =J fn/\gd P fn af=W:=by
 unfold upTo at hf;split at hf
 next hb=>
  have hb:Nat.lt f (32 * n):=j4 hb;have hb: @LT.lt Nat _ f (32 * n):=hb;have h1:=List.all_eq_true.1 (h (f / 32) (Nat.div_lt_of_lt_mul hb)) f (List.mem_range'_1.2 ⟨Nat.mul_div_le f 32,Nat.lt_mul_div_succ f (by decide)⟩);unfold PY at h1;rw [hf] at h1;simp only at h1;split at h1
  next fn hfn=>
   exact ⟨fn,hfn,h1⟩
  .cases h1
 .cases hf
end Go.y9
namespace Go.y9
def fW {α:Type}(a b:Option α):Prop:=∀r,a=J r->b=J r
theorem fW.refl {α:Type}(a:Option α):fW a a:=λ_ h=>h
def fW.no {α:Type}(b:Option α):fW K b:=λ_ h=>by cases h
def XP (c c' :nW):Prop:=∀f args H l,fW (c f args H l) (c' f args H l)
section
variable {cf Jw :nW} (hc:XP cf Jw) {p:FuncId->Bool} {md:FuncId->Nat} {nV:FuncId->Bool} {l:F9} {e:Nat}
include hc
def ux (k:Nat)(f:FuncId)(args:List c7)(st:F5):fW (B7 ⟨cf,p,md,nV,l,e⟩ k f args st) (B7 ⟨Jw,p,md,nV,l,e⟩ k f args st):=by
 unfold B7;simp only;split
 .cases h:cf f args st.H l with
  |none=>exact fW.no _
  |some r=>rw [hc _ _ _ _ _ h];exact fW.refl _
 .split
  .split
   .cases h:cf f args (List.take (D4 st.H l.strict 8 (A2 args)) st.H) { l with base:=D4 st.H l.strict 8 (A2 args),strict:=A6 st.H l.strict (D4 st.H l.strict 8 (A2 args)) } with
    |none=>exact fW.no _
    |some r=>rw [hc _ _ _ _ _ h];exact fW.refl _
   .cases h:cf f args (List.take (D4 st.H l.strict 8 (A2 args)) st.H) ⟨0,D4 st.H l.strict 8 (A2 args),D4 st.H l.strict 8 (A2 args),A6 st.H l.strict (D4 st.H l.strict 8 (A2 args))⟩ with
    |none=>exact fW.no _
    |some r=>rw [hc _ _ _ _ _ h];exact fW.refl _
   .cases h:cf f args (List.take (D4 st.H l.strict 8 (A2 args)) st.H) (l.fM (args.headD .any).F4 (D4 st.H l.strict 8 (A2 args)) (D4 st.H l.strict 8 (A2 args)) (A6 st.H l.strict (D4 st.H l.strict 8 (A2 args)))) with
    |none=>exact fW.no _
    |some r=>rw [hc _ _ _ _ _ h];exact fW.refl _
  .exact fW.no _
def Kt (j8:List x9)(z6:Option Nat)(k:Nat)(st:F5)(op:F0):fW (B9 ⟨cf,p,md,nV,l,e⟩ j8 z6 k st op) (B9 ⟨Jw,p,md,nV,l,e⟩ j8 z6 k st op):=by
 cases op
 case call f xs=>exact ux hc k f _ st
 case M8 sz len z ps b=>cases b<;>exact fW.refl _
 case bJ x xs =>
  simp [B9];split
  all_goals simp_all [ux,fW.no]
 all_goals exact fW.refl _
def MD (j8:List x9)(z6:Option Nat)(k:Nat)(op:F0)(st:F5):fW (B1 ⟨cf,p,md,nV,l,e⟩ j8 z6 k op st) (B1 ⟨Jw,p,md,nV,l,e⟩ j8 z6 k op st):=by
 unfold B1;split
 .intro r hr
  cases hx:B9 ⟨cf,p,md,nV,l,e⟩ j8 z6 k st op with
  |none=>simp_all
  |some x =>
   rw [hx] at hr;rw [Kt hc j8 z6 k st op _ hx];exact hr
 .exact fW.refl _
def DG (j8:List x9)(z6:Option Nat)(k:Nat)(i:x9)(st:F5):fW (x8 ⟨cf,p,md,nV,l,e⟩ j8 z6 k i st) (x8 ⟨Jw,p,md,nV,l,e⟩ j8 z6 k i st):=by
 unfold x8;split
 .intro r hr
  cases hx:B1 ⟨cf,p,md,nV,l,e⟩ j8 z6 k i.op st with
  |none=>simp_all
  |some x =>
   rw [hx] at hr;rw [MD hc j8 z6 k i.op st _ hx];exact hr
 all_goals simp_all [fW.refl]
theorem zq (j8:List x9):∀(is:List x9) (k:Nat) (st:F5),fW (eH ⟨cf,p,md,nV,l,e⟩ j8 is k st) (eH ⟨Jw,p,md,nV,l,e⟩ j8 is k st)
 |[],_,_=>fW.refl _
 |i::is,k,st=>by
  unfold eH;intro r hr;cases hx:x8 ⟨cf,p,md,nV,l,e⟩ j8 K k i st with
  |none=>simp_all
  |some x =>
   rw [hx] at hr;rw [DG hc j8 K k i st _ hx];exact zq j8 is (k+1) x.1 r hr
def MC (j8:List x9)(z6:Option Nat)(k:Nat)(i:x9)(st:F5):fW (eS ⟨cf,p,md,nV,l,e⟩ j8 z6 k i st) (eS ⟨Jw,p,md,nV,l,e⟩ j8 z6 k i st):=by
 unfold eS;split
 .exact fW.refl _
 .intro r hr
  cases hx:x8 ⟨cf,p,md,nV,l,e⟩ j8 z6 k i st with
  |none=>simp_all
  |some x =>
   rw [hx] at hr;rw [DG hc j8 z6 k i st _ hx];exact hr
theorem wk (j8:List x9):∀(is:List x9) (k na:Nat) (st:F5),fW (M4 ⟨cf,p,md,nV,l,e⟩ j8 is k na st) (M4 ⟨Jw,p,md,nV,l,e⟩ j8 is k na st)
 |[],_,_,_=>fW.refl _
 |i::is,k,na,st=>by
  unfold M4;intro r hr;cases hx:eS ⟨cf,p,md,nV,l,e⟩ j8 (if i.op.y3 then J na else K) k i st with
  |none=>simp_all
  |some x =>
   rw [hx] at hr;rw [MC hc j8 _ k i st _ hx];simp at hr ⊢;cases hy:M4 ⟨cf,p,md,nV,l,e⟩ j8 is (k+1) (if i.op.y3 then na+1 else na) x.1 with
   |none=>simp_all
   |some y =>
    rw [hy] at hr;rw [wk j8 is (k+1) _ x.1 _ hy];exact hr
def pH (j8:List x9)(draw:Bool)(T:List c7)(H:k9):fW (P0 ⟨cf,p,md,nV,l,e⟩ j8 draw T H) (P0 ⟨Jw,p,md,nV,l,e⟩ j8 draw T H):=by
 unfold P0;split
 .intro r hr
  cases hx:M4 ⟨cf,p,md,nV,l,e⟩ j8 j8 0 (O H) ⟨T,H++S8 j8,List.replicate (O j8) .any,slotsOf j8⟩ with
  |none=>simp_all
  |some x =>
   rw [hx] at hr;rw [wk hc j8 j8 0 _ _ _ hx];exact hr
 simp_all [zq]
end
theorem CI {body body' :St->Option (G6×St)}(hb:∀st,fW (body st) (body' st))(mask:List Bool)(strict n:Nat):∀(k k' :Nat) (_:k<=k') (st:St),fW (iG body mask strict n k st) (iG body' mask strict n k' st)
 |0,_,_,_=>fW.no _
 |k+1,0,h,_=>V
 |k+1,k' +1,h,st=>by
  unfold iG;intro r hr;cases hx:body (clean mask strict n st) with
  |none=>simp_all
  |some x =>
   rw [hx] at hr;rw [hb _ _ hx];obtain ⟨x1,x2⟩:=x;cases x1 with
   |normal=>exact CI hb mask strict n k k' V x2 r hr
   |exit i=>exact hr
   |ret=>exact hr
theorem dS {cf Jw :nW}(hc:XP cf Jw){p:FuncId->Bool}{md:FuncId->Nat}{nV:FuncId->Bool}{l:F9}{e n n' :Nat}(hn:n<=n'):∀(c:K7) (st:St),fW (exec ⟨cf,p,md,nV,l,e⟩ n c st) (exec ⟨Jw,p,md,nV,l,e⟩ n' c st)
 | .skip,_=>fW.refl _
 | .exit _,_=>fW.refl _
 | .ret,_=>fW.refl _
 | .bad,_=>fW.refl _
 | .fz _,_=>fW.refl _
 | .region ops draw,st=>by
  unfold exec;intro r hr;cases hx:P0 ⟨cf,p,md,nV,l,e⟩ ops draw st.T st.H with
  |none=>simp_all
  |some x =>
   rw [hx] at hr;rw [pH hc ops draw st.T st.H _ hx];exact hr
 | .seq a b,st=>by
  unfold exec;intro r hr;cases hx:exec ⟨cf,p,md,nV,l,e⟩ n a st with
  |none=>simp_all
  |some x =>
   rw [hx] at hr;rw [dS hc hn a st _ hx];obtain ⟨x1,x2⟩:=x;cases x1 with
   |normal=>exact dS hc hn b x2 r hr
   |exit i=>exact hr
   |ret=>exact hr
 | .cond c a b,st=>by
  unfold exec;split
  .exact dS hc hn a st
  .exact dS hc hn b st
  .exact fW.refl _
 | .test ops draw c a b,st=>by
  unfold exec;intro r hr;cases hx:P0 ⟨cf,p,md,nV,l,e⟩ ops draw st.T st.H with
  |none=>simp_all
  |some x =>
   rw [hx] at hr;rw [pH hc ops draw st.T st.H _ hx];simp at hr ⊢;split at hr
   .exact dS hc hn a _ r hr
   .exact dS hc hn b _ r hr
   .cases hr
 | .block id body,st=>by
  unfold exec;intro r hr;cases hx:exec ⟨cf,p,md,nV,l,e⟩ n body st with
  |none=>simp_all
  |some x =>
   rw [hx] at hr;rw [dS hc hn body st _ hx];exact hr
 | .loop mask body,st=>by
  exact CI (λst=>dS hc hn body st) mask _ _ n n' hn st
theorem zW (A:Prog):∀(n n' :Nat),n<=n' ->XP (call A n) (call A n')
 |0,_,_=>λ_ _ _ _=>fW.no _
 |n+1,0,h=>V
 |n+1,n' +1,h=>λf args H l=>by
  unfold call;split
  .exact fW.refl _
  .split
   next af _=>
    unfold dZ;split
    .intro r hr
     cases hx:exec ⟨call A n,A.prom,A.mode,A.idle,l,O H⟩ n af.body ⟨args++List.replicate (O af.names - O args) .any,H⟩ with
     |none=>simp_all
     |some x =>
      rw [hx] at hr;rw [dS (zW A n n' V) V _ _ _ hx];exact hr
    .exact fW.no _
   .exact fW.refl _
def Pf.OL {A:Prog}{n:Nat}{f:FuncId}{args:List c7}{v:c7}(h:call A n f args [] N6=J (v,[])):Pf A f args v :=
 ⟨n,λm hm=>zW A n m hm f args [] N6 _ h⟩
open Go.ChangeShapes Go.WideShapes Go.ChangeAt Go.RowKit
section
variable {H:Type} {enc:TypeId×Value->H} {P:Program} {w:World} {held:Bool} {base:Nat} {spare:Nat->Bool}
def MS {t e:TypeId}{fuel:Nat}{a:Addr}{len cap:Nat}{x:DataW H×List MemPlace}(hu:P.underlying t=J (.slice e))(h:DataW.trod enc P w base spare held fuel t [.slice (J a) len cap]=J x):∃elems rest,x.1= .slice elems rest/\O elems=len:=by
 cases fuel with
 |zero=>simp [DataW.trod] at h
 |succ fuel =>
  unfold DataW.trod at h
  grind [Option.bind_eq_some_iff,Option.map_eq_some_iff,List.length_map,eW,List.length_range]
def YD (P:Program)(ts:List TypeId)(as:List c7):Prop:=∀(j:Nat) (t e:TypeId) (n:Nat) (cells:List Data),ts[j]? =J t->P.underlying t=J (.slice e)->as[j]? =J (.d (.slice n cells))->n * P.bytesOf e<=reachBytes
theorem ML:∀(ts:List TypeId) (vs:List Value) (ds:List (DataW H)) (ps:List MemPlace) (as:List c7),DataW.TrodAll enc P w base spare held ts vs ds ps->H6 (G0 w) I0 N0 w as vs->(DataW.weightsEach P ts ds).all (·<=reachBytes)=W->YD P ts as
 |[],_,_,_,_,_,_,_=>λj t e n cells ht=>by simp at ht
 |t::ts,vs,ds,ps,as,h,hv,hs=>λj t' e n cells ht hu ha=>by
  obtain ⟨v,vs1,d,ds1,a,b,rfl,rfl,rfl,h1,h2⟩:=Go.ChangeShapes.trodAll_cons h;cases as with
  |nil=>simp at ha
  |cons a0 as =>
   obtain ⟨v',xs,e1,Qu,Uf⟩:=hv;cases e1;simp only [DataW.weightsEach,List.all_append,Bool.and_eq_true] at hs;cases j with
   |succ j=>exact ML ts _ _ _ as h2 Uf hs.2 j t' e n cells M hu M
   |zero =>
    simp [List.getElem?_cons_zero,Option.some.injEq] at ht ha;subst ht ha
    rcases Qu with ⟨_,rfl,_⟩|⟨bb,o,cap,rfl,_,_⟩
    .simp
    .obtain ⟨fuel,hf⟩:=h1
     obtain ⟨elems,rest,e2,e3⟩:=MS hu hf;have:=sized_slice (ts:=[t]) (ds:=[.slice elems rest]) (by simp_all [DataW.weightsEach,List.all_append,Bool.and_eq_true]) (j:=0) rfl rfl hu
     grind
end
def xE {H:Type}{enc:TypeId×Value->H}{P:Program}{A:Prog}(hok:mQ P A){fid:FuncId}{f:Func}{s:ChangeSpec}(hvars:s.vars=[]){tb:TypeId}(Lb:f.resultTypes= #[tb])(htb:P.underlying tb=J .bool)
  {ls:List (List CT)} (Ir:zI P f.params.toList ls=W) {d6:World} {base:Nat} {args:Array Value} {ds gs:List (DataW H)} {before:List MemPlace} {r:Reach}
  (hfn:s.fn H ds={ results:=[.lit (.bool W)],args:=ds })
  (hval:∀(j:Nat) t v,f.params[j]? =J t->args[j]? =J v->Value.okWide P d6 r base t v) (hW:DataW.Whole enc P f.params.toList s.vars F d6 args.toList ds gs before)
  (hsz:(DataW.weightsEach P (f.params.toList++s.plain.varTypes P) (ds++gs)).all (·<=reachBytes)=W)
  (VP:∀as,lB P f.params.toList ls as->YD P f.params.toList as->∃n,call A n fid as [] N6=J (.d (.bool W),[])) :
  Calls P fid args d6 λe W' =>∃v,e= .returned v/\s.post enc P f F W F F d6 args v W' :=by
 have hW' :=hW;obtain ⟨p,q,hA,hV,rfl,hfz,Qp⟩:=hW;rw [hvars] at hV;obtain ⟨rfl,rfl⟩:=trodVars_none hV;have aj7 :(DataW.weightsEach P f.params.toList ds).all (·<=reachBytes)=W:=by
  simp_all [ChangeSpec.plain,DataSpec.varTypes,List.append_nil]
 obtain ⟨⟨as,a1,a2⟩,a3⟩:=Gc f.params.toList ls args.toList ds p Ir (λj t v ht hv=>hval j t v M M) hA;obtain ⟨n,hn⟩:=VP as a1 (ML _ _ _ _ _ hA a2 aj7);refine (ID hok hn a2).mono ?_;rintro e W' ⟨rfl,hK⟩;have Vq :s.fn H (ds++[])={ results:=[.lit (.bool W)],args:=ds }:=M
 refine ⟨_,rfl,IW (pa:=p) (pv:=[]) hW' hK (λb sp hd=>?_) (λsp hsp=>?_) (λsp _=>?_) rfl (λj t v ht hv=>?_)⟩
 .rw [Vq,Lb]
  exact trodAll_cons_mk (shut_bool htb _) trodAll_mk0
 .simp_all
 .rw [Vq,hvars]
  rfl
 grind [Value.resultList,okWide_bool_mk]
end Go.y9


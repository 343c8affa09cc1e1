/- Texts A31 A32 A33 A34 A35 A36 (made short by a program) -/
import Derived.Test.YtkmclibmmlgogaaGreatB3
import Derived.Defers
import Derived.Recover
import Derived.ChangeSame
import Derived.ProofKit
set_option linter.unusedVariables false
set_option linter.unusedSimpArgs false
open Bool renaming and_eq_true → b5
open List renaming getElem?_append_left → p4, getElem?_append_right → p9, getElem?_eq_getElem → o7, getElem?_eq_none → q6, replicate → c9
open Nat renaming le_refl → l5, lt_or_ge → p7
namespace Go.u7
def D2.xg:D2->Exit
 | .normal=> .normal
 | .exit id=> .exit id
 | .ret=> .ret
def uW (P:Program)(names:List Tmp)(ops:Array Oper)(n:Nat)(c' :Operand)(c:r8):Bool:=Cx.ck ⟨P,names,ops⟩ (fun j=>decide (j<n)) c' c
def V0 (P:Program)(names:List Tmp)(nt:Nat):Code->p5->Bool
 |c,.seq (.fz _) k=>V0 P names nt c k
 | .skip,.skip=>true
 | .region _ ops d',.region j4 d=>d==d' &&cj P names nt ops j4 d
 | .seq (.region _ ops d') (.seq (.cond c' x' y') z'),.seq (.test j4 d c x y) k =>
  d==d' &&cj P names nt ops j4 d&&uW P names ops j4.length c' c&&V0 P names nt x' x&&V0 P names nt y' y&&V0 P names nt z' k
 | .seq (.region _ ops d') (.cond c' x' y'),.test j4 d c x y =>
  d==d' &&cj P names nt ops j4 d&&uW P names ops j4.length c' c&&V0 P names nt x' x&&V0 P names nt y' y
 | .seq (.region i ops d') (.seq (.cond c' x' y') z'),.seq (.seq (.region j4 d) (.cond c x y)) k =>
  V0 P names nt (.region i ops d') (.region j4 d)&&V0 P names nt (.cond c' x' y') (.cond c x y)&&V0 P names nt z' k
 | .seq x' y',.seq x y=>V0 P names nt x' x&&V0 P names nt y' y
 | .cond c' x' y',.cond c x y=>uW P names #[] 0 c' c&&V0 P names nt x' x&&V0 P names nt y' y
 | .block id' b',.block id b=>id' ==id&&V0 P names nt b' b
 | .loop b',.loop _ b=>V0 P names nt b' b
 | .exit id',.exit id=>id' ==id
 | .ret,.ret=>true
 |_,.bad=>true
 |_,_=>false
theorem mU:∀ (m:List Bool) (T:List b6) (s:Nat),(R0 m T).getD s .any=T.getD s .any\/(R0 m T).getD s .any= .any
 |[],[],s=>by simp [R0]
 |[],v::vs,0=>by simp [R0]
 |[],v::vs,s+1=>by simpa [R0] using mU [] vs s
 |b::m,[],s=>by cases b<;>simp [R0]
 |true::m,v::vs,0=>by simp [R0]
 |false::m,v::vs,0=>by simp [R0]
 |true::m,v::vs,s+1=>by simpa [R0] using mU m vs s
 |false::m,v::vs,s+1=>by simpa [R0] using mU m vs s
theorem jc:∀ (m:List Bool) (T:List b6),(R0 m T).length=T.length
 |[],[]=>by simp [R0]
 |[],v::vs=>by simpa [R0] using jc [] vs
 |b::m,[]=>by cases b<;>simp [R0]
 |true::m,v::vs=>by simpa [R0] using jc m vs
 |false::m,v::vs=>by simpa [R0] using jc m vs
theorem least {p:Nat->Prop}(h:∃ m,p m):∃ m,p m/\∀ k,p k->m<=k:=by
 obtain ⟨m,hm⟩:=h
 induction m using Nat.strongRecOn with
 |_ m ih =>
  by_cases h:∃ k,k<m/\p k
  ·obtain ⟨k,hk,hp⟩:=h
   exact ih k hk hp
  ·refine ⟨m,hm,fun k hk=> ?_⟩
   rcases p7 k m with h' |h'
   ·exact absurd ⟨k,h',hk⟩ h
   ·exact h'
theorem TW {α β:Type}(J:Nat->α->β->Prop):∃ μ:α->β->Nat,∀ a b,(∃ m,J m a b)->J (μ a b) a b/\∀ k,J k a b->μ a b<=k:=by
 have:∀ a b,∃ m,(∃ m,J m a b)->J m a b/\∀ k,J k a b->m<=k:=by
  intro a b
  by_cases h:∃ m,J m a b
  ·obtain ⟨m,hm⟩:=least h
   exact ⟨m,fun _=>hm⟩
  ·exact ⟨0,fun h' =>absurd h' h⟩
 exact ⟨fun a b=>Classical.choose (this a b),fun a b=>Classical.choose_spec (this a b)⟩
section
variable {P:Program} {names:List Tmp} {E:Env} {nt:Nat}
theorem Cy {st:St}{a:Act}{w:World}{G:Gh}{I:Q9}{N:Nat->Prop}(h:Cd P names E nt st a w G I N)(mask:List Bool){n:Nat}(hn:E.entry<=n) :
  ∃ N',Cd P names E nt (clean mask E.lim.strict n st) a w G I N' /\V5 E st.H w G I N (clean mask E.lim.strict n st).H w G I N' :=by
 have hT:∀ (s:Nat) t,names[s]? =some t->VR G I N w (.slot s) ((R0 mask st.T).getD s .any) (a.tmps.getD t undef):=by
  intro s t ht
  rcases mU mask st.T s with e|e
  ·rw [e];exact h.T s t ht
  ·rw [e];simp [VR]
 unfold clean;split
 ·rename_i hc
  refine ⟨fun i=>N i/\i<n,⟨fun s t ht=>VR.low n _ _ _ ?_ (hT s t ht),fun id o ho=> ?_,h.wf,fun id o ho=> ?_,?_,fun id hid=> ?_,?_,h.size,h.idle⟩,?_⟩
  ·cases hg:(R0 mask st.T)[s]? with
   |none=>simp [List.getD,hg,b6.M3]
   |some v =>
    have:=oP _ _ _ hg;simp only [List.getD,hg,Option.getD_some];omega
  ·have hlt:id<n:=by have:=n9 ho;simp at this;omega
   simp only at ho;rw [List.getElem?_take_of_lt hlt] at ho;exact OR.low hlt o (rY h.T9 hc.2 hlt ho) (h.H id o ho)
  ·have hlt:id<n:=by have:=n9 ho;simp at this;omega
   simp only at ho;rw [List.getElem?_take_of_lt hlt] at ho;exact h.T9 id o ho
  ·simp only [jc];exact h.U0
  ·have:=h.bO id hid.1
   simp;omega
  ·have:=h.CG
   simp;omega
  ·refine ⟨Ext.refl _ _,iN.refl _ _ _,fun _ _ _=>rfl,fun id hid hN=>⟨hN,by omega⟩,fun id _ hN=>hN.1,fun id o' _ ho=> ?_⟩
   have hlt:id<n:=by have:=n9 ho;simp at this;omega
   simp only at ho;rw [List.getElem?_take_of_lt hlt] at ho;exact Or.inr ⟨o',ho,l5 _⟩
 ·exact ⟨N,⟨hT,h.H,h.wf,h.T9,by simp only [jc];exact h.U0,h.bO,h.CG,h.size,h.idle⟩,V5.refl _ _ _ _ _ _⟩
def Sound (P:Program)(names:List Tmp)(nt:Nat)(E:Env)(C:Code)(run:St->Option (D2×St)):Prop :=
 ∀ st x st' a w G I N,run st=some (x,st')->Cd P names E nt st a w G I N->∀ Q:Exit->Act->World->Prop,
  (∀ a' w' G' I' N',Cd P names E nt st' a' w' G' I' N' ->V5 E st.H w G I N st'.H w' G' I' N' ->Q x.xg a' w')->C.wp P Q a w
theorem xe {X:Cx}{j4:List n8}{S:Nat->Prop}{r:E1}{a:Act}{w:World}{G:Gh}{I:Q9}{N:Nat->Prop}{D:Nat->Bool}(h:Rg X j4 E nt S r a w G I N)(hD:∀ j,D j=true->S j){c' :Operand}{c:r8}(hc:X.ck D c' c=true){b:Bool}
  (hv:F0 r.T r.L c= .d (.bool b)):a.eval c' = .bool b:=by
 have:=h.ri.S2 hD c' c hc;rw [hv] at this;simpa [VR,DR] using this
theorem uY {st:St}{a:Act}{w:World}{G:Gh}{I:Q9}{N:Nat->Prop}(h:Cd P names E nt st a w G I N){c' :Operand}{c:r8}(hc:uW P names #[] 0 c' c=true){b:Bool}(hv:F0 st.T [] c= .d (.bool b)):a.eval c' = .bool b:=by
 have hR:Rg ⟨P,names,#[]⟩ [] E nt (fun _=>False) ⟨st.T,st.H,[],[]⟩ a w G I N:=h.start _ rfl (fun _ h=>h) [] (by simp) (by simp) rfl [];exact xe hR (D:=fun j=>decide (j<0)) (fun j hj=>by simp at hj) hc hv
def andThen (rx ry:St->Option (D2×St)):St->Option (D2×St):=fun st=>match rx st with
 |some (.normal,st')=>ry st'
 |r=>r
theorem wK {x y:Code}{rx ry:St->Option (D2×St)}(hx:Sound P names nt E x rx)(hy:Sound P names nt E y ry)
  {st:St} {e:D2} {st' :St} {a:Act} {w:World} {G:Gh} {I:Q9} {N:Nat->Prop} (hrun:andThen rx ry st=some (e,st')) (h:Cd P names E nt st a w G I N) (Q:Exit->Act->World->Prop)
  (hQ:∀ a' w' G' I' N',Cd P names E nt st' a' w' G' I' N' ->V5 E st.H w G I N st'.H w' G' I' N' ->Q e.xg a' w'):x.wp P (Exit.then (y.wp P Q) Q) a w:=by
 unfold andThen at hrun;split at hrun
 ·rename_i P3 h1
  refine hx st .normal P3 a w G I N h1 h _ ?_;intro a1 w1 G1 I1 N1 hc hs;simp only [D2.xg,Exit.then];refine hy P3 e st' a1 w1 G1 I1 N1 hrun hc Q ?_;intro a2 w2 G2 I2 N2 kj vA;exact hQ a2 w2 G2 I2 N2 kj (hs.trans vA)
 ·rename_i hne
  refine hx st e st' a w G I N hrun h _ ?_;intro a1 w1 G1 I1 N1 hc hs;have:=hQ a1 w1 G1 I1 N1 hc hs;cases e with
  |normal=>exact absurd hrun (hne st')
  |exit id=>exact this
  |ret=>exact this
theorem rZ {x y:Code}{rx ry:St->Option (D2×St)}(hx:Sound P names nt E x rx)(hy:Sound P names nt E y ry) :
  Sound P names nt E (.seq x y) (andThen rx ry) :=
 fun _ _ _ _ _ _ _ _ hrun h Q hQ=>wp_seq (wK hx hy hrun h Q hQ)
theorem xZ (rx ry rz:St->Option (D2×St)):andThen (andThen rx ry) rz=andThen rx (andThen ry rz):=by
 funext st
 unfold andThen;cases rx st with
 |none=>rfl
 |some p =>
  obtain ⟨e,s⟩:=p;cases e<;>rfl
theorem wJ (hE:Hx P E)(hn:gL names=true){ops:Array Oper}{j4:List n8}{d:Bool}{c:r8}{c' :Operand}(an8:cj P names nt ops j4 d=true)(hck:uW P names ops j4.length c' c=true)
  {st:St} {a:Act} {w:World} {G:Gh} {I:Q9} {N:Nat->Prop} (h:Cd P names E nt st a w G I N) {r:E1} (hr:O0 E j4 d st.T st.H=some r) {b:Bool} (hv:F0 r.T r.L c= .d (.bool b)) (id:Nat) (Q:Exit->Act->World->Prop)
  (hQ:∀ a' w' G' I' N',Cd P names E nt ⟨r.T,r.H⟩ a' w' G' I' N' ->V5 E st.H w G I N r.H w' G' I' N' ->a'.eval c' = .bool b->Q .normal a' w'):(Code.region id ops d).wp P Q a w:=by
 refine qf hE hn an8 h hr id Q ?_;intro a' w' G' I' N' hR hs;exact hQ a' w' G' I' N' (Cd.done rfl hR) hs (xe hR (D:=fun j=>decide (j<j4.length)) (fun j hj=>by simpa using hj) hck hv)
theorem GX {c:Code}{body:St->Option (D2×St)}(hb:Sound P names nt E c body)(mask:List Bool)(fuel:Nat) :
  Sound P names nt E (.loop c) (fun st=>eE body mask E.lim.strict st.H.length fuel st):=by
 intro st e st' a w G I N hrun h Q hQ;simp only at hrun;generalize hn:st.H.length=n at hrun;have hen:E.entry<=n:=by rw [<- hn];exact h.CG
 let J:Nat->Act->World->Prop:=fun m a' w' =>∃ P3 G1 I1 N1,eE body mask E.lim.strict n m P3=some (e,st')/\Cd P names E nt P3 a' w' G1 I1 N1/\V5 E st.H w G I N P3.H w' G1 I1 N1
 obtain ⟨μ,XV⟩:=TW J;refine wp_loop (I:=fun a' w' =>∃ m,J m a' w') (μ:=μ) ⟨fuel,st,G,I,N,hrun,h,V5.refl _ _ _ _ _ _⟩ ?_;intro a1 w1 hJ;obtain ⟨hm,hmin⟩:=XV a1 w1 hJ;generalize hμ:μ a1 w1=m at hm;obtain ⟨P3,G1,I1,N1,yT,hc1,hs1⟩:=hm;cases m with
 |zero=>simp [eE] at yT
 |succ m =>
  simp only [eE] at yT;obtain ⟨N2,kj,vA⟩:=Cy hc1 mask hen;split at yT
  ·rename_i Y9 hb2
   refine hb _ .normal Y9 a1 w1 G1 I1 N2 hb2 kj _ ?_;intro a3 w3 G3 I3 N3 TC hs3;simp only [D2.xg,Exit.then];have hJ3:J m a3 w3:=⟨Y9,G3,I3,N3,yT,TC,(hs1.trans vA).trans hs3⟩;refine ⟨⟨m,hJ3⟩,?_⟩;exact Nat.lt_succ_of_le ((XV a3 w3 ⟨m,hJ3⟩).2 m hJ3)
  ·rename_i hne
   refine hb _ e st' a1 w1 G1 I1 N2 yT kj _ ?_;intro a3 w3 G3 I3 N3 TC hs3;have:=hQ a3 w3 G3 I3 N3 TC ((hs1.trans vA).trans hs3);cases e with
   |normal=>exact absurd yT (hne st')
   |exit id=>exact this
   |ret=>exact this
theorem vg {lim:Nat}(x y:p5):exec E lim (.seq x y)=andThen (exec E lim x) (exec E lim y):=by
 funext st
 simp only [exec,andThen];cases exec E lim x st with
 |none=>rfl
 |some p =>
  obtain ⟨e,s⟩:=p;cases e<;>rfl
theorem Gf (hE:Hx P E)(hn:gL names=true)(lim:Nat):∀ (n:Nat) (c:p5) (C:Code),SizeOf.sizeOf c<n->V0 P names nt C c=true->Sound P names nt E C (exec E lim c):=by
 intro n
 induction n with
 |zero=>intro c C h;omega
 |succ n ih =>
 intro c C hsz hc;unfold V0 at hc;split at hc
 all_goals (try (cases hc;done))
 ·
  rename_i s k;simp only [p5.seq.sizeOf_spec] at hsz;have ik:=ih k C (by omega) hc;intro st e st' a w G I N hrun h Q hQ;simp only [exec] at hrun;cases hf:Gj E.lim E.entry s st with
  |none=>rw [hf] at hrun;cases hrun
  |some P3 =>
   rw [hf] at hrun;obtain ⟨G1,N1,h1,s1⟩:=Mo h hf;exact ik P3 e st' a w G1 I N1 hrun h1 Q (fun a' w' G' I' N' pH hs' =>hQ a' w' G' I' N' pH (s1.trans hs'))
 ·
  intro st e st' a w G I N hrun h Q hQ;simp only [exec] at hrun;cases hrun;exact wp_skip (hQ a w G I N h (V5.refl _ _ _ _ _ _))
 ·
  rename_i id ops d' j4 d;simp only [b5,beq_iff_eq] at hc;obtain ⟨rfl,hc⟩:=hc;intro st e st' a w G I N hrun h Q hQ;simp only [exec] at hrun;split at hrun
  ·rename_i r hr
   cases hrun;refine qf hE hn hc h hr id Q ?_;intro a' w' G' I' N' hR hs;exact hQ a' w' G' I' N' (Cd.done rfl hR) hs
  ·cases hrun
 ·
  rename_i id ops d' c' x' y' z' j4 d c x y k;simp only [b5,beq_iff_eq] at hc;obtain ⟨⟨⟨⟨⟨rfl,h1⟩,h2⟩,h3⟩,h4⟩,h5⟩:=hc;simp only [p5.seq.sizeOf_spec,p5.test.sizeOf_spec] at hsz;have ix:=ih x x' (by omega) h3;have iy:=ih y y' (by omega) h4;have iz:=ih k z' (by omega) h5;intro st e st' a w G I N hrun h Q hQ;simp only [exec] at hrun;refine wp_seq ?_;cases hr:O0 E j4 d st.T st.H with
  |none=>rw [hr] at hrun;cases hrun
  |some r =>
   rw [hr] at hrun;simp only at hrun;have both:∀ (b:Bool) (z:Code) (rz:St->Option (D2×St)),F0 r.T r.L c= .d (.bool b)->Sound P names nt E z rz->andThen rz (exec E lim k) ⟨r.T,r.H⟩=some (e,st')->(if b then x' else y')=z->(Code.region id ops d).wp P (Exit.then ((Code.seq (.cond c' x' y') z').wp P Q) Q) a w:=by
    intro b z rz hv hz hrz hbz;refine wJ hE hn h1 h2 h hr hv id _ ?_;intro a' w' G' I' N' pH hs' hev;simp only [Exit.then];refine wp_seq (wp_cond hev ?_);rw [hbz];refine wK hz iz hrz pH Q ?_;intro a2 w2 G2 I2 N2 kj vA;exact hQ a2 w2 G2 I2 N2 kj (hs'.trans vA)
   cases hv:F0 r.T r.L c with
   |d v =>
    cases v with
    |bool b =>
     rw [hv] at hrun;cases b with
     |true=>exact both true x' _ hv ix hrun rfl
     |false=>exact both false y' _ hv iy hrun rfl
    |_=>rw [hv] at hrun;cases hrun
   |_=>rw [hv] at hrun;cases hrun
 ·
  rename_i id ops d' c' x' y' j4 d c x y;simp only [b5,beq_iff_eq] at hc;obtain ⟨⟨⟨⟨rfl,h1⟩,h2⟩,h3⟩,h4⟩:=hc;simp only [p5.test.sizeOf_spec] at hsz;have ix:=ih x x' (by omega) h3;have iy:=ih y y' (by omega) h4;intro st e st' a w G I N hrun h Q hQ;simp only [exec] at hrun;refine wp_seq ?_;cases hr:O0 E j4 d st.T st.H with
  |none=>rw [hr] at hrun;cases hrun
  |some r =>
   rw [hr] at hrun;simp only at hrun;have both:∀ (b:Bool) (z:Code) (rz:St->Option (D2×St)),F0 r.T r.L c= .d (.bool b)->Sound P names nt E z rz->rz ⟨r.T,r.H⟩=some (e,st')->(if b then x' else y')=z->(Code.region id ops d).wp P (Exit.then ((Code.cond c' x' y').wp P Q) Q) a w:=by
    intro b z rz hv hz hrz hbz;refine wJ hE hn h1 h2 h hr hv id _ ?_;intro a' w' G' I' N' pH hs' hev;simp only [Exit.then];refine wp_cond hev ?_;rw [hbz];refine hz _ e st' a' w' G' I' N' hrz pH Q ?_;intro a2 w2 G2 I2 N2 kj vA;exact hQ a2 w2 G2 I2 N2 kj (hs'.trans vA)
   cases hv:F0 r.T r.L c with
   |d v =>
    cases v with
    |bool b =>
     rw [hv] at hrun;cases b with
     |true=>exact both true x' _ hv ix hrun rfl
     |false=>exact both false y' _ hv iy hrun rfl
    |_=>rw [hv] at hrun;cases hrun
   |_=>rw [hv] at hrun;cases hrun
 ·
  rename_i i ops d' c' x' y' z' j4 d c x y k;simp only [b5] at hc;simp only [p5.seq.sizeOf_spec] at hsz;rw [vg,vg,xZ];exact rZ (ih (.region j4 d) _ (by omega) hc.1.1) (rZ (ih (.cond c x y) _ (by omega) hc.1.2) (ih k z' (by omega) hc.2))
 ·
  rename_i x' y' x y _ _ _;simp only [b5] at hc;simp only [p5.seq.sizeOf_spec] at hsz;rw [vg];exact rZ (ih x x' (by omega) hc.1) (ih y y' (by omega) hc.2)
 ·
  rename_i c' x' y' c x y;simp only [b5] at hc;simp only [p5.cond.sizeOf_spec] at hsz;intro st e st' a w G I N hrun h Q hQ;simp only [exec] at hrun;split at hrun
  ·rename_i hv
   exact wp_cond_true (uY h hc.1.1 hv) (ih x x' (by omega) hc.1.2 st e st' a w G I N hrun h Q hQ)
  ·rename_i hv
   exact wp_cond_false (uY h hc.1.1 hv) (ih y y' (by omega) hc.2 st e st' a w G I N hrun h Q hQ)
  ·cases hrun
 ·
  rename_i id' b' id b;simp only [b5,beq_iff_eq] at hc;obtain ⟨rfl,hc⟩:=hc;simp only [p5.block.sizeOf_spec] at hsz;have ib:=ih b b' (by omega) hc;intro st e st' a w G I N hrun h Q hQ;simp only [exec] at hrun;refine wp_block ?_;split at hrun
  ·rename_i i1 P3 h1
   refine ib st (.exit i1) P3 a w G I N h1 h _ ?_;intro a' w' G' I' N' pH hs';simp only [D2.xg,Exit.inBlock];split at hrun
   ·rename_i he
    cases hrun;rw [if_pos he];exact hQ a' w' G' I' N' pH hs'
   ·rename_i he
    cases hrun;rw [if_neg he];exact hQ a' w' G' I' N' pH hs'
  ·rename_i hne
   refine ib st e st' a w G I N hrun h _ ?_;intro a' w' G' I' N' pH hs';have:=hQ a' w' G' I' N' pH hs';cases e with
   |normal=>exact this
   |exit i=>exact absurd hrun (hne i st')
   |ret=>exact this
 ·
  rename_i b' mask b;simp only [p5.loop.sizeOf_spec] at hsz;exact GX (ih b b' (by omega) hc) mask lim
 ·
  rename_i id' id;intro st e st' a w G I N hrun h Q hQ;simp only [beq_iff_eq] at hc;subst hc;simp only [exec] at hrun;cases hrun;exact wp_exit (hQ a w G I N h (V5.refl _ _ _ _ _ _))
 ·
  intro st e st' a w G I N hrun h Q hQ;simp only [exec] at hrun;cases hrun;exact wp_ret (hQ a w G I N h (V5.refl _ _ _ _ _ _))
 ·
  intro st e st' a w G I N hrun h Q hQ;simp only [exec] at hrun;cases hrun
end
def freeze (G:Gh)(n:Nat):Gh:=fun b =>
 match G b with
 | .obj id=>if n<=id then .jz else .obj id
 |x=>x
section
variable {P:Program} {G:Gh} {I:Q9} {N:Nat->Prop} {w:World} {n:Nat}
theorem FJ {b o:Nat}(h:iH G b o):iH (freeze G n) b o:=by
 unfold iH at h ⊢;unfold freeze;cases hg:G b with
 |obj id=>rw [hg] at h;simp at h
 |free=>rw [hg] at h;simp at h
 |jz=>simp
 |_=>rw [hg] at h;simpa using h
theorem om:Ext G w (freeze G n) w where
 os:=rfl
 tape:=rfl
 output:=rfl
 size:=l5 _
 jz b o h:=⟨FJ h,rfl⟩
 still b h:=⟨by rcases h with h|⟨m,h⟩<;>simp [freeze,h],rfl⟩
 shape _ c _ _ h:=⟨c,h,rfl⟩
theorem jL (q:Place):ay q G w (freeze G n) w:=fun b m hb=>⟨by simp [freeze,hb],rfl⟩
theorem vt {b id:Nat}(h:id<n)(hb:G b= .obj id):freeze G n b= .obj id:=by simp only [freeze,hb];rw [if_neg (by omega)]
theorem Kv (h:WF G w):WF (freeze G n) w:=fun b hb=>by simp [freeze,h b hb]
theorem yQ {pl:Place}{a:b6}{x:Value}(h:VR G I N w pl a x):VR (freeze G n) I N w pl a x :=
 VR.mono om.sub (fun _ _=>rfl) (fun _ h=>h) _ _ _ (Or.inr (jL pl)) h
theorem PO {pl:Place}{a:b6}{d:Data}{x:Value}(h:a.data? =some d)(hv:VR G I N w pl a x):DR G w d x:=by
 unfold b6.data? at h;split at h
 ·cases h;simpa [VR] using hv
 ·cases h
  have:=hv.F2 (tX := .none);simpa [b6.F2,VR] using this
 ·cases h
  have:=hv.F2 (tX := .none);simpa [b6.F2,VR] using this
 ·cases h
theorem yI:∀ (cs:List b6) (xs:List Data),L7 cs=some xs->xs.length=cs.length/\∀ (i:Nat) x,xs[i]? =some x->∃ a,cs[i]? =some a/\a.data? =some x
 |[],xs,h=>by simp [L7] at h;subst h;exact ⟨rfl,by simp⟩
 |c::cs,xs,h=>by
  unfold L7 at h;split at h
  ·rename_i x hx
   split at h
   ·rename_i ys hys
    cases h;obtain ⟨g1,g2⟩:=yI cs ys hys;refine ⟨by simp [g1],fun i y hi=> ?_⟩;cases i with
    |zero=>simp at hi;subst hi;exact ⟨c,rfl,hx⟩
    |succ i=>simpa using g2 i y (by simpa using hi)
   ·cases h
  ·cases h
theorem mR {H:o6}(hH:HR G I N w H):∀ (fuel:Nat) (as bs:List b6),bI H n fuel as=some bs->bs.length=as.length/\∀ (i:Nat) a pl x,as[i]? =some a->VR G I N w pl a x->∃ b,bs[i]? =some b/\VR (freeze G n) I N w pl b x
 |0,as,bs,h=>by simp [bI] at h
 |fuel+1,[],bs,h=>by
  simp only [bI] at h;cases h;exact ⟨rfl,by simp⟩
 |fuel+1,v::vs,bs,h=>by
  simp only [bI] at h;split at h
  ·cases h
  ·rename_i ws hws
   obtain ⟨l1,l2⟩:=mR hH fuel vs ws hws;have fin:∀ (u:b6),(∀ pl x,VR G I N w pl v x->VR (freeze G n) I N w pl u x)->bs=u::ws->bs.length=(v::vs).length/\∀ (i:Nat) a pl x,(v::vs)[i]? =some a->VR G I N w pl a x->∃ b,bs[i]? =some b/\VR (freeze G n) I N w pl b x:=by
    rintro u hu rfl;refine ⟨by simp [l1],fun i a pl x hi hv=> ?_⟩;cases i with
    |zero=>simp at hi;subst hi;exact ⟨u,rfl,hu pl x hv⟩
    |succ i=>simpa using l2 i a pl x (by simpa using hi) hv
   have Za:∀ (l l' :List b6),bI H n fuel l=some l' ->∀ xs,F1 G I N w l xs->F1 (freeze G n) I N w l' xs:=by
    intro l l' hl xs hx;obtain ⟨m1,m2⟩:=mR hH fuel l l' hl;have hlen:=F1.length _ _ hx;refine O6 _ _ (by omega) fun j b u hj hu=> ?_
    have hjl:j<l.length:=by have:=n9 hj;omega
    obtain ⟨b',e1,e2⟩:=m2 j l[j] .none u (o7 hjl) (by
     obtain ⟨u',e3,e4⟩:=F1.get _ _ hx j l[j] (o7 hjl);rw [hu] at e3;cases e3;exact e4)
    rw [hj] at e1;cases e1;exact e2
   split at h
   ·rename_i id sz lo len
    split at h
    ·cases h
     exact fin _ (fun pl x hv=>yQ hv) rfl
    ·rename_i hid
     split at h
     ·rename_i us vE
      split at h
      ·rename_i us' ap4
       split at h
       ·rename_i xs hxs
        cases h;refine fin _ (fun pl x hv=> ?_) rfl;simp only [VR] at hv ⊢;obtain ⟨hN,cap,rfl,hcap,c,e,f,hc,hsz⟩:=hv;simp only [DR];refine Or.inr ⟨(I id).1,(I id).2+lo,cap,rfl,hcap,?_⟩;obtain ⟨d1,d2⟩:=yI us' xs hxs;obtain ⟨m1,m2⟩:=mR hH fuel us us' ap4;refine uD _ xs fun i y hi=> ?_
        have hpos:0<len * sz:=by
         rcases Nat.eq_zero_or_pos (len * sz) with h0|h0
         ·have hul:us.length=0:=by
           unfold rd at vE;split at vE
           ·split at vE
            ·cases vE;simp [h0]
            ·cases vE
           ·cases vE
          have:=n9 hi;omega
         ·exact h0
        obtain ⟨_,zs,g1,g2,g3,g4⟩:=hH.rd vE hpos;have yh:i<len * sz:=by have:=n9 hi;omega
        have Gn:G (I id).1= .obj id:=by
         unfold rd at vE;split at vE
         ·rename_i l0 hl0
          have:=hH id _ hl0;simp only [OR] at this;obtain ⟨_,_,_,_,_,h2,_⟩:=this;exact h2
         ·cases vE
        refine ⟨?_,?_⟩
        ·have:freeze G n (I id).1= .jz:=by simp only [freeze,Gn];rw [if_pos (by omega)]
         simp [iH,this]
        ·have hz:zs[i]? =some zs[i]:=o7 (by omega)
         have hu:us[i]? =some us[i]:=o7 (by omega);refine ⟨zs[i],g3 i _ hz,?_⟩;have hvr:=g4 i _ _ hu hz;obtain ⟨b,e1,e2⟩:=m2 i us[i] _ _ hu hvr;obtain ⟨a',e3,e4⟩:=d2 i y hi;rw [e1] at e3;cases e3;exact PO e4 e2
       ·cases h
      ·cases h
     ·cases h
   ·rename_i l
    split at h
    ·rename_i l' hl
     cases h;refine fin _ (fun pl x hv=> ?_) rfl;simp only [VR] at hv ⊢;obtain ⟨cs,h1,h2⟩:=hv;exact ⟨cs,h1,Za l l' hl _ h2⟩
    ·cases h
   ·rename_i l
    split at h
    ·rename_i l' hl
     cases h;refine fin _ (fun pl x hv=> ?_) rfl;simp only [VR] at hv ⊢;obtain ⟨cs,h1,h2⟩:=hv;exact ⟨cs,h1,Za l l' hl _ h2⟩
    ·cases h
   ·cases h
    exact fin _ (fun pl x hv=>yQ hv) rfl
end
def cH (P:Program)(names:List Tmp):List ResultVar->List xY->Bool
 |[],[]=>true
 | .tmp t::r,.slot s::q=>names[s]? ==some t&&cH P names r q
 | .cell a t::r,.cell s n::q=>names[s]? ==some a&&ox P t n&&cH P names r q
 |_,_=>false
def oC (tmps:Array Value):ResultVar->Sem Value
 | .tmp t=>pure (tmps.getD t undef)
 | .cell a t=>do loadVar t (<- asAddr (tmps.getD a undef))
section
variable {P:Program} {names:List Tmp} {E:Env} {nt:Nat} {st:St} {a:Act} {w:World} {G:Gh} {I:Q9} {N:Nat->Prop}
theorem QO (h:Cd P names E nt st a w G I N){rv:ResultVar}{ar:xY}(hc:cH P names [rv] [ar]=true){v:b6}(hv:jU st.T st.H ar=some v):∃ x s,(oC a.tmps rv).run P w= .ok x w/\VR G I N w (.slot s) v x:=by
 cases rv with
 |tmp t =>
  cases ar with
  |slot s =>
   simp only [cH,b5,beq_iff_eq] at hc;simp only [jU] at hv;have:=h.T s t hc.1;rw [W0 hv] at this;exact ⟨_,s,by simp [oC],this⟩
  |cell s n=>simp [cH] at hc
 |cell t ty =>
  cases ar with
  |slot s=>simp [cH] at hc
  |cell s n =>
   simp only [cH,b5,beq_iff_eq] at hc;obtain ⟨⟨h1,h2⟩,_⟩:=hc;cases n with
   |none =>
    simp only [jU] at hv;split at hv
    ·rename_i id off hT
     split at hv
     ·rename_i u hu
      cases hv;have hp:=h.T s t h1;rw [W0 hT] at hp;simp only [VR] at hp;obtain ⟨_,xs,g1,_,g3,g4⟩:=h.H.rd hu (by omega);obtain ⟨z,rfl⟩:∃ z,xs=[z]:=List.length_eq_one_iff.1 g1;have hz:=g3 0 z rfl;have hvz:=g4 0 u z rfl rfl;have ha:dW P ty=some false:=by simpa [ox] using h2
      simp at hz;refine ⟨z,s,?_,hvz.F2⟩;simp [oC,asAddr,hp.2,loadVar,cu ha,hz]
     ·cases hv
    ·cases hv
   |some n =>
    simp only [jU] at hv;split at hv
    ·rename_i id off hT
     split at hv
     ·rename_i us hu
      cases hv;have hp:=h.T s t h1;rw [W0 hT] at hp;simp only [VR] at hp;have ha:dW P ty=some true/\P.cellsOf ty=n/\0<n:=by simpa [ox,and_assoc] using h2
      obtain ⟨_,xs,g1,g2,g3,g4⟩:=h.H.rd hu ha.2.2;have hs:(sizeOf ty).run P w= .ok n w:=by
       rw [<- ha.2.1];refine run_sizeOf ?_;have:=ha.1;unfold dW at this;cases hu:P.underlying ty with
       |none=>simp [hu] at this
       |some d=>exact info_of_underlying hu
      have hl:=run_loadCells_list (P:=P) w (ad (I id).1 ((I id).2+off)) xs (fun j v hj=>by rw [Y8];exact g3 j v hj);rw [g1] at hl;refine ⟨.agg xs.toArray,s,?_,?_⟩
      ·simp [oC,asAddr,hp.2,loadVar,cu ha.1,hs,hl]
      ·simp only [VR]
       refine ⟨_,rfl,O6 _ _ (by simp [g1,g2]) fun j b v hj hv=> ?_⟩;simp at hj hv;obtain ⟨b',hb',rfl⟩:=hj;exact (g4 j b' v hb' hv).F2
     ·cases hv
    ·cases hv
theorem It (h:Cd P names E nt st a w G I N):∀ (Zd:List ResultVar) (PL:List xY) (vs:List b6),cH P names Zd PL=true->bF st.T st.H PL=some vs ->
  ∃ xs:List Value,(Zd.mapM (oC a.tmps)).run P w= .ok xs w/\xs.length=vs.length/\∀ (i:Nat) v x,vs[i]? =some v->xs[i]? =some x->∃ s,VR G I N w (.slot s) v x
 |[],PL,vs,hc,hv=>by
  cases PL with
  |cons _ _=>simp [cH] at hc
  |nil =>
   simp only [bF] at hv;cases hv;exact ⟨[],by simp,rfl,by simp⟩
 |rv::Zd,PL,vs,hc,hv=>by
  cases PL with
  |nil=>cases rv<;>simp [cH] at hc
  |cons ar PL =>
   have hc1:cH P names [rv] [ar]=true/\cH P names Zd PL=true:=by
    cases rv<;>cases ar<;>simp_all [cH]
   simp only [bF] at hv;split at hv
   ·rename_i v TT
    split at hv
    ·rename_i vs' hvs
     cases hv;obtain ⟨x,s,h1,h2⟩:=QO h hc1.1 TT;obtain ⟨xs,h3,h4,h5⟩:=It h Zd PL vs' hc1.2 hvs;refine ⟨x::xs,?_,by simp [h4],fun i u y hi hy=> ?_⟩
     ·simp [List.mapM_cons,h1,h3]
     ·cases i with
      |zero=>simp at hi hy;subst hi;subst hy;exact ⟨s,h2⟩
      |succ i=>exact h5 i u y (by simpa using hi) (by simpa using hy)
    ·cases hv
   ·cases hv
end
structure ez (w w' :World):Prop where
 heap:w'.heap=w.heap
 os:w'.os=w.os
 tape:w'.tape=w.tape
 output:w'.output=w.output
theorem ez.refl (w:World):ez w w:=⟨rfl,rfl,rfl,rfl⟩
theorem ez.trans {w w1 w2:World}(h:ez w w1)(k:ez w1 w2):ez w w2:=⟨k.heap.trans h.heap,k.os.trans h.os,k.tape.trans h.tape,k.output.trans h.output⟩
theorem ez.ext {G:Gh}{w w' :World}(h:ez w w'):Ext G w G w' where
 os:=h.os
 tape:=h.tape
 output:=h.output
 size:=by rw [h.heap];exact l5 _
 jz b o hi:=⟨hi,fC h.heap _⟩
 still b _:=⟨rfl,by rw [h.heap]⟩
 shape b c e f hc:=⟨c,by rw [h.heap];exact hc,rfl⟩
theorem ez.keeps {G:Gh}{w w' :World}(h:ez w w')(q:Place):ay q G w G w' :=fun b n hb=>⟨hb,by rw [h.heap]⟩
def Idle (P:Program)(f:FuncId):Prop :=
 T3 P f=true/\∀ args w,CallsD P f args .returning w fun e u' w' =>(∃ v,e= .returned v)/\u' = .returning/\ez w w'
section
variable {P:Program} {names:List Tmp} {E:Env} {nt:Nat} {st:St} {a:Act} {w w' :World} {G:Gh} {I:Q9} {N:Nat->Prop}
theorem Cd.same (h:Cd P names E nt st a w G I N)(hw:ez w w'):Cd P names E nt st a w' G I N where
 T s t ht:=VR.mono hw.ext.sub (fun _ _=>rfl) (fun _ h=>h) _ _ _ (Or.inr (hw.keeps _)) (h.T s t ht)
 H id o ho:=OR.mono hw.ext.sub (fun _ _=>rfl) (fun _ h=>h) id o (fun h=>⟨h,by rw [hw.heap]⟩) (fun _=>hw.keeps _) (h.H id o ho)
 wf b hb:=h.wf b (by rw [<- hw.heap];exact hb)
 T9:=h.T9
 U0:=h.U0
 bO:=h.bO
 CG:=h.CG
 size:=h.size
 idle:=h.idle
theorem V5.same {H0 H:o6}{w0:World}{G0:Gh}{I0:Q9}{N0:Nat->Prop}(h:V5 E H0 w0 G0 I0 N0 H w G I N)(hw:ez w w'):V5 E H0 w0 G0 I0 N0 H w' G I N :=
 h.trans ⟨hw.ext,fun id _=>⟨fun b hb=>⟨hb,by rw [hw.heap]⟩,fun _=>hw.keeps _⟩,fun _ _ _=>rfl,fun _ _ h=>h,fun _ _ h=>h,fun _ o _ ho=>Or.inr ⟨o,ho,l5 _⟩⟩
theorem sW {idle:FuncId->Bool}(yR:∀ f,idle f=true->Idle P f){fn:Func}{tmps:Array Value}{R:Ending->World->Prop}:∀ (ds:List Deferred) (w:World),(∀ d,d ∈ ds->Cn P idle d) ->
  (∀ w',ez w w' ->∃ v,(results fn tmps).run P w' = .ok v w' /\R (.returned v) w')->Leaves P fn tmps R ds .returning w
 |[],w,_,h=>h w (ez.refl w)
 |d::ds,w,hd,h=>by
  obtain ⟨f,cap,h1,h2⟩:=hd d (by simp);obtain ⟨hcan,hD⟩:=yR f h2;obtain ⟨tgt,dargs⟩:=d;simp only at h1;subst h1;refine leaves_cons (f:=f) (args:=dargs++cap) (by simp) (by simp only [invoke];exact qk hcan _) ?_;refine CallsD.mono (hD _ w) ?_;rintro e u' w' ⟨⟨v,rfl⟩,rfl,hw⟩;exact sW yR ds w' (fun d hd' =>hd d (by simp [hd'])) (fun w'' hw' =>h w'' (hw.trans hw'))
theorem DM {fn:Func}{tmps:Array Value}{xs:List Value}(h:(fn.results.toList.mapM (oC tmps)).run P w= .ok xs w) :
  (results fn tmps).run P w= .ok (if h:xs.length=1 then xs[0]'(by omega) else .tuple xs.toArray) w:=by
 have e:results fn tmps=(fn.results.mapM (oC tmps) >>= fun vs=>pure (if h:vs.size=1 then vs[0] else .tuple vs)):=by
  unfold results
  congr 1
 rw [e,Array.mapM_eq_mapM_toList];simp only [map_eq_pure_bind,Sem.run_bind,h,Result.andThen_ok,Sem.run_pure];simp only [List.size_toArray];split
 ·rename_i h1
  simp
 ·rfl
theorem UW {vs:List b6}{xs:List Value}(hl:xs.length=vs.length)(h:∀ (i:Nat) v x,vs[i]? =some v->xs[i]? =some x->∃ s,VR G I N w (.slot s) v x) :
  ∃ pl G2,iM pl G w G2/\(∀ id off,pl≠ .cell id off)/\VR G2 I N w .ret (b9 vs) (if h:xs.length=1 then xs[0]'(by omega) else .tuple xs.toArray):=by
 by_cases h1:xs.length=1
 ·obtain ⟨x,rfl⟩:=List.length_eq_one_iff.1 h1
  obtain ⟨v,rfl⟩:=List.length_eq_one_iff.1 (hl.symm.trans h1);obtain ⟨s,hv⟩:=h 0 v x rfl rfl;simp only [b9]
  by_cases ho:∃ z n c,v= .own z n c
  ·obtain ⟨z,n,c,rfl⟩:=ho
   obtain ⟨G2,hm,VM⟩:=fX (tX := .ret) (by simp) hv;exact ⟨.slot s,G2,hm,by simp,by simpa using VM⟩
  ·exact ⟨.slot s,G,iM.refl _ _ _,by simp,by simpa using hv.Co (fun z n c e=>ho ⟨z,n,c,e⟩)⟩
 ·refine ⟨.ret,G,iM.refl _ _ _,by simp,?_⟩
  rw [dif_neg h1];have e:b9 vs= .tuple (vs.map b6.F2):=by
   unfold b9;split
   ·simp at hl;omega
   ·rfl
  rw [e];simp only [VR];refine ⟨_,rfl,O6 _ _ (by simp [hl]) fun j b v hj hv=> ?_⟩;simp at hj hv;obtain ⟨b',hb',rfl⟩:=hj;obtain ⟨s,hs⟩:=h j b' v hb' hv;exact hs.F2
end
def n6 (P:Program)(fn:Func)(af:q5):Bool :=
 match fn.body with
 |some c=>gL af.names&&decide (af.nparams<=af.names.length)&&(af.names.take af.nparams==List.range af.nparams)&&decide (af.nparams<=fn.ntmps) &&
   V0 P af.names fn.ntmps c af.body && cH P af.names fn.results.toList af.results && fn.name != "runtime.NumGoroutine"
 |none=>false
theorem FU {P:Program}{A:Prog}(yR:∀ f,A.idle f=true->Idle P f){cf:oL}{n:Nat}(Ck:kK P cf A.prom)(hcan:∀ f args H lm r,cf f args H lm=some r->T3 P f=true)
  {f:FuncId} {fn:Func} {af:q5} (hf:P.funcs[f]? =some fn) (AZ:n6 P fn af=true) {args:List b6} {H:o6} {l:F9} {v:b6} {H1:o6} (hrun:fQ A cf n af args H l=some (v,H1))
  {w:World} {G:Gh} {I:Q9} {N:Nat->Prop} {L0:Array Value} (hpre:FF l H w G I N args L0) (hbase:af.an=false->l.base=H.length) :
  Calls P f L0 w fun e w' =>∃ x G' I' N',e= .returned x/\nu l H w G I N v H1 x w' G' I' N' :=by
 unfold n6 at AZ;cases hbody:fn.body with
 |none=>rw [hbody] at AZ;cases AZ
 |some c =>
  rw [hbody] at AZ;simp only [b5,decide_eq_true_eq,beq_iff_eq] at AZ;obtain ⟨⟨⟨⟨⟨⟨TM,hnp⟩,XS⟩,hnt⟩,Xl⟩,hres⟩,_⟩:=AZ;unfold fQ at hrun;split at hrun
  ·rename_i hlen
   have hvl:L0.size=args.length:=by simpa using F1.length _ _ hpre.args
   have hstart:Cd P af.names ⟨cf,A.prom,A.mode,A.idle,l,H.length⟩ fn.ntmps ⟨args++c9 (af.names.length - args.length) .any,H⟩ { tmps:=L0++Array.replicate (fn.ntmps - L0.size) undef,defers:=[] } w G I N:=by
    refine ⟨fun s t ht=> ?_,hpre.hr,hpre.wf,hpre.T9,?_,hpre.bO,l5 _,?_,by simp⟩
    ·simp only
     by_cases hs:s<args.length
     ·have hst:t=s:=by
       have h1:(af.names.take af.nparams)[s]? =some t:=by rw [List.getElem?_take_of_lt (by omega)];exact ht
       rw [XS,List.getElem?_range (by omega)] at h1;cases h1;rfl
      subst hst;obtain ⟨x,g1,g2⟩:=F1.get _ _ hpre.args t args[t] (o7 hs);have e1:(args++c9 (af.names.length - args.length) b6.any).getD t .any=args[t]:=by
       rw [List.getD,p4 hs,o7 hs];rfl
      have e2:(L0++Array.replicate (fn.ntmps - L0.size) undef).getD t undef=x:=by
       have hv:L0[t]? =some x:=by simpa using g1
       have hlt:t<L0.size:=Nat.lt_of_lt_of_eq hs hvl.symm;simp [Array.getElem?_append_left hlt,hv]
      rw [e1,e2];exact g2.place
     ·have e1:(args++c9 (af.names.length - args.length) b6.any).getD s .any= .any:=by
       rw [List.getD,p9 (by omega)]
       rcases p7 (s - args.length) (af.names.length - args.length) with h|h
       ·simp [h]
       ·rw [q6 (by simpa using h)];rfl
      rw [e1];simp [VR]
    ·simp;omega
    ·simp;omega
   have hE:Hx P ⟨cf,A.prom,A.mode,A.idle,l,H.length⟩:=⟨Ck,hcan,hpre.strict,hpre.base⟩;refine calls_of_wp_defers hf hbody ?_;have fin:∀ (st:St) (vs:List b6),bF st.T st.H af.results=some vs->finish af.an H.length vs st.H=some (v,H1)->∀ a' w' G' I' N',Cd P af.names ⟨cf,A.prom,A.mode,A.idle,l,H.length⟩ fn.ntmps st a' w' G' I' N' ->
     V5 ⟨cf,A.prom,A.mode,A.idle,l,H.length⟩ H w G I N st.H w' G' I' N' ->Leaves P fn a'.tmps (fun e w' =>∃ x G' I' N',e= .returned x/\nu l H w G I N v H1 x w' G' I' N') a'.defers .returning w' :=by
    intro st vs hvs rM a' w' G' I' N' hc hs;refine sW yR a'.defers w' hc.idle ?_;intro w'' XT;have kj:=hc.same XT;have vA:=hs.same XT;obtain ⟨xs,h1,h2,h3⟩:=It kj fn.results.toList af.results vs hres hvs;refine ⟨_,DM h1,(if h:xs.length=1 then xs[0]'(by omega) else .tuple xs.toArray),?_⟩;obtain ⟨pl,G2,hm,Gr,hv⟩:=UW (w:=w'') (G:=G') (I:=I') (N:=N') h2 h3;have Gm:Ext G w G2 w'' :=vA.ext.trans hm.ext;have Sd:iN l G w G2 w'' :=vA.dZ.trans fun id _=>⟨fun b hb=>⟨hm.obj b id hb,rfl⟩,fun off=>hm.keeps _ (fun e=>Gr id off e.symm)⟩
    have hhr:HR G2 I' N' w'' st.H:=kj.H.Dp hm Gr;unfold finish at rM;split at rM
    ·cases rM
     refine ⟨G2,I',N',rfl,hv,hhr,hm.wf kj.wf,Gm,Sd,fun id hid hN=>vA.inj id hid hN,fun id hN=>vA.mono id (hpre.bO id hN) hN,fun id hid hN=>vA.old id hid hN,kj.bO,vA.hle,kj.T9⟩
    ·rename_i sQ
     have sQ:af.an=false:=by simpa using sQ
     have hb:=hbase sQ;split at rM
     ·rename_i u hu
      split at rM
      ·rename_i kT
       cases rM;obtain ⟨_,hfz⟩:=mR (n:=H.length) hhr 1000 _ _ hu;obtain ⟨b,e1,e2⟩:=hfz 0 _ .ret _ rfl hv;simp at e1;subst e1;have Mr:=VR.low H.length _ _ _ kT e2;have hlt:∀ (id:Nat) o,(st.H.take H.length)[id]? =some o->id<H.length/\st.H[id]? =some o:=by
        intro id o ho;have:id<H.length:=by have:=n9 ho;simp at this;omega
        rw [List.getElem?_take_of_lt this] at ho;exact ⟨this,ho⟩
       refine ⟨freeze G2 H.length,I',fun i=>N' i/\i<H.length,rfl,Mr,fun id o ho=> ?_,Kv (hm.wf kj.wf),Gm.trans om,fun id hid=> ?_,fun id hid hN=>vA.inj id hid hN,fun id hN=>⟨vA.mono id (hpre.bO id hN) hN,hpre.bO id hN⟩,
        fun id hid hN=>vA.old id hid hN.1,fun id hN=> ?_,fun id o' hid ho=> ?_,fun id o ho=> ?_⟩
       ·obtain ⟨h4,h5⟩:=hlt id o ho
        have AY:=(kj.T9 id o h5).2 (by simp only;omega);simp only at AY;exact OR.mono om.sub (fun _ _=>rfl) (fun _ h=>h) id o (fun hb=>⟨vt h4 hb,rfl⟩) (fun _=>jL _) (OR.low h4 o (by omega) (hhr id o h5))
       ·obtain ⟨p1,p2⟩:=Sd id hid
        refine ⟨fun b hb=> ?_,fun off b m hb=> ?_⟩
        ·obtain ⟨q1,q2⟩:=p1 b hb
         exact ⟨vt (hpre.jb b id hb) q1,q2⟩
        ·obtain ⟨q1,q2⟩:=p2 off b m hb
         obtain ⟨q3,_⟩:=jL (w:=w'') (n:=H.length) (.cell id off) b m q1;exact ⟨q3,q2⟩
       ·have:=kj.bO id hN.1;simp;omega
       ·obtain ⟨h4,h5⟩:=hlt id o' ho
        exact vA.hle id o' hid h5
       ·obtain ⟨h4,h5⟩:=hlt id o ho
        exact kj.T9 id o h5
      ·cases rM
     ·cases rM
   split at hrun
   ·cases hrun
   ·rename_i x st hne hex
    split at hrun
    ·rename_i vs hvs
     refine Gf hE TM n _ af.body c (Nat.lt_succ_self _) Xl _ x st _ w G I N hex hstart _ ?_;intro a' w' G' I' N' hc hs;have:=fin st vs hvs hrun a' w' G' I' N' hc hs;cases x with
     |normal=>exact this
     |ret=>exact this
     |exit id=>exact absurd rfl (hne id)
    ·cases hrun
   ·cases hrun
  ·cases hrun
def jB (P:Program)(prom:FuncId->Bool)(f:FuncId)(p:List b6->o6->F9->Option (b6×o6)):Prop :=
 T3 P f=true/\∀ args H l v H1,p args H l=some (v,H1)->∀ w G I N L0,FF l H w G I N args L0->(prom f=false->l.base=H.length) ->
  Calls P f L0 w fun e w' =>∃ x G' I' N',e= .returned x/\nu l H w G I N v H1 x w' G' I' N'
structure qW (P:Program)(A:Prog):Prop where
 idle:∀ f,A.idle f=true->Idle P f
 ga:∀ f p,A.ga f=some p->jB P A.prom f p
 fn:∀ f af,A.ga f=none->A.fn f=some af->∃ fn,P.funcs[f]? =some fn/\n6 P fn af=true
theorem FW {P:Program}{f:FuncId}{fn:Func}{af:q5}(hf:P.funcs[f]? =some fn)(h:n6 P fn af=true):T3 P f=true:=by
 unfold n6 at h;unfold T3;rw [hf];cases hb:fn.body with
 |none=>rw [hb] at h;cases h
 |some c =>
  rw [hb] at h;simp only [b5] at h;simp only [hb,Option.isSome_some,Bool.and_true];exact h.2
theorem uR {P:Program}{A:Prog}(h:qW P A):∀ n,kK P (call A n) A.prom/\∀ f args H lm r,call A n f args H lm=some r->T3 P f=true
 |0=>⟨fun f args H l v H1 hc=>by simp [call] at hc,fun f args H lm r hc=>by simp [call] at hc⟩
 |n+1=>by
  obtain ⟨ih1,ih2⟩:=uR h n;refine ⟨fun f args H l v H1 hc w G I N L0 hpre hb=> ?_,fun f args H lm r hc=> ?_⟩
  ·simp only [call] at hc
   split at hc
   ·rename_i p hp
    exact (h.ga f p hp).2 args H l v H1 hc w G I N L0 hpre hb
   ·rename_i hp
    split at hc
    ·rename_i af ZW
     obtain ⟨fn,h1,h2⟩:=h.fn f af hp ZW;exact FU h.idle ih1 ih2 h1 h2 hc hpre (fun dc=>hb (by simp [Prog.prom,ZW,dc]))
    ·cases hc
  ·simp only [call] at hc
   split at hc
   ·rename_i p hp
    exact (h.ga f p hp).1
   ·rename_i hp
    split at hc
    ·rename_i af ZW
     obtain ⟨fn,h1,h2⟩:=h.fn f af hp ZW;exact FW h1 h2
    ·cases hc
def fJ (o:Oper):Bool:=match o.op with
 | .call ⟨.builtin .recover,args,_⟩=>args.isEmpty&&o.guard.isNone
 |_=>false
def Bf (P:Program)(d:Option Tmp)(o:Oper):Bool:=match o.op with
 | .binOp .neq t (.tmp x) (.const .nilIface) _=>d==some x&&o.guard.isNone&&(match P.underlying t with
  |some (.interface _)=>true
  |_=>false)
 |_=>false
def bC (P:Program)(fn:Func):Bool :=
 fn.name != "runtime.NumGoroutine" && fn.results.isEmpty && (match fn.body with
 |some (.region _ ops false)=>(match ops.toList with
  |[o]=>fJ o
  |_=>false)
 |some (.seq (.region _ ops false) (.cond (.tmp c) _ .skip))=>(match ops.toList with
  |[o1,o2]=>fJ o1&&Bf P o1.dst o2&&o2.dst==some c&&(match o1.dst with
   |some d=>decide (d<fn.ntmps)&&decide (c<fn.ntmps)
   |none=>false)
  |_=>false)
 |_=>false)
theorem ta {P:Program}{o:Oper}(h:fJ o=true)(a:Act)(w:World):(execOp a.eval o).run P w= .ok .recover w:=by
 unfold fJ at h;split at h
 ·rename_i args argTypes hop
  obtain ⟨dst,bt,ty,pos,after,guard⟩:=o;simp only at hop;subst hop;simp [execOp,resolve,invoke,builtin]
 ·cases h
theorem lM {o:Oper}(h:fJ o=true)(y:Nat->Option Bool):Region.wanted o y=true:=by
 unfold fJ at h;split at h
 ·simp only [b5] at h
  have:o.guard=none:=by simpa using h.2
  simp [Region.wanted,this]
 ·cases h
theorem Ol {P:Program}{o:Oper}{d:Option Tmp}(h:Bf P d o=true)(a:Act)(w:World)(ha:∀ x,d=some x->a.tmps.getD x undef= .nilIface):(execOp a.eval o).run P w= .ok (.value (.bool false)) w:=by
 unfold Bf at h;split at h
 ·rename_i t x yt hop
  simp only [b5,beq_iff_eq] at h;obtain ⟨⟨h1,h2⟩,h3⟩:=h;obtain ⟨dst,bt,ty,pos,after,guard⟩:=o;simp only at hop;subst hop;have hx:a.eval (.tmp x)= .nilIface:=by simp only [Act.eval];exact ha x h1
  split at h3
  ·rename_i ms hu
   have h1:(execOp a.eval (⟨dst,.binOp .neq t (.tmp x) (.const .nilIface) yt,ty,pos,after,guard⟩:Oper)).run P w= .ok (.value (.bool false)) w:=by
    simp only [execOp,hx];have hc:a.eval (.const .nilIface)= .nilIface:=rfl;rw [hc];simp only [eqGuard,binOp];simp [nD hu]
   exact h1
  ·cases h3
 ·cases h
theorem X0 {P:Program}{f:FuncId}{fn:Func}(hf:P.funcs[f]? =some fn)(h:bC P fn=true):Idle P f:=by
 unfold bC at h;simp only [b5] at h;obtain ⟨⟨hname,hres⟩,h⟩:=h;have XM :fn.results= #[]:=by simpa using hres
 have hrun:∀ tmps w,(results fn tmps).run P w= .ok (.tuple #[]) w:=by
  intro tmps w;simp [results,XM]
 have RZ:∀ (c₀:Frame) (cs:List Frame),c₀.mode= .returning->recoverD (c₀::cs)=none:=by
  intro c₀ cs hm;simp [recoverD,hm]
 split at h
 ·rename_i id ops hb
  refine ⟨by simp only [T3,hf,hb];simpa using hname,fun args w=> ?_⟩;refine callsD_of_wpS hf hb ?_;intro c₀ cs hm;split at h
  ·rename_i o ho
   have Mu:ops= #[o]:=by apply Array.toList_inj.1;simpa using ho
   subst Mu;refine wpS_region ?_;have CQ:(#[o]:Array Oper)[0]? =some o:=rfl;show wpOpsS P #[o] _ [0] _ _ _
   simp only [wpOpsS,CQ,lM h,if_true,ta h,RZ c₀ cs hm];refine ⟨by rw [jE],.returning,?_,.tuple #[],hrun _ _,⟨_,rfl⟩,rfl,ez.refl _⟩;cases c₀;simp only at hm;subst hm;rfl
  ·cases h
 ·rename_i id ops c thn hb
  refine ⟨by simp only [T3,hf,hb];simpa using hname,fun args w=> ?_⟩;refine callsD_of_wpS hf hb ?_;intro c₀ cs hm;split at h
  ·rename_i o1 o2 ho
   have Mu:ops= #[o1,o2]:=by apply Array.toList_inj.1;simpa using ho
   subst Mu;simp only [b5,beq_iff_eq] at h;obtain ⟨⟨⟨h1,h2⟩,h3⟩,h4⟩:=h;cases hd:o1.dst with
   |none=>rw [hd] at h4;cases h4
   |some d =>
    rw [hd] at h4;simp only [b5,decide_eq_true_eq] at h4;refine wpS_seq (wpS_region ?_);have Xw:(#[o1,o2]:Array Oper)[0]? =some o1:=rfl;have hg1:(#[o1,o2]:Array Oper)[1]? =some o2:=rfl;show wpOpsS P #[o1,o2] _ [0,1] _ _ _
    simp only [wpOpsS,Xw,hg1,lM h1,if_true,ta h1,RZ c₀ cs hm];have HV:∀ y,Region.wanted o2 y=true:=by
     intro y;unfold Bf at h2;split at h2
     ·simp only [b5] at h2
      have:o2.guard=none:=by simpa using h2.1.2
      simp [Region.wanted,this]
     ·cases h2
    have hlt:d<(args++Array.replicate (fn.ntmps - args.size) undef).size:=Nat.lt_of_lt_of_le h4.1 (by simp;omega);have hlt2:c<(args++Array.replicate (fn.ntmps - args.size) undef).size:=Nat.lt_of_lt_of_le h4.2 (by simp;omega);have Sf:=fun a hh=>Ol (P:=P) h2 a w hh
    simp only [HV,if_true];rw [Sf _ (by
     intro x hx;rw [hd] at hx;cases hx;rw [hd];exact Z8 hlt)]
    simp only [Oper.upon,Exit.thenS];refine wpS_cond (t:=false) ?_ ?_
    ·rw [h3]
     simp only [Act.eval];exact Z8 (by rw [DW];exact hlt2)
    ·refine wpS_of_wp (wp_skip ?_)
     refine ⟨by rw [jE,jE],.returning,?_,.tuple #[],hrun _ _,⟨_,rfl⟩,rfl,ez.refl _⟩;cases c₀;simp only at hm;subst hm;rfl
  ·cases h
 ·cases h
def bK:F9:=⟨0,0,0,0⟩
structure Kept (w w' :World):Prop where
 os:w'.os=w.os
 output:w'.output=w.output
 size:w.heap.size<=w'.heap.size
 old:∀ b:Nat,b<w.heap.size->w'.heap[b]? =w.heap[b]?
theorem Kept.but {w w' :World}(h:Kept w w')(may:MemPlace->Prop):w.keptBut w' may:=by
 refine ⟨h.os,h.output,fun i hi=> ?_⟩;rw [h.old i hi];split
 ·rename_i V7 V3
  rw [V7] at V3;cases V3;exact ⟨rfl,rfl,rfl,fun _ _=>rfl⟩
 ·rename_i V7 V3
  rw [V7] at V3;cases V3;exact Or.inr ⟨rfl,rfl⟩
 ·rfl
theorem Kept.frozen {w w' :World}(h:Kept w w'){a:Addr}(ha:a.block<w.heap.size):w'.frozen? a=w.frozen? a:=by
 simp only [World.frozen?,h.old a.block ha]
def G0 (w:World):Gh:=fun b=>if b<w.heap.size then .jz else .free
theorem KG {P:Program}{A:Prog}(h:qW P A){n:Nat}{f:FuncId}{args:List b6}{L0:Array Value}{w:World}(hc:call A n f args [] bK=some (.d (.bool true),[]))
  (hargs:F1 (G0 w) (fun _=>(0,0)) (fun _=>False) w args L0.toList):Calls P f L0 w fun e w' =>e= .returned (.bool true)/\Kept w w' :=by
 have hpre:FF bK [] w (G0 w) (fun _=>(0,0)) (fun _=>False) args L0:=by
  refine ⟨hargs,?_,?_,?_,?_,l5 _,l5 _,?_⟩
  ·intro id o ho;simp at ho
  ·intro b hb;simp only [G0];rw [if_neg (by omega)]
  ·intro id hid;exact hid.elim
  ·intro id o ho;simp at ho
  ·intro b id hb
   simp only [G0] at hb;split at hb<;>cases hb
 refine Calls.mono ((uR h n).1 f args [] bK _ _ hc w _ _ _ L0 hpre (fun _=>rfl)) ?_;rintro e w' ⟨x,G',I',N',rfl,hp⟩;have hx:=hp.val;simp only [VR,DR] at hx;subst hx;refine ⟨rfl,hp.ext.os,hp.ext.output,hp.ext.size,fun b hb=> ?_⟩;refine (hp.ext.still b (Or.inl ?_)).2;simp only [G0];rw [if_pos hb]
theorem HG {A:Prog}{n:Nat}{f:FuncId}{af:q5}{args:List b6}{H:o6}{l:F9}(hp:A.ga f=none)(hf:A.fn f=some af):call A (n+1) f args H l=fQ A (call A n) n af args H l:=by
 simp only [call,hp,hf]
def jI (af:q5)(n:Nat)(o:Option (D2×St)):Option (b6×o6):=match o with
 |some (.exit _,_)=>none
 |some (_,st)=>(match bF st.T st.H af.results with
  |some vs=>finish af.an n vs st.H
  |none=>none)
 |none=>none
theorem oS {A:Prog}{cf:oL}{n:Nat}{af:q5}{args:List b6}{H:o6}{l:F9}(h:args.length=af.nparams) :
  fQ A cf n af args H l=jI af H.length (exec ⟨cf,A.prom,A.mode,A.idle,l,H.length⟩ n af.body ⟨args++c9 (af.names.length - args.length) .any,H⟩):=by
 unfold fQ jI;rw [if_pos h];rfl
section
variable {H:Type} {enc:TypeId×Value->H} {P:Program}
open Go.ChangeShapes Go.WideShapes
theorem KN {f:Func}{s:ChangeSpec}{apart fresh handsOn again:Bool}{W W' :World}{args:Array Value}{v:Value}{ds gs:List (DataW H)}{before pa pv:List MemPlace}
  (hW:DataW.Whole enc P f.params.toList s.vars apart W args.toList ds gs before) (hK:Kept W W')
  (hres:∀ (b:Nat) (sp:Nat->Bool) (hd:Bool),DataW.TrodAll enc P W' b sp hd f.resultTypes.toList (v.resultList f.resultTypes.size) (s.fn H (ds++gs)).results [])
  (hargs:∀ sp:Nat->Bool,(∀ p ∈ before,sp p.block=true)->DataW.TrodAll enc P W' 0 sp true f.params.toList args.toList (s.fn H (ds++gs)).args pa)
  (hvars:∀ sp:Nat->Bool,(∀ p ∈ before,sp p.block=true)->DataW.TrodVars enc P W' sp s.vars (s.fn H (ds++gs)).vars pv)
  (hps:before=pa++pv)
  (hok:∀ (j:Nat) (t:TypeId) (r:Value),f.resultTypes[j]? =some t->(v.resultList f.resultTypes.size)[j]? =some r->Value.okWide P W' .any 0 t r) :
  s.post enc P f apart fresh handsOn again W args v W' :=by
 have hlt:=hW.lt;have hin:∀ p,p ∈ pa++pv->p ∈ before:=fun p hp=>by rw [hps];exact hp
 refine ⟨ds,gs,before,[],pa,pv,hW,hres _ _ _,hargs _ (fun p hp=>by simpa using hlt p hp),hvars _ (fun p hp=>by simpa using hlt p hp),World.keptBut_mono (fun p hp=>⟨hp,?_⟩) (hK.but _),fun _=> ?_⟩
 ·rw [hps,List.mem_append] at hp
  exact Or.inr hp
 ·obtain ⟨_,_,_,_,_,hz,hn⟩:=hW
  refine ⟨hok,_,_,([]++pa)++pv,⟨[]++pa,pv,trodAll_append (hargs _ (fun _ _=>rfl)) (hres _ _ _),hvars _ (fun _ _=>rfl),rfl,fun b off hp=> ?_,fun ha=> ?_⟩,fun p hp _=> ?_⟩
  ·have hb:=hin _ (by simpa using hp)
   rw [hK.frozen (hlt _ hb)];exact hz b off hb
  ·have:=hn ha
   rw [hps] at this;simpa using this
  ·exact hin p (by simpa using hp)
end
end Go.u7


/- Texts A31 A32 A33 A34 A35 A36 (made short by a program) -/
import Derived.Test.YtkmclibmmlgogaaGreatB3
import Derived.Defers
import Derived.Recover
import Derived.ChangeSame
import Derived.ProofKit
set_option linter.unusedVariables false
set_option linter.unusedSimpArgs false
open Bool renaming and_eq_true → b5
open List renaming getElem?_append_right → s7, getElem?_eq_getElem → s9, getElem?_eq_none → A8, replicate → c9
open Nat renaming le_refl → n5, lt_or_ge → u9
namespace Go.y3
def E4.Je:E4->Exit
 | .normal=> .normal
 | .exit id=> .exit id
 | .ret=> .ret
def wV (P:Program)(names:List Tmp)(ops:Array Oper)(n:Nat)(c' :Operand)(c:q7):Bool:=Cx.ck ⟨P,names,ops⟩ (fun j=>decide (j<n)) c' c
def W4 (P:Program)(names:List Tmp)(nt:Nat):Code->o8->Bool
 |c,.seq (.fz _) k=>W4 P names nt c k
 | .skip,.skip=>true
 | .region _ ops d',.region j4 d=>d==d' &&cN P names nt ops j4 d
 | .seq (.region _ ops d') (.seq (.cond c' x' y') z'),.seq (.test j4 d c x y) k =>
  d==d' &&cN P names nt ops j4 d&&wV P names ops j4.length c' c&&W4 P names nt x' x&&W4 P names nt y' y&&W4 P names nt z' k
 | .seq (.region _ ops d') (.cond c' x' y'),.test j4 d c x y =>
  d==d' &&cN P names nt ops j4 d&&wV P names ops j4.length c' c&&W4 P names nt x' x&&W4 P names nt y' y
 | .seq (.region i ops d') (.seq (.cond c' x' y') z'),.seq (.seq (.region j4 d) (.cond c x y)) k =>
  W4 P names nt (.region i ops d') (.region j4 d)&&W4 P names nt (.cond c' x' y') (.cond c x y)&&W4 P names nt z' k
 | .seq x' y',.seq x y=>W4 P names nt x' x&&W4 P names nt y' y
 | .cond c' x' y',.cond c x y=>wV P names #[] 0 c' c&&W4 P names nt x' x&&W4 P names nt y' y
 | .block id' b',.block id b=>id' ==id&&W4 P names nt b' b
 | .loop b',.loop _ b=>W4 P names nt b' b
 | .exit id',.exit id=>id' ==id
 | .ret,.ret=>true
 |_,.bad=>true
 |_,_=>false
theorem oc:∀ (m:List Bool) (T:List b6) (s:Nat),(V0 m T).getD s .any=T.getD s .any\/(V0 m T).getD s .any= .any
 |[],[],s=>by simp [V0]
 |[],v::vs,0=>by simp [V0]
 |[],v::vs,s+1=>by simpa [V0] using oc [] vs s
 |b::m,[],s=>by simp_all [V0]
 |true::m,v::vs,0=>by simp [V0]
 |false::m,v::vs,0=>by simp [V0]
 |true::m,v::vs,s+1=>by simpa [V0] using oc m vs s
 |false::m,v::vs,s+1=>by simpa [V0] using oc m vs s
theorem jJ:∀ (m:List Bool) (T:List b6),(V0 m T).length=T.length
 |[],[]=>by simp [V0]
 |[],v::vs=>by simpa [V0] using jJ [] vs
 |b::m,[]=>by simp_all [V0]
 |true::m,v::vs=>by simpa [V0] using jJ m vs
 |false::m,v::vs=>by simpa [V0] using jJ m vs
theorem least {p:Nat->Prop}(h:∃ m,p m):∃ m,p m/\∀ k,p k->m<=k:=by
 obtain ⟨m,hm⟩:=h
 induction m using Nat.strongRecOn with
 |_ m ih =>
  grind
theorem Xy {α β:Type}(J:Nat->α->β->Prop):∃ μ:α->β->Nat,∀ a b,(∃ m,J m a b)->J (μ a b) a b/\∀ k,J k a b->μ a b<=k:=by
 have:∀ a b,∃ m,(∃ m,J m a b)->J m a b/\∀ k,J k a b->m<=k:=by
  intro a b
  by_cases h:∃ m,J m a b
  all_goals simp_all [least,absurd]
 exact ⟨fun a b=>Classical.choose (this a b),fun a b=>Classical.choose_spec (this a b)⟩
section
variable {P:Program} {names:List Tmp} {E:Env} {nt:Nat}
theorem Ej {st:St}{a:Act}{w:World}{G:Gh}{I:T0}{N:Nat->Prop}(h:Cd P names E nt st a w G I N)(mask:List Bool){n:Nat}(hn:E.entry<=n) :
  ∃ N',Cd P names E nt (clean mask E.lim.strict n st) a w G I N' /\W6 E st.H w G I N (clean mask E.lim.strict n st).H w G I N' :=by
 have hT:∀ (s:Nat) t,names[s]? =some t->VR G I N w (.slot s) ((V0 mask st.T).getD s .any) (a.tmps.getD t undef):=by
  intro s t ht
  rcases oc mask st.T s with e|e
  ·rw [e];exact h.T s t ht
  simp_all [VR]
 unfold clean;split
 ·rename_i hc
  refine ⟨fun i=>N i/\i<n,⟨fun s t ht=>VR.low n _ _ _ ?_ (hT s t ht),fun id o ho=> ?_,h.wf,fun id o ho=> ?_,?_,fun id hid=> ?_,?_,h.size,h.idle⟩,?_⟩
  ·cases hg:(V0 mask st.T)[s]? with
   |none=>simp [hg,b6.N4]
   |some v =>
    have:=qw _ _ _ hg
    grind
  ·have hlt:id<n:=by grind
   rw [List.getElem?_take_of_lt hlt] at ho;exact OR.low hlt o (tN h.U8 hc.2 hlt ho) (h.H id o ho)
  ·have hlt:id<n:=by grind
   rw [List.getElem?_take_of_lt hlt] at ho;exact h.U8 id o ho
  ·simp [jJ];exact h.U9
  ·have:=h.cE id hid.1
   simp;omega
  ·have:=h.Eo
   simp;omega
  ·refine ⟨Ext.refl _ _,jw.refl _ _ _,fun _ _ _=>rfl,fun id hid hN=>⟨hN,by omega⟩,fun id _ hN=>hN.1,fun id o' _ ho=> ?_⟩
   grind
 ·exact ⟨N,⟨hT,h.H,h.wf,h.U8,by simp [jJ];exact h.U9,h.cE,h.Eo,h.size,h.idle⟩,W6.refl _ _ _ _ _ _⟩
def Sound (P:Program)(names:List Tmp)(nt:Nat)(E:Env)(C:Code)(run:St->Option (E4×St)):Prop :=
 ∀ st x st' a w G I N,run st=some (x,st')->Cd P names E nt st a w G I N->∀ Q:Exit->Act->World->Prop,
  (∀ a' w' G' I' N',Cd P names E nt st' a' w' G' I' N' ->W6 E st.H w G I N st'.H w' G' I' N' ->Q x.Je a' w')->C.wp P Q a w
theorem yO {X:Cx}{j4:List n8}{S:Nat->Prop}{r:E5}{a:Act}{w:World}{G:Gh}{I:T0}{N:Nat->Prop}{D:Nat->Bool}(h:Rg X j4 E nt S r a w G I N)(hD:∀ j,D j=true->S j){c' :Operand}{c:q7}(hc:X.ck D c' c=true){b:Bool}
  (hv:F5 r.T r.L c= .d (.bool b)):a.eval c' = .bool b:=by
 have:=h.ri.R8 hD c' c hc;simp_all [VR,DR]
theorem wZ {st:St}{a:Act}{w:World}{G:Gh}{I:T0}{N:Nat->Prop}(h:Cd P names E nt st a w G I N){c' :Operand}{c:q7}(hc:wV P names #[] 0 c' c=true){b:Bool}(hv:F5 st.T [] c= .d (.bool b)):a.eval c' = .bool b:=by
 have hR:Rg ⟨P,names,#[]⟩ [] E nt (fun _=>False) ⟨st.T,st.H,[],[]⟩ a w G I N:=h.start _ rfl (fun _ h=>h) [] (by simp) (by simp) rfl [];exact yO hR (D:=fun j=>decide (j<0)) (fun j hj=>by simp at hj) hc hv
def andThen (rx ry:St->Option (E4×St)):St->Option (E4×St):=fun st=>match rx st with
 |some (.normal,st')=>ry st'
 |r=>r
theorem yx {x y:Code}{rx ry:St->Option (E4×St)}(hx:Sound P names nt E x rx)(hy:Sound P names nt E y ry)
  {st:St} {e:E4} {st' :St} {a:Act} {w:World} {G:Gh} {I:T0} {N:Nat->Prop} (hrun:andThen rx ry st=some (e,st')) (h:Cd P names E nt st a w G I N) (Q:Exit->Act->World->Prop)
  (hQ:∀ a' w' G' I' N',Cd P names E nt st' a' w' G' I' N' ->W6 E st.H w G I N st'.H w' G' I' N' ->Q e.Je a' w'):x.wp P (Exit.then (y.wp P Q) Q) a w:=by
 unfold andThen at hrun;split at hrun
 ·rename_i S4 h1
  refine hx st .normal S4 a w G I N h1 h _ ?_;intro a1 w1 G1 I1 N1 hc hs;refine hy S4 e st' a1 w1 G1 I1 N1 hrun hc Q ?_;intro a2 w2 G2 I2 N2 mE xA;exact hQ a2 w2 G2 I2 N2 mE (hs.trans xA)
 ·refine hx st e st' a w G I N hrun h _ ?_
  intro a1 w1 G1 I1 N1 hc hs;have:=hQ a1 w1 G1 I1 N1 hc hs;cases e with
  |normal=>simp_all
  |exit id=>exact this
  |ret=>exact this
theorem tO {x y:Code}{rx ry:St->Option (E4×St)}(hx:Sound P names nt E x rx)(hy:Sound P names nt E y ry) :
  Sound P names nt E (.seq x y) (andThen rx ry) :=
 fun _ _ _ _ _ _ _ _ hrun h Q hQ=>wp_seq (yx hx hy hrun h Q hQ)
theorem zU (rx ry rz:St->Option (E4×St)):andThen (andThen rx ry) rz=andThen rx (andThen ry rz):=by
 grind [andThen]
theorem yw (hE:Jn P E)(hn:iJ names=true){ops:Array Oper}{j4:List n8}{d:Bool}{c:q7}{c' :Operand}(aI6:cN P names nt ops j4 d=true)(hck:wV P names ops j4.length c' c=true)
  {st:St} {a:Act} {w:World} {G:Gh} {I:T0} {N:Nat->Prop} (h:Cd P names E nt st a w G I N) {r:E5} (hr:P6 E j4 d st.T st.H=some r) {b:Bool} (hv:F5 r.T r.L c= .d (.bool b)) (id:Nat) (Q:Exit->Act->World->Prop)
  (hQ:∀ a' w' G' I' N',Cd P names E nt ⟨r.T,r.H⟩ a' w' G' I' N' ->W6 E st.H w G I N r.H w' G' I' N' ->a'.eval c' = .bool b->Q .normal a' w'):(Code.region id ops d).wp P Q a w:=by
 refine rH hE hn aI6 h hr id Q ?_;intro a' w' G' I' N' hR hs;exact hQ a' w' G' I' N' (Cd.done rfl hR) hs (yO hR (D:=fun j=>decide (j<j4.length)) (fun j hj=>by simp_all) hck hv)
theorem IQ {c:Code}{body:St->Option (E4×St)}(hb:Sound P names nt E c body)(mask:List Bool)(fuel:Nat) :
  Sound P names nt E (.loop c) (fun st=>fm body mask E.lim.strict st.H.length fuel st):=by
 intro st e st' a w G I N hrun h Q hQ;simp at hrun;generalize hn:st.H.length=n at hrun;have hen:E.entry<=n:=by rw [<- hn];exact h.Eo
 let J:Nat->Act->World->Prop:=fun m a' w' =>∃ S4 G1 I1 N1,fm body mask E.lim.strict n m S4=some (e,st')/\Cd P names E nt S4 a' w' G1 I1 N1/\W6 E st.H w G I N S4.H w' G1 I1 N1
 obtain ⟨μ,ai0⟩:=Xy J;refine wp_loop (I:=fun a' w' =>∃ m,J m a' w') (μ:=μ) ⟨fuel,st,G,I,N,hrun,h,W6.refl _ _ _ _ _ _⟩ ?_;intro a1 w1 hJ;obtain ⟨hm,hmin⟩:=ai0 a1 w1 hJ;generalize hμ:μ a1 w1=m at hm;obtain ⟨S4,G1,I1,N1,JM,hc1,hs1⟩:=hm;cases m with
 |zero=>grind [fm]
 |succ m =>
  simp [fm] at JM;obtain ⟨N2,mE,xA⟩:=Ej hc1 mask hen;split at JM
  ·rename_i aB hb2
   refine hb _ .normal aB a1 w1 G1 I1 N2 hb2 mE _ ?_;intro a3 w3 G3 I3 N3 Zm hs3;have hJ3:J m a3 w3:=⟨aB,G3,I3,N3,JM,Zm,(hs1.trans xA).trans hs3⟩;refine ⟨⟨m,hJ3⟩,?_⟩;exact Nat.lt_succ_of_le ((ai0 a3 w3 ⟨m,hJ3⟩).2 m hJ3)
  ·refine hb _ e st' a1 w1 G1 I1 N2 JM mE _ ?_
   intro a3 w3 G3 I3 N3 Zm hs3;have:=hQ a3 w3 G3 I3 N3 Zm ((hs1.trans xA).trans hs3);cases e with
   |normal=>simp_all
   |exit id=>exact this
   |ret=>exact this
theorem xe {lim:Nat}(x y:o8):exec E lim (.seq x y)=andThen (exec E lim x) (exec E lim y):=by
 rfl
theorem HY (hE:Jn P E)(hn:iJ names=true)(lim:Nat):∀ (n:Nat) (c:o8) (C:Code),SizeOf.sizeOf c<n->W4 P names nt C c=true->Sound P names nt E C (exec E lim c):=by
 intro n
 induction n with
 |zero=>omega
 |succ n ih =>
 intro c C hsz hc;unfold W4 at hc;split at hc
 all_goals (try (cases hc;done))
 ·
  rename_i s k;simp only [o8.seq.sizeOf_spec] at hsz;have ik:=ih k C (by omega) hc;intro st e st' a w G I N hrun h Q hQ;simp only [exec] at hrun;cases hf:Ic E.lim E.entry s st with
  |none=>simp_all
  |some S4 =>
   rw [hf] at hrun;obtain ⟨G1,N1,h1,s1⟩:=ON h hf;exact ik S4 e st' a w G1 I N1 hrun h1 Q (fun a' w' G' I' N' uk hs' =>hQ a' w' G' I' N' uk (s1.trans hs'))
 ·
  intro st e st' a w G I N hrun h Q hQ;cases hrun;exact wp_skip (hQ a w G I N h (W6.refl _ _ _ _ _ _))
 ·
  rename_i id ops d' j4 d;simp only [b5,beq_iff_eq] at hc;obtain ⟨rfl,hc⟩:=hc;intro st e st' a w G I N hrun h Q hQ;simp only [exec] at hrun;split at hrun
  ·rename_i r hr
   cases hrun;refine rH hE hn hc h hr id Q ?_;intro a' w' G' I' N' hR hs;exact hQ a' w' G' I' N' (Cd.done rfl hR) hs
  ·cases hrun
 ·
  rename_i id ops d' c' x' y' z' j4 d c x y k;simp only [b5,beq_iff_eq] at hc;obtain ⟨⟨⟨⟨⟨rfl,h1⟩,h2⟩,h3⟩,h4⟩,h5⟩:=hc;simp only [o8.seq.sizeOf_spec,o8.test.sizeOf_spec] at hsz;have ix:=ih x x' (by omega) h3;have iy:=ih y y' (by omega) h4;have iz:=ih k z' (by omega) h5;intro st e st' a w G I N hrun h Q hQ;simp only [exec] at hrun;refine wp_seq ?_;cases hr:P6 E j4 d st.T st.H with
  |none=>simp_all
  |some r =>
   rw [hr] at hrun;simp only at hrun;have both:∀ (b:Bool) (z:Code) (rz:St->Option (E4×St)),F5 r.T r.L c= .d (.bool b)->Sound P names nt E z rz->andThen rz (exec E lim k) ⟨r.T,r.H⟩=some (e,st')->(if b then x' else y')=z->(Code.region id ops d).wp P (Exit.then ((Code.seq (.cond c' x' y') z').wp P Q) Q) a w:=by
    intro b z rz hv hz hrz hbz;refine yw hE hn h1 h2 h hr hv id _ ?_;intro a' w' G' I' N' uk hs' hev;refine wp_seq (wp_cond hev ?_);rw [hbz];refine yx hz iz hrz uk Q ?_;intro a2 w2 G2 I2 N2 mE xA;exact hQ a2 w2 G2 I2 N2 mE (hs'.trans xA)
   cases hv:F5 r.T r.L c with
   |d v =>
    cases v with
    |bool b =>
     rw [hv] at hrun;cases b with
     |true=>exact both true x' _ hv ix hrun rfl
     |false=>exact both false y' _ hv iy hrun rfl
    |_=>simp_all
   |_=>simp_all
 ·
  rename_i id ops d' c' x' y' j4 d c x y;simp only [b5,beq_iff_eq] at hc;obtain ⟨⟨⟨⟨rfl,h1⟩,h2⟩,h3⟩,h4⟩:=hc;simp only [o8.test.sizeOf_spec] at hsz;intro st e st' a w G I N hrun h Q hQ;simp only [exec] at hrun;refine wp_seq ?_;cases hr:P6 E j4 d st.T st.H with
  |none=>simp_all
  |some r =>
   have both:∀ (b:Bool) (z:Code) (rz:St->Option (E4×St)),F5 r.T r.L c= .d (.bool b)->Sound P names nt E z rz->rz ⟨r.T,r.H⟩=some (e,st')->(if b then x' else y')=z->(Code.region id ops d).wp P (Exit.then ((Code.cond c' x' y').wp P Q) Q) a w:=by
    intro b z rz hv hz hrz hbz;refine yw hE hn h1 h2 h hr hv id _ ?_;intro a' w' G' I' N' uk hs' hev;refine wp_cond hev ?_;rw [hbz];refine hz _ e st' a' w' G' I' N' hrz uk Q ?_;intro a2 w2 G2 I2 N2 mE xA;exact hQ a2 w2 G2 I2 N2 mE (hs'.trans xA)
   grind
 ·
  rename_i i ops d' c' x' y' z' j4 d c x y k;simp only [b5] at hc;simp only [o8.seq.sizeOf_spec] at hsz;rw [xe,xe,zU];exact tO (ih (.region j4 d) _ (by omega) hc.1.1) (tO (ih (.cond c x y) _ (by omega) hc.1.2) (ih k z' (by omega) hc.2))
 ·
  grind [o8.seq.sizeOf_spec,xe,tO]
 ·
  rename_i c' x' y' c x y;simp only [b5] at hc;simp only [o8.cond.sizeOf_spec] at hsz;intro st e st' a w G I N hrun h Q hQ;simp only [exec] at hrun;split at hrun
  ·rename_i hv
   exact wp_cond_true (wZ h hc.1.1 hv) (ih x x' (by omega) hc.1.2 st e st' a w G I N hrun h Q hQ)
  ·rename_i hv
   exact wp_cond_false (wZ h hc.1.1 hv) (ih y y' (by omega) hc.2 st e st' a w G I N hrun h Q hQ)
  ·cases hrun
 ·
  rename_i id' b' id b;simp only [b5,beq_iff_eq] at hc;obtain ⟨rfl,hc⟩:=hc;simp only [o8.block.sizeOf_spec] at hsz;have ib:=ih b b' (by omega) hc;intro st e st' a w G I N hrun h Q hQ;simp only [exec] at hrun;refine wp_block ?_;split at hrun
  ·rename_i i1 S4 h1
   refine ib st (.exit i1) S4 a w G I N h1 h _ ?_
   grind [E4.Je,Exit.inBlock]
  ·rename_i hne
   refine ib st e st' a w G I N hrun h _ ?_;intro a' w' G' I' N' uk hs';have:=hQ a' w' G' I' N' uk hs';cases e with
   |normal=>exact this
   |exit i=>simp_all
   |ret=>exact this
 ·
  rename_i b' mask b;simp only [o8.loop.sizeOf_spec] at hsz;exact IQ (ih b b' (by omega) hc) mask lim
 ·
  rename_i id' id;intro st e st' a w G I N hrun h Q hQ;simp only [beq_iff_eq] at hc;subst hc;cases hrun;exact wp_exit (hQ a w G I N h (W6.refl _ _ _ _ _ _))
 ·
  intro st e st' a w G I N hrun h Q hQ;cases hrun;exact wp_ret (hQ a w G I N h (W6.refl _ _ _ _ _ _))
 ·
  intro st e st' a w G I N hrun h Q hQ;simp_all [exec]
end
def freeze (G:Gh)(n:Nat):Gh:=fun b =>
 match G b with
 | .obj id=>if n<=id then .kJ else .obj id
 |x=>x
section
variable {P:Program} {G:Gh} {I:T0} {N:Nat->Prop} {w:World} {n:Nat}
theorem HB {b o:Nat}(h:jq G b o):jq (freeze G n) b o:=by
 unfold jq at h ⊢;unfold freeze;cases hg:G b with
 |obj id=>rw [hg] at h;simp at h
 |free=>rw [hg] at h;simp at h
 |kJ=>simp
 |_=>rw [hg] at h;simpa using h
theorem pN:Ext G w (freeze G n) w where
 os:=rfl
 tape:=rfl
 output:=rfl
 size:=n5 _
 kJ b o h:=⟨HB h,rfl⟩
 still b h:=⟨by rcases h with h|⟨m,h⟩<;>simp [freeze,h],rfl⟩
 shape _ c _ _ h:=⟨c,h,rfl⟩
theorem kH (q:Place):aR q G w (freeze G n) w:=fun b m hb=>⟨by simp [freeze,hb],rfl⟩
theorem xp {b id:Nat}(h:id<n)(hb:G b= .obj id):freeze G n b= .obj id:=by simp only [freeze,hb];rw [if_neg (by omega)]
theorem MK (h:WF G w):WF (freeze G n) w:=fun b hb=>by simp [freeze,h b hb]
theorem AJ {pl:Place}{a:b6}{x:Value}(h:VR G I N w pl a x):VR (freeze G n) I N w pl a x :=
 VR.mono pN.sub (fun _ _=>rfl) (fun _ h=>h) _ _ _ (Or.inr (kH pl)) h
theorem SP {pl:Place}{a:b6}{d:Data}{x:Value}(h:a.data? =some d)(hv:VR G I N w pl a x):DR G w d x:=by
 unfold b6.data? at h;split at h
 ·cases h;simpa [VR] using hv
 ·cases h
  have:=hv.G4 (vv := .none);simpa [b6.G4,VR] using this
 ·cases h
  have:=hv.G4 (vv := .none);simpa [b6.G4,VR] using this
 ·cases h
theorem AA:∀ (cs:List b6) (xs:List Data),N9 cs=some xs->xs.length=cs.length/\∀ (i:Nat) x,xs[i]? =some x->∃ a,cs[i]? =some a/\a.data? =some x
 |[],xs,h=>by simp [N9] at h;subst h;exact ⟨rfl,by simp⟩
 |c::cs,xs,h=>by
  unfold N9 at h;split at h
  ·rename_i x hx
   split at h
   ·rename_i ys hys
    cases h;obtain ⟨g1,g2⟩:=AA cs ys hys;refine ⟨by simp [g1],fun i y hi=> ?_⟩;cases i with
    |zero=>simp at hi;subst hi;exact ⟨c,rfl,hx⟩
    |succ i=>simpa using g2 i y (by simpa using hi)
   ·cases h
  ·cases h
theorem nX {H:o6}(hH:HR G I N w H):∀ (fuel:Nat) (as bs:List b6),bV H n fuel as=some bs->bs.length=as.length/\∀ (i:Nat) a pl x,as[i]? =some a->VR G I N w pl a x->∃ b,bs[i]? =some b/\VR (freeze G n) I N w pl b x
 |0,as,bs,h=>by simp [bV] at h
 |fuel+1,[],bs,h=>by
  simp only [bV] at h;cases h;exact ⟨rfl,by simp⟩
 |fuel+1,v::vs,bs,h=>by
  simp only [bV] at h;split at h
  ·cases h
  ·rename_i ws hws
   obtain ⟨l1,l2⟩:=nX hH fuel vs ws hws;have fin:∀ (u:b6),(∀ pl x,VR G I N w pl v x->VR (freeze G n) I N w pl u x)->bs=u::ws->bs.length=(v::vs).length/\∀ (i:Nat) a pl x,(v::vs)[i]? =some a->VR G I N w pl a x->∃ b,bs[i]? =some b/\VR (freeze G n) I N w pl b x:=by
    rintro u hu rfl;refine ⟨by simp [l1],fun i a pl x hi hv=> ?_⟩;cases i with
    |zero=>simp at hi;subst hi;exact ⟨u,rfl,hu pl x hv⟩
    |succ i=>simpa using l2 i a pl x (by simpa using hi) hv
   have ao5:∀ (l l' :List b6),bV H n fuel l=some l' ->∀ xs,I7 G I N w l xs->I7 (freeze G n) I N w l' xs:=by
    intro l l' hl xs hx;obtain ⟨m1,m2⟩:=nX hH fuel l l' hl;have hlen:=I7.length _ _ hx;refine Q3 _ _ (by omega) fun j b u hj hu=> ?_
    have hjl:j<l.length:=by have:=p6 hj;omega
    obtain ⟨b',e1,e2⟩:=m2 j l[j] .none u (s9 hjl) (by
     obtain ⟨u',e3,e4⟩:=I7.get _ _ hx j l[j] (s9 hjl);rw [hu] at e3;cases e3;exact e4)
    rw [hj] at e1;cases e1;exact e2
   split at h
   ·rename_i id sz lo len
    split at h
    ·cases h
     exact fin _ (fun pl x hv=>AJ hv) rfl
    ·rename_i hid
     split at h
     ·rename_i us xC
      split at h
      ·rename_i us' aK0
       split at h
       ·rename_i xs hxs
        cases h;refine fin _ (fun pl x hv=> ?_) rfl;simp only [VR] at hv ⊢;obtain ⟨hN,cap,rfl,hcap,c,e,f,hc,hsz⟩:=hv;simp only [DR];refine Or.inr ⟨(I id).1,(I id).2+lo,cap,rfl,hcap,?_⟩;obtain ⟨d1,d2⟩:=AA us' xs hxs;obtain ⟨m1,m2⟩:=nX hH fuel us us' aK0;refine wu _ xs fun i y hi=> ?_
        have hpos:0<len * sz:=by
         rcases Nat.eq_zero_or_pos (len * sz) with h0|h0
         ·have hul:us.length=0:=by
           unfold rd at xC;split at xC
           ·split at xC
            ·cases xC;simp [h0]
            ·cases xC
           ·cases xC
          have:=p6 hi;omega
         ·exact h0
        obtain ⟨_,zs,g1,g2,g3,g4⟩:=hH.rd xC hpos;have Ac:i<len * sz:=by have:=p6 hi;omega
        have Ih:G (I id).1= .obj id:=by
         unfold rd at xC;split at xC
         ·rename_i l0 hl0
          have:=hH id _ hl0;simp only [OR] at this;obtain ⟨_,_,_,_,_,h2,_⟩:=this;exact h2
         ·cases xC
        refine ⟨?_,?_⟩
        ·have:freeze G n (I id).1= .kJ:=by simp only [freeze,Ih];rw [if_pos (by omega)]
         simp [jq,this]
        ·have hz:zs[i]? =some zs[i]:=s9 (by omega)
         have hu:us[i]? =some us[i]:=s9 (by omega);refine ⟨zs[i],g3 i _ hz,?_⟩;have hvr:=g4 i _ _ hu hz;obtain ⟨b,e1,e2⟩:=m2 i us[i] _ _ hu hvr;obtain ⟨a',e3,e4⟩:=d2 i y hi;rw [e1] at e3;cases e3;exact SP e4 e2
       ·cases h
      ·cases h
     ·cases h
   ·rename_i l
    split at h
    ·rename_i l' hl
     cases h;refine fin _ (fun pl x hv=> ?_) rfl;simp only [VR] at hv ⊢;obtain ⟨cs,h1,h2⟩:=hv;exact ⟨cs,h1,ao5 l l' hl _ h2⟩
    ·cases h
   ·rename_i l
    split at h
    ·rename_i l' hl
     cases h;refine fin _ (fun pl x hv=> ?_) rfl;simp only [VR] at hv ⊢;obtain ⟨cs,h1,h2⟩:=hv;exact ⟨cs,h1,ao5 l l' hl _ h2⟩
    ·cases h
   ·cases h
    exact fin _ (fun pl x hv=>AJ hv) rfl
end
def dg (P:Program)(names:List Tmp):List ResultVar->List zT->Bool
 |[],[]=>true
 | .tmp t::r,.slot s::q=>names[s]? ==some t&&dg P names r q
 | .cell a t::r,.cell s n::q=>names[s]? ==some a&&pX P t n&&dg P names r q
 |_,_=>false
def qc (tmps:Array Value):ResultVar->Sem Value
 | .tmp t=>pure (tmps.getD t undef)
 | .cell a t=>do loadVar t (<- asAddr (tmps.getD a undef))
section
variable {P:Program} {names:List Tmp} {E:Env} {nt:Nat} {st:St} {a:Act} {w:World} {G:Gh} {I:T0} {N:Nat->Prop}
theorem TX (h:Cd P names E nt st a w G I N){rv:ResultVar}{ar:zT}(hc:dg P names [rv] [ar]=true){v:b6}(hv:kQ st.T st.H ar=some v):∃ x s,(qc a.tmps rv).run P w= .ok x w/\VR G I N w (.slot s) v x:=by
 cases rv with
 |tmp t =>
  cases ar with
  |slot s =>
   simp only [dg,b5,beq_iff_eq] at hc;simp only [kQ] at hv;have:=h.T s t hc.1;rw [au hv] at this;exact ⟨_,s,by simp [qc],this⟩
  |cell s n=>simp [dg] at hc
 |cell t ty =>
  cases ar with
  |slot s=>simp [dg] at hc
  |cell s n =>
   simp only [dg,b5,beq_iff_eq] at hc;obtain ⟨⟨h1,h2⟩,_⟩:=hc;cases n with
   |none =>
    simp only [kQ] at hv;split at hv
    ·rename_i id off hT
     split at hv
     ·rename_i u hu
      cases hv;have hp:=h.T s t h1;rw [au hT] at hp;simp only [VR] at hp;obtain ⟨_,xs,g1,_,g3,g4⟩:=h.H.rd hu (by omega);obtain ⟨z,rfl⟩:∃ z,xs=[z]:=List.length_eq_one_iff.1 g1;have hz:=g3 0 z rfl;have hvz:=g4 0 u z rfl rfl;have ha:eB P ty=some false:=by simpa [pX] using h2
      simp at hz;refine ⟨z,s,?_,hvz.G4⟩;simp [qc,asAddr,hp.2,loadVar,cS ha,hz]
     ·cases hv
    ·cases hv
   |some n =>
    simp only [kQ] at hv;split at hv
    ·rename_i id off hT
     split at hv
     ·rename_i us hu
      cases hv;have hp:=h.T s t h1;rw [au hT] at hp;simp only [VR] at hp;have ha:eB P ty=some true/\P.cellsOf ty=n/\0<n:=by simpa [pX,and_assoc] using h2
      obtain ⟨_,xs,g1,g2,g3,g4⟩:=h.H.rd hu ha.2.2;have hs:(sizeOf ty).run P w= .ok n w:=by
       rw [<- ha.2.1];refine run_sizeOf ?_;have:=ha.1;unfold eB at this;cases hu:P.underlying ty with
       |none=>simp [hu] at this
       |some d=>exact info_of_underlying hu
      have hl:=run_loadCells_list (P:=P) w (ad (I id).1 ((I id).2+off)) xs (fun j v hj=>by rw [ak];exact g3 j v hj);rw [g1] at hl;refine ⟨.agg xs.toArray,s,?_,?_⟩
      ·simp [qc,asAddr,hp.2,loadVar,cS ha.1,hs,hl]
      ·simp only [VR]
       refine ⟨_,rfl,Q3 _ _ (by simp [g1,g2]) fun j b v hj hv=> ?_⟩;simp at hj hv;obtain ⟨b',hb',rfl⟩:=hj;exact (g4 j b' v hb' hv).G4
     ·cases hv
    ·cases hv
theorem Kf (h:Cd P names E nt st a w G I N):∀ (rvs:List ResultVar) (SL:List zT) (vs:List b6),dg P names rvs SL=true->cu st.T st.H SL=some vs ->
  ∃ xs:List Value,(rvs.mapM (qc a.tmps)).run P w= .ok xs w/\xs.length=vs.length/\∀ (i:Nat) v x,vs[i]? =some v->xs[i]? =some x->∃ s,VR G I N w (.slot s) v x
 |[],SL,vs,hc,hv=>by
  cases SL with
  |cons _ _=>simp [dg] at hc
  |nil =>
   simp only [cu] at hv;cases hv;exact ⟨[],by simp,rfl,by simp⟩
 |rv::rvs,SL,vs,hc,hv=>by
  cases SL with
  |nil=>cases rv<;>simp [dg] at hc
  |cons ar SL =>
   have hc1:dg P names [rv] [ar]=true/\dg P names rvs SL=true:=by
    cases rv<;>cases ar<;>simp_all [dg]
   simp only [cu] at hv;split at hv
   ·rename_i v Xa
    split at hv
    ·rename_i vs' hvs
     cases hv;obtain ⟨x,s,h1,h2⟩:=TX h hc1.1 Xa;obtain ⟨xs,h3,h4,h5⟩:=Kf h rvs SL vs' hc1.2 hvs;refine ⟨x::xs,?_,by simp [h4],fun i u y hi hy=> ?_⟩
     ·simp [List.mapM_cons,h1,h3]
     ·cases i with
      |zero=>simp at hi hy;subst hi;subst hy;exact ⟨s,h2⟩
      |succ i=>exact h5 i u y (by simpa using hi) (by simpa using hy)
    ·cases hv
   ·cases hv
end
structure eY (w w' :World):Prop where
 heap:w'.heap=w.heap
 os:w'.os=w.os
 tape:w'.tape=w.tape
 output:w'.output=w.output
theorem eY.refl (w:World):eY w w:=⟨rfl,rfl,rfl,rfl⟩
theorem eY.trans {w w1 w2:World}(h:eY w w1)(k:eY w1 w2):eY w w2:=⟨k.heap.trans h.heap,k.os.trans h.os,k.tape.trans h.tape,k.output.trans h.output⟩
theorem eY.ext {G:Gh}{w w' :World}(h:eY w w'):Ext G w G w' where
 os:=h.os
 tape:=h.tape
 output:=h.output
 size:=by rw [h.heap];omega
 kJ b o hi:=⟨hi,gn h.heap _⟩
 still b _:=⟨rfl,by rw [h.heap]⟩
 shape b c e f hc:=⟨c,by rw [h.heap];exact hc,rfl⟩
theorem eY.keeps {G:Gh}{w w' :World}(h:eY w w')(q:Place):aR q G w G w' :=fun b n hb=>⟨hb,by rw [h.heap]⟩
def Idle (P:Program)(f:FuncId):Prop :=
 U2 P f=true/\∀ args w,CallsD P f args .returning w fun e u' w' =>(∃ v,e= .returned v)/\u' = .returning/\eY w w'
section
variable {P:Program} {names:List Tmp} {E:Env} {nt:Nat} {st:St} {a:Act} {w w' :World} {G:Gh} {I:T0} {N:Nat->Prop}
theorem Cd.same (h:Cd P names E nt st a w G I N)(hw:eY w w'):Cd P names E nt st a w' G I N where
 T s t ht:=VR.mono hw.ext.sub (fun _ _=>rfl) (fun _ h=>h) _ _ _ (Or.inr (hw.keeps _)) (h.T s t ht)
 H id o ho:=OR.mono hw.ext.sub (fun _ _=>rfl) (fun _ h=>h) id o (fun h=>⟨h,by rw [hw.heap]⟩) (fun _=>hw.keeps _) (h.H id o ho)
 wf b hb:=h.wf b (by rw [<- hw.heap];exact hb)
 U8:=h.U8
 U9:=h.U9
 cE:=h.cE
 Eo:=h.Eo
 size:=h.size
 idle:=h.idle
theorem W6.same {H0 H:o6}{w0:World}{G0:Gh}{I0:T0}{N0:Nat->Prop}(h:W6 E H0 w0 G0 I0 N0 H w G I N)(hw:eY w w'):W6 E H0 w0 G0 I0 N0 H w' G I N :=
 h.trans ⟨hw.ext,fun id _=>⟨fun b hb=>⟨hb,by rw [hw.heap]⟩,fun _=>hw.keeps _⟩,fun _ _ _=>rfl,fun _ _ h=>h,fun _ _ h=>h,fun _ o _ ho=>Or.inr ⟨o,ho,n5 _⟩⟩
theorem ur {idle:FuncId->Bool}(AK:∀ f,idle f=true->Idle P f){fn:Func}{tmps:Array Value}{R:Ending->World->Prop}:∀ (ds:List Deferred) (w:World),(∀ d,d ∈ ds->DT P idle d) ->
  (∀ w',eY w w' ->∃ v,(results fn tmps).run P w' = .ok v w' /\R (.returned v) w')->Leaves P fn tmps R ds .returning w
 |[],w,_,h=>h w (eY.refl w)
 |d::ds,w,hd,h=>by
  obtain ⟨f,cap,h1,h2⟩:=hd d (by simp);obtain ⟨hcan,hD⟩:=AK f h2;obtain ⟨tgt,dargs⟩:=d;subst h1;refine leaves_cons (f:=f) (args:=dargs++cap) (by simp) (by simp_all [invoke,rL]) ?_;refine CallsD.mono (hD _ w) ?_;rintro e u' w' ⟨⟨v,rfl⟩,rfl,hw⟩;exact ur AK ds w' (fun d hd' =>hd d (by simp [hd'])) (fun w'' hw' =>h w'' (hw.trans hw'))
theorem Fv {fn:Func}{tmps:Array Value}{xs:List Value}(h:(fn.results.toList.mapM (qc tmps)).run P w= .ok xs w) :
  (results fn tmps).run P w= .ok (if h:xs.length=1 then xs[0]'(by omega) else .tuple xs.toArray) w:=by
 have e:results fn tmps=(fn.results.mapM (qc tmps) >>= fun vs=>pure (if h:vs.size=1 then vs[0] else .tuple vs)):=by
  rfl
 grind [Array.mapM_eq_mapM_toList,map_eq_pure_bind,Sem.run_bind,Result.andThen_ok,Sem.run_pure,List.size_toArray]
theorem YD {vs:List b6}{xs:List Value}(hl:xs.length=vs.length)(h:∀ (i:Nat) v x,vs[i]? =some v->xs[i]? =some x->∃ s,VR G I N w (.slot s) v x) :
  ∃ pl G2,jv pl G w G2/\(∀ id off,pl≠ .cell id off)/\VR G2 I N w .ret (b8 vs) (if h:xs.length=1 then xs[0]'(by omega) else .tuple xs.toArray):=by
 by_cases h1:xs.length=1
 ·obtain ⟨x,rfl⟩:=List.length_eq_one_iff.1 h1
  obtain ⟨v,rfl⟩:=List.length_eq_one_iff.1 (hl.symm.trans h1);obtain ⟨s,hv⟩:=h 0 v x rfl rfl;simp [b8]
  by_cases ho:∃ z n c,v= .own z n c
  ·obtain ⟨z,n,c,rfl⟩:=ho
   obtain ⟨G2,hm,Ve⟩:=gP (vv := .ret) (by simp) hv
   grind
  ·exact ⟨.slot s,G,jv.refl _ _ _,by simp,by simpa using hv.DV (fun z n c e=>ho ⟨z,n,c,e⟩)⟩
 ·refine ⟨.ret,G,jv.refl _ _ _,by simp,?_⟩
  rw [dif_neg h1];have e:b8 vs= .tuple (vs.map b6.G4):=by
   simp_all [b8]<;>grind
  rw [e];refine ⟨_,rfl,Q3 _ _ (by simp [hl]) fun j b v hj hv=> ?_⟩;simp at hj hv;obtain ⟨b',hb',rfl⟩:=hj;obtain ⟨s,hs⟩:=h j b' v hb' hv;exact hs.G4
end
def m9 (P:Program)(fn:Func)(af:p7):Bool :=
 match fn.body with
 |some c=>iJ af.names&&decide (af.nparams<=af.names.length)&&(af.names.take af.nparams==List.range af.nparams)&&decide (af.nparams<=fn.ntmps) &&
   W4 P af.names fn.ntmps c af.body && dg P af.names fn.results.toList af.results && fn.name != "runtime.NumGoroutine"
 |none=>false
theorem HN {P:Program}{A:Prog}(AK:∀ f,A.idle f=true->Idle P f){cf:qp}{n:Nat}(JJ:lV P cf A.prom)(hcan:∀ f args H lm r,cf f args H lm=some r->U2 P f=true)
  {f:FuncId} {fn:Func} {af:p7} (hf:P.funcs[f]? =some fn) (MN:m9 P fn af=true) {args:List b6} {H:o6} {l:G9} {v:b6} {H1:o6} (hrun:gF A cf n af args H l=some (v,H1))
  {w:World} {G:Gh} {I:T0} {N:Nat->Prop} {O6:Array Value} (hpre:Hy l H w G I N args O6) (hbase:af.aA=false->l.base=H.length) :
  Calls P f O6 w fun e w' =>∃ x G' I' N',e= .returned x/\oz l H w G I N v H1 x w' G' I' N' :=by
 unfold m9 at MN;cases hbody:fn.body with
 |none=>simp_all
 |some c =>
  rw [hbody] at MN;simp only [b5,decide_eq_true_eq,beq_iff_eq] at MN;obtain ⟨⟨⟨⟨⟨⟨WS,hnp⟩,aZ9⟩,hnt⟩,ae9⟩,hres⟩,_⟩:=MN;unfold gF at hrun;split at hrun
  ·rename_i hlen
   have hvl:O6.size=args.length:=by simpa using I7.length _ _ hpre.args
   have hstart:Cd P af.names ⟨cf,A.prom,A.mode,A.idle,l,H.length⟩ fn.ntmps ⟨args++c9 (af.names.length - args.length) .any,H⟩ { tmps:=O6++Array.replicate (fn.ntmps - O6.size) undef,defers:=[] } w G I N:=by
    refine ⟨fun s t ht=> ?_,hpre.hr,hpre.wf,hpre.U8,?_,hpre.cE,n5 _,?_,by simp⟩
    ·simp only
     by_cases hs:s<args.length
     ·have hst:t=s:=by
       have h1:(af.names.take af.nparams)[s]? =some t:=by grind
       simp_all
      subst hst;obtain ⟨x,g1,g2⟩:=I7.get _ _ hpre.args t args[t] (s9 hs);have e1:(args++c9 (af.names.length - args.length) b6.any).getD t .any=args[t]:=by
       grind
      have e2:(O6++Array.replicate (fn.ntmps - O6.size) undef).getD t undef=x:=by
       simp_all<;>grind
      rw [e1,e2];exact g2.place
     grind [c9,List.getD,s7,u9,A8,VR]
    all_goals simp_all
   have hE:Jn P ⟨cf,A.prom,A.mode,A.idle,l,H.length⟩:=⟨JJ,hcan,hpre.strict,hpre.base⟩;refine calls_of_wp_defers hf hbody ?_;have fin:∀ (st:St) (vs:List b6),cu st.T st.H af.results=some vs->finish af.aA H.length vs st.H=some (v,H1)->∀ a' w' G' I' N',Cd P af.names ⟨cf,A.prom,A.mode,A.idle,l,H.length⟩ fn.ntmps st a' w' G' I' N' ->
     W6 ⟨cf,A.prom,A.mode,A.idle,l,H.length⟩ H w G I N st.H w' G' I' N' ->Leaves P fn a'.tmps (fun e w' =>∃ x G' I' N',e= .returned x/\oz l H w G I N v H1 x w' G' I' N') a'.defers .returning w' :=by
    intro st vs hvs tv a' w' G' I' N' hc hs;refine ur AK a'.defers w' hc.idle ?_;intro w'' ah8;have mE:=hc.same ah8;have xA:=hs.same ah8;obtain ⟨xs,h1,h2,h3⟩:=Kf mE fn.results.toList af.results vs hres hvs;refine ⟨_,Fv h1,(if h:xs.length=1 then xs[0]'(by omega) else .tuple xs.toArray),?_⟩;obtain ⟨pl,G2,hm,DM,hv⟩:=YD (w:=w'') (G:=G') (I:=I') (N:=N') h2 h3;have Ig:Ext G w G2 w'' :=xA.ext.trans hm.ext;have Vd:jw l G w G2 w'' :=xA.eE.trans fun id _=>⟨fun b hb=>⟨hm.obj b id hb,rfl⟩,fun off=>hm.keeps _ (fun e=>DM id off e.symm)⟩
    have hhr:HR G2 I' N' w'' st.H:=mE.H.EU hm DM;unfold finish at tv;split at tv
    ·cases tv
     refine ⟨G2,I',N',rfl,hv,hhr,hm.wf mE.wf,Ig,Vd,fun id hid hN=>xA.inj id hid hN,fun id hN=>xA.mono id (hpre.cE id hN) hN,fun id hid hN=>xA.old id hid hN,mE.cE,xA.hle,mE.U8⟩
    ·rename_i xy
     have xy:af.aA=false:=by simp_all
     have hb:=hbase xy;split at tv
     ·rename_i u hu
      split at tv
      ·rename_i mD
       cases tv;obtain ⟨_,hfz⟩:=nX (n:=H.length) hhr 1000 _ _ hu;obtain ⟨b,e1,e2⟩:=hfz 0 _ .ret _ rfl hv;simp at e1;subst e1;have OS:=VR.low H.length _ _ _ mD e2;have hlt:∀ (id:Nat) o,(st.H.take H.length)[id]? =some o->id<H.length/\st.H[id]? =some o:=by
        grind
       refine ⟨freeze G2 H.length,I',fun i=>N' i/\i<H.length,rfl,OS,fun id o ho=> ?_,MK (hm.wf mE.wf),Ig.trans pN,fun id hid=> ?_,fun id hid hN=>xA.inj id hid hN,fun id hN=>⟨xA.mono id (hpre.cE id hN) hN,hpre.cE id hN⟩,
        fun id hid hN=>xA.old id hid hN.1,fun id hN=> ?_,fun id o' hid ho=> ?_,fun id o ho=> ?_⟩
       ·obtain ⟨h4,h5⟩:=hlt id o ho
        have DL:=(mE.U8 id o h5).2 (by simp_all);simp only at DL;exact OR.mono pN.sub (fun _ _=>rfl) (fun _ h=>h) id o (fun hb=>⟨xp h4 hb,rfl⟩) (fun _=>kH _) (OR.low h4 o (by omega) (hhr id o h5))
       ·obtain ⟨p1,p2⟩:=Vd id hid
        refine ⟨fun b hb=> ?_,fun off b m hb=> ?_⟩
        ·obtain ⟨q1,q2⟩:=p1 b hb
         exact ⟨xp (hpre.jH b id hb) q1,q2⟩
        ·obtain ⟨q1,q2⟩:=p2 off b m hb
         obtain ⟨q3,_⟩:=kH (w:=w'') (n:=H.length) (.cell id off) b m q1;simp_all
       ·have:=mE.cE id hN.1;simp;omega
       ·obtain ⟨h4,h5⟩:=hlt id o' ho
        exact xA.hle id o' hid h5
       ·obtain ⟨h4,h5⟩:=hlt id o ho
        exact mE.U8 id o h5
      ·cases tv
     ·cases tv
   split at hrun
   ·cases hrun
   ·rename_i x st hne hex
    split at hrun
    ·rename_i vs hvs
     refine HY hE WS n _ af.body c (Nat.lt_succ_self _) ae9 _ x st _ w G I N hex hstart _ ?_;intro a' w' G' I' N' hc hs;have:=fin st vs hvs hrun a' w' G' I' N' hc hs;cases x with
     |normal=>exact this
     |ret=>exact this
     |exit id=>simp_all
    ·cases hrun
   ·cases hrun
  ·cases hrun
def ku (P:Program)(prom:FuncId->Bool)(f:FuncId)(p:List b6->o6->G9->Option (b6×o6)):Prop :=
 U2 P f=true/\∀ args H l v H1,p args H l=some (v,H1)->∀ w G I N O6,Hy l H w G I N args O6->(prom f=false->l.base=H.length) ->
  Calls P f O6 w fun e w' =>∃ x G' I' N',e= .returned x/\oz l H w G I N v H1 x w' G' I' N'
structure wB (P:Program)(A:Prog):Prop where
 idle:∀ f,A.idle f=true->Idle P f
 gS:∀ f p,A.gS f=some p->ku P A.prom f p
 fn:∀ f af,A.gS f=none->A.fn f=some af->∃ fn,P.funcs[f]? =some fn/\m9 P fn af=true
theorem HP {P:Program}{f:FuncId}{fn:Func}{af:p7}(hf:P.funcs[f]? =some fn)(h:m9 P fn af=true):U2 P f=true:=by
 grind [m9,U2]
theorem wO {P:Program}{A:Prog}(h:wB P A):∀ n,lV P (call A n) A.prom/\∀ f args H lm r,call A n f args H lm=some r->U2 P f=true
 |0=>⟨fun f args H l v H1 hc=>by simp [call] at hc,fun f args H lm r hc=>by simp [call] at hc⟩
 |n+1=>by
  obtain ⟨ih1,ih2⟩:=wO h n;refine ⟨fun f args H l v H1 hc w G I N O6 hpre hb=> ?_,fun f args H lm r hc=> ?_⟩
  ·simp [call] at hc
   split at hc
   ·rename_i p hp
    exact (h.gS f p hp).2 args H l v H1 hc w G I N O6 hpre hb
   ·rename_i hp
    split at hc
    ·rename_i af haf
     obtain ⟨fn,h1,h2⟩:=h.fn f af hp haf;exact HN h.idle ih1 ih2 h1 h2 hc hpre (fun fR=>hb (by simp_all [Prog.prom]))
    ·cases hc
  ·simp [call] at hc
   split at hc
   ·rename_i p hp
    exact (h.gS f p hp).1
   ·rename_i hp
    split at hc
    ·rename_i af haf
     obtain ⟨fn,h1,h2⟩:=h.fn f af hp haf;exact HP h1 h2
    ·cases hc
def gB (o:Oper):Bool:=match o.op with
 | .call ⟨.builtin .recover,args,_⟩=>args.isEmpty&&o.guard.isNone
 |_=>false
def CI (P:Program)(d:Option Tmp)(o:Oper):Bool:=match o.op with
 | .binOp .neq t (.tmp x) (.const .nilIface) _=>d==some x&&o.guard.isNone&&(match P.underlying t with
  |some (.interface _)=>true
  |_=>false)
 |_=>false
def bt (P:Program)(fn:Func):Bool :=
 fn.name != "runtime.NumGoroutine" && fn.results.isEmpty && (match fn.body with
 |some (.region _ ops false)=>(match ops.toList with
  |[o]=>gB o
  |_=>false)
 |some (.seq (.region _ ops false) (.cond (.tmp c) _ .skip))=>(match ops.toList with
  |[o1,o2]=>gB o1&&CI P o1.dst o2&&o2.dst==some c&&(match o1.dst with
   |some d=>decide (d<fn.ntmps)&&decide (c<fn.ntmps)
   |none=>false)
  |_=>false)
 |_=>false)
theorem ux {P:Program}{o:Oper}(h:gB o=true)(a:Act)(w:World):(execOp a.eval o).run P w= .ok .recover w:=by
 unfold gB at h;split at h
 ·rename_i args argTypes hop
  obtain ⟨dst,ct,ty,pos,after,guard⟩:=o;simp only at hop;subst hop;simp [execOp,resolve,invoke,builtin]
 ·cases h
theorem mU {o:Oper}(h:gB o=true)(y:Nat->Option Bool):Region.wanted o y=true:=by
 unfold gB at h;split at h
 ·simp only [b5] at h
  have:o.guard=none:=by simpa using h.2
  simp [Region.wanted,this]
 ·cases h
theorem Rk {P:Program}{o:Oper}{d:Option Tmp}(h:CI P d o=true)(a:Act)(w:World)(ha:∀ x,d=some x->a.tmps.getD x undef= .nilIface):(execOp a.eval o).run P w= .ok (.value (.bool false)) w:=by
 unfold CI at h;split at h
 ·rename_i t x yt hop
  simp only [b5,beq_iff_eq] at h;obtain ⟨⟨h1,h2⟩,h3⟩:=h;obtain ⟨dst,ct,ty,pos,after,guard⟩:=o;simp only at hop;subst hop;have hx:a.eval (.tmp x)= .nilIface:=by simp only [Act.eval];exact ha x h1
  split at h3
  ·rename_i ms hu
   have h1:(execOp a.eval (⟨dst,.binOp .neq t (.tmp x) (.const .nilIface) yt,ty,pos,after,guard⟩:Oper)).run P w= .ok (.value (.bool false)) w:=by
    simp only [execOp,hx];have hc:a.eval (.const .nilIface)= .nilIface:=rfl;rw [hc];simp only [eqGuard,binOp];simp [oF hu]
   exact h1
  ·cases h3
 ·cases h
theorem W1 {P:Program}{f:FuncId}{fn:Func}(hf:P.funcs[f]? =some fn)(h:bt P fn=true):Idle P f:=by
 unfold bt at h;simp only [b5] at h;obtain ⟨⟨hname,hres⟩,h⟩:=h;have ah4 :fn.results= #[]:=by simpa using hres
 have hrun:∀ tmps w,(results fn tmps).run P w= .ok (.tuple #[]) w:=by
  intro tmps w;simp [results,ah4]
 have Vb:∀ (c₀:Frame) (cs:List Frame),c₀.mode= .returning->recoverD (c₀::cs)=none:=by
  intro c₀ cs hm;simp [recoverD,hm]
 split at h
 ·rename_i id ops hb
  refine ⟨by simp only [U2,hf,hb];simpa using hname,fun args w=> ?_⟩;refine callsD_of_wpS hf hb ?_;intro c₀ cs hm;split at h
  ·rename_i o ho
   have OW:ops= #[o]:=by apply Array.toList_inj.1;simpa using ho
   subst OW;refine wpS_region ?_;have Ey:(#[o]:Array Oper)[0]? =some o:=rfl;show wpOpsS P #[o] _ [0] _ _ _
   simp only [wpOpsS,Ey,mU h,if_true,ux h,Vb c₀ cs hm];refine ⟨by rw [kB],.returning,?_,.tuple #[],hrun _ _,⟨_,rfl⟩,rfl,eY.refl _⟩;cases c₀;simp only at hm;subst hm;rfl
  ·cases h
 ·rename_i id ops c thn hb
  refine ⟨by simp only [U2,hf,hb];simpa using hname,fun args w=> ?_⟩;refine callsD_of_wpS hf hb ?_;intro c₀ cs hm;split at h
  ·rename_i o1 o2 ho
   have OW:ops= #[o1,o2]:=by apply Array.toList_inj.1;simpa using ho
   subst OW;simp only [b5,beq_iff_eq] at h;obtain ⟨⟨⟨h1,h2⟩,h3⟩,h4⟩:=h;cases hd:o1.dst with
   |none=>rw [hd] at h4;cases h4
   |some d =>
    rw [hd] at h4;simp only [b5,decide_eq_true_eq] at h4;refine wpS_seq (wpS_region ?_);have hg0:(#[o1,o2]:Array Oper)[0]? =some o1:=rfl;have hg1:(#[o1,o2]:Array Oper)[1]? =some o2:=rfl;show wpOpsS P #[o1,o2] _ [0,1] _ _ _
    simp only [wpOpsS,hg0,hg1,mU h1,if_true,ux h1,Vb c₀ cs hm];have MR:∀ y,Region.wanted o2 y=true:=by
     intro y;unfold CI at h2;split at h2
     ·simp only [b5] at h2
      have:o2.guard=none:=by simpa using h2.1.2
      simp [Region.wanted,this]
     ·cases h2
    have hlt:d<(args++Array.replicate (fn.ntmps - args.size) undef).size:=Nat.lt_of_lt_of_le h4.1 (by simp;omega);have hlt2:c<(args++Array.replicate (fn.ntmps - args.size) undef).size:=Nat.lt_of_lt_of_le h4.2 (by simp;omega);have Zs:=fun a hh=>Rk (P:=P) h2 a w hh
    simp only [MR,if_true];rw [Zs _ (by
     intro x hx;rw [hd] at hx;cases hx;rw [hd];exact aJ hlt)]
    simp only [Oper.upon,Exit.thenS];refine wpS_cond (t:=false) ?_ ?_
    ·rw [h3]
     simp only [Act.eval];exact aJ (by rw [FF];exact hlt2)
    ·refine wpS_of_wp (wp_skip ?_)
     refine ⟨by rw [kB,kB],.returning,?_,.tuple #[],hrun _ _,⟨_,rfl⟩,rfl,eY.refl _⟩;cases c₀;simp only at hm;subst hm;rfl
  ·cases h
 ·cases h
def cB:G9:=⟨0,0,0,0⟩
structure Kept (w w' :World):Prop where
 os:w'.os=w.os
 output:w'.output=w.output
 size:w.heap.size<=w'.heap.size
 old:∀ b:Nat,b<w.heap.size->w'.heap[b]? =w.heap[b]?
theorem Kept.but {w w' :World}(h:Kept w w')(may:MemPlace->Prop):w.keptBut w' may:=by
 refine ⟨h.os,h.output,fun i hi=> ?_⟩;rw [h.old i hi];split
 ·rename_i fK dX
  rw [fK] at dX;cases dX;exact ⟨rfl,rfl,rfl,fun _ _=>rfl⟩
 ·rename_i fK dX
  rw [fK] at dX;cases dX;exact Or.inr ⟨rfl,rfl⟩
 ·rfl
theorem Kept.frozen {w w' :World}(h:Kept w w'){a:Addr}(ha:a.block<w.heap.size):w'.frozen? a=w.frozen? a:=by
 simp only [World.frozen?,h.old a.block ha]
def G0 (w:World):Gh:=fun b=>if b<w.heap.size then .kJ else .free
theorem MX {P:Program}{A:Prog}(h:wB P A){n:Nat}{f:FuncId}{args:List b6}{O6:Array Value}{w:World}(hc:call A n f args [] cB=some (.d (.bool true),[]))
  (hargs:I7 (G0 w) (fun _=>(0,0)) (fun _=>False) w args O6.toList):Calls P f O6 w fun e w' =>e= .returned (.bool true)/\Kept w w' :=by
 have hpre:Hy cB [] w (G0 w) (fun _=>(0,0)) (fun _=>False) args O6:=by
  refine ⟨hargs,?_,?_,?_,?_,n5 _,n5 _,?_⟩
  ·intro id o ho;simp at ho
  ·intro b hb;simp only [G0];rw [if_neg (by omega)]
  ·intro id hid;exact hid.elim
  ·intro id o ho;simp at ho
  ·intro b id hb
   simp only [G0] at hb;split at hb<;>cases hb
 refine Calls.mono ((wO h n).1 f args [] cB _ _ hc w _ _ _ O6 hpre (fun _=>rfl)) ?_;rintro e w' ⟨x,G',I',N',rfl,hp⟩;have hx:=hp.val;simp only [VR,DR] at hx;subst hx;refine ⟨rfl,hp.ext.os,hp.ext.output,hp.ext.size,fun b hb=> ?_⟩;refine (hp.ext.still b (Or.inl ?_)).2;simp only [G0];rw [if_pos hb]
theorem Jx {A:Prog}{n:Nat}{f:FuncId}{af:p7}{args:List b6}{H:o6}{l:G9}(hp:A.gS f=none)(hf:A.fn f=some af):call A (n+1) f args H l=gF A (call A n) n af args H l:=by
 simp only [call,hp,hf]
def kF (af:p7)(n:Nat)(o:Option (E4×St)):Option (b6×o6):=match o with
 |some (.exit _,_)=>none
 |some (_,st)=>(match cu st.T st.H af.results with
  |some vs=>finish af.aA n vs st.H
  |none=>none)
 |none=>none
theorem qz {A:Prog}{cf:qp}{n:Nat}{af:p7}{args:List b6}{H:o6}{l:G9}(h:args.length=af.nparams) :
  gF A cf n af args H l=kF af H.length (exec ⟨cf,A.prom,A.mode,A.idle,l,H.length⟩ n af.body ⟨args++c9 (af.names.length - args.length) .any,H⟩):=by
 unfold gF kF;rw [if_pos h];rfl
section
variable {H:Type} {enc:TypeId×Value->H} {P:Program}
open Go.ChangeShapes Go.WideShapes
theorem Nc {f:Func}{s:ChangeSpec}{apart fresh handsOn again:Bool}{W W' :World}{args:Array Value}{v:Value}{ds gs:List (DataW H)}{before pa pv:List MemPlace}
  (hW:DataW.Whole enc P f.params.toList s.vars apart W args.toList ds gs before) (hK:Kept W W')
  (hres:∀ (b:Nat) (sp:Nat->Bool) (hd:Bool),DataW.TrodAll enc P W' b sp hd f.resultTypes.toList (v.resultList f.resultTypes.size) (s.fn H (ds++gs)).results [])
  (hargs:∀ sp:Nat->Bool,(∀ p ∈ before,sp p.block=true)->DataW.TrodAll enc P W' 0 sp true f.params.toList args.toList (s.fn H (ds++gs)).args pa)
  (hvars:∀ sp:Nat->Bool,(∀ p ∈ before,sp p.block=true)->DataW.TrodVars enc P W' sp s.vars (s.fn H (ds++gs)).vars pv)
  (hps:before=pa++pv)
  (hok:∀ (j:Nat) (t:TypeId) (r:Value),f.resultTypes[j]? =some t->(v.resultList f.resultTypes.size)[j]? =some r->Value.okWide P W' .any 0 t r) :
  s.post enc P f apart fresh handsOn again W args v W' :=by
 have hlt:=hW.lt;have hin:∀ p,p ∈ pa++pv->p ∈ before:=fun p hp=>by rw [hps];exact hp
 refine ⟨ds,gs,before,[],pa,pv,hW,hres _ _ _,hargs _ (fun p hp=>by simpa using hlt p hp),hvars _ (fun p hp=>by simpa using hlt p hp),World.keptBut_mono (fun p hp=>⟨hp,?_⟩) (hK.but _),fun _=> ?_⟩
 ·rw [hps,List.mem_append] at hp
  exact Or.inr hp
 ·obtain ⟨_,_,_,_,_,hz,hn⟩:=hW
  refine ⟨hok,_,_,([]++pa)++pv,⟨[]++pa,pv,trodAll_append (hargs _ (fun _ _=>rfl)) (hres _ _ _),hvars _ (fun _ _=>rfl),rfl,fun b off hp=> ?_,fun ha=> ?_⟩,fun p hp _=> ?_⟩
  ·have hb:=hin _ (by simpa using hp)
   rw [hK.frozen (hlt _ hb)];exact hz b off hb
  ·have:=hn ha
   rw [hps] at this;simpa using this
  ·exact hin p (by simpa using hp)
end
end Go.y3


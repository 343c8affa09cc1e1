import Derived.Test.YtibjocmpkoepoaaGreatB2
import Derived.Defers
import Derived.Recover
import Derived.ChangeSame
import Derived.ProofKit
import Derived.OpenShut
import Derived.SizedLaws
set_option linter.all false
open Bool renaming and_eq_true → c9, false_eq_true → j5, not_eq_true' → o8
open List renaming all_eq_true → L1, append_assoc → A9, getElem?_append_left → q7, getElem?_append_right → p7, getElem?_eq_getElem → l5, getElem?_eq_none → H6, map_cons → E0, mem_append_left → M1, mem_cons → y7, mem_map → L6, replicate → j4
open Nat renaming le_of_ble_eq_true → k9, le_refl → o5, le_trans → B5, lt_or_ge → s5, mul_le_mul_right → M3
open Option renaming map_some → E2
namespace Go.Abs
variable [D5]
def F6.AV:F6->Exit
 | .normal=> .normal
 | .exit id=> .exit id
 | .ret=> .ret
def yV (P:Program)(names:List Tmp)(ops:Array Oper)(n:Nat)(c' :Operand)(c:u9):Bool:=Cx.ck ⟨P,names,ops⟩ (fun j=>decide (j<n)) c' c
def Y2 (P:Program)(names:List Tmp)(nt:Nat):Code->s4->Bool
 |c,.seq (.fz _) k=>Y2 P names nt c k
 | .skip,.skip=>true
 | .region _ ops d',.region l6 d=>d==d' &&dG P names nt ops l6 d
 | .seq (.region _ ops d') (.seq (.cond c' x' y') z'),.seq (.test l6 d c x y) k =>
  d==d' &&dG P names nt ops l6 d&&yV P names ops l6.length c' c&&Y2 P names nt x' x&&Y2 P names nt y' y&&Y2 P names nt z' k
 | .seq (.region _ ops d') (.cond c' x' y'),.test l6 d c x y =>
  d==d' &&dG P names nt ops l6 d&&yV P names ops l6.length c' c&&Y2 P names nt x' x&&Y2 P names nt y' y
 | .seq (.region i ops d') (.seq (.cond c' x' y') z'),.seq (.seq (.region l6 d) (.cond c x y)) k =>
  Y2 P names nt (.region i ops d') (.region l6 d)&&Y2 P names nt (.cond c' x' y') (.cond c x y)&&Y2 P names nt z' k
 | .seq x' y',.seq x y=>Y2 P names nt x' x&&Y2 P names nt y' y
 | .cond c' x' y',.cond c x y=>yV P names #[] 0 c' c&&Y2 P names nt x' x&&Y2 P names nt y' y
 | .block id' b',.block id b=>id' ==id&&Y2 P names nt b' b
 | .loop b',.loop _ b=>Y2 P names nt b' b
 | .exit id',.exit id=>id' ==id
 | .ret,.ret=>true
 |_,.bad=>true
 |_,_=>false
theorem pE:∀ (m:List Bool) (T:List j3) (s:Nat),(V8 m T).getD s .any=T.getD s .any\/(V8 m T).getD s .any= .any
 |[],[],s=>by simp [V8]
 |[],v::vs,0=>by simp [V8]
 |[],v::vs,s+1=>by simpa [V8] using pE [] vs s
 |b::m,[],s=>by simp_all [V8]
 |true::m,v::vs,0=>by simp [V8]
 |false::m,v::vs,0=>by simp [V8]
 |true::m,v::vs,s+1=>by simpa [V8] using pE m vs s
 |false::m,v::vs,s+1=>by simpa [V8] using pE m vs s
theorem kJ:∀ (m:List Bool) (T:List j3),(V8 m T).length=T.length
 |[],[]=>by simp [V8]
 |[],v::vs=>by simpa [V8] using kJ [] vs
 |b::m,[]=>by simp_all [V8]
 |true::m,v::vs=>by simpa [V8] using kJ m vs
 |false::m,v::vs=>by simpa [V8] using kJ m vs
def least {p:Nat->Prop}(h:∃ m,p m):∃ m,p m/\∀ k,p k->m<=k:=by
 obtain ⟨m,hm⟩:=h
 induction m using Nat.strongRecOn with
 |_ m ih =>
  grind
def aj0 {α β:Type}(J:Nat->α->β->Prop):∃ μ:α->β->Nat,∀ a b,(∃ m,J m a b)->J (μ a b) a b/\∀ k,J k a b->μ a b<=k:=by
 have:∀ a b,∃ m,(∃ m,J m a b)->J m a b/\∀ k,J k a b->m<=k:=by
  intro a b
  by_cases h:∃ m,J m a b
  all_goals simp_all [least,absurd]
 exact ⟨fun a b=>Classical.choose (this a b),fun a b=>Classical.choose_spec (this a b)⟩
section
variable {P:Program} {names:List Tmp} {E:Env} {nt:Nat}
def GG {st:St}{a:Act}{w:World}{G:Gh}{I:Q9}{N:Nat->Prop}(h:Cd P names E nt st a w G I N)(mask:List Bool){n:Nat}(hn:E.entry<=n) :
  ∃ N',Cd P names E nt (clean mask E.lim.strict n st) a w G I N' /\aA E st.H w G I N (clean mask E.lim.strict n st).H w G I N' :=by
 have hT:∀ (s:Nat) t,names[s]? =some t->VR G I N w (.slot s) ((V8 mask st.T).getD s .any) (a.tmps.getD t undef):=by
  intro s t ht
  rcases pE mask st.T s with e|e
  .rw [e];exact h.T s t ht
  simp_all [VR]
 unfold clean;split
 .rename_i hc
  refine ⟨fun i=>N i/\i<n,⟨fun s t ht=>VR.low n _ _ _ ?_ (hT s t ht),fun id o ho=> ?_,h.wf,fun id o ho=> ?_,?_,fun id hid=> ?_,?_,h.size,h.idle⟩,?_⟩
  .cases hg:(V8 mask st.T)[s]? with
   |none=>simp [hg,j3.L7]
   |some v =>
    have:=sx _ _ _ hg
    grind
  .have hlt:id<n:=by grind
   rw [List.getElem?_take_of_lt hlt] at ho;exact OR.low hlt o (vk h.U7 hc.2 hlt ho) (h.H id o ho)
  .have hlt:id<n:=by grind
   rw [List.getElem?_take_of_lt hlt] at ho;exact h.U7 id o ho
  .simp [kJ];exact h.V4
  .have:=h.bt id hid.1
   simp;omega
  .have:=h.KB
   simp;omega
  .refine ⟨Ext.refl _ _,ki.refl _ _ _,fun _ _ _=>rfl,fun id hid hN=>⟨hN,by omega⟩,fun id _ hN=>hN.1,fun id o' _ ho=> ?_⟩
   grind
 .exact ⟨N,⟨hT,h.H,h.wf,h.U7,by simp [kJ];exact h.V4,h.bt,h.KB,h.size,h.idle⟩,aA.refl _ _ _ _ _ _⟩
def Sound (P:Program)(names:List Tmp)(nt:Nat)(E:Env)(C:Code)(run:St->Option (F6×St)):Prop :=
 ∀ st x st' a w G I N,run st=some (x,st')->Cd P names E nt st a w G I N->∀ Q:Exit->Act->World->Prop,
  (∀ a' w' G' I' N',Cd P names E nt st' a' w' G' I' N' ->Cq E st.H w G I N st'.H w' G' I' N' ->Q x.AV a' w')->C.wp P Q a w
def AU {X:Cx}{l6:List p9}{S:Nat->Prop}{r:F4}{a:Act}{w:World}{G:Gh}{I:Q9}{N:Nat->Prop}{D:Nat->Bool}(h:Rg X l6 E nt S r a w G I N)(hD:∀ j,D j=true->S j){c' :Operand}{c:u9}(hc:X.ck D c' c=true){b:Bool}
  (hv:G9 r.T r.L c= .d (.bool b)):a.eval c' = .bool b:=by
 have:=h.ri.Q0 hD c' c hc;simp_all [VR,DR]
def yY {st:St}{a:Act}{w:World}{G:Gh}{I:Q9}{N:Nat->Prop}(h:Cd P names E nt st a w G I N){c' :Operand}{c:u9}(hc:yV P names #[] 0 c' c=true){b:Bool}(hv:G9 st.T [] c= .d (.bool b)):a.eval c' = .bool b:=by
 have hR:Rg ⟨P,names,#[]⟩ [] E nt (fun _=>False) ⟨st.T,st.H,[],[]⟩ a w G I N:=h.start _ rfl (fun _ h=>h) [] (by simp) (by simp) rfl [];exact AU hR (D:=fun j=>decide (j<0)) (fun j hj=>by simp at hj) hc hv
def andThen (rx ry:St->Option (F6×St)):St->Option (F6×St):=fun st=>match rx st with
 |some (.normal,st')=>ry st'
 |r=>r
def AE {x y:Code}{rx ry:St->Option (F6×St)}(hx:Sound P names nt E x rx)(hy:Sound P names nt E y ry)
  {st:St} {e:F6} {st' :St} {a:Act} {w:World} {G:Gh} {I:Q9} {N:Nat->Prop} (hrun:andThen rx ry st=some (e,st')) (h:Cd P names E nt st a w G I N) (Q:Exit->Act->World->Prop)
  (hQ:∀ a' w' G' I' N',Cd P names E nt st' a' w' G' I' N' ->Cq E st.H w G I N st'.H w' G' I' N' ->Q e.AV a' w'):x.wp P (Exit.then (y.wp P Q) Q) a w:=by
 unfold andThen at hrun;split at hrun
 .rename_i st1 h1
  refine hx st .normal st1 a w G I N h1 h _ ?_;intro a1 w1 G1 I1 N1 hc hs;simp only [F6.AV,Exit.then];refine hy st1 e st' a1 w1 G1 I1 N1 hrun hc Q ?_;intro a2 w2 G2 I2 N2 mJ hs2;exact hQ a2 w2 G2 I2 N2 mJ (hs.trans hs2)
 .rename_i hne
  refine hx st e st' a w G I N hrun h _ ?_;intro a1 w1 G1 I1 N1 hc hs;have:=hQ a1 w1 G1 I1 N1 hc hs;cases e with
  |normal=>exact absurd hrun (hne st')
  |exit id=>exact this
  |ret=>exact this
def vp {x y:Code}{rx ry:St->Option (F6×St)}(hx:Sound P names nt E x rx)(hy:Sound P names nt E y ry) :
  Sound P names nt E (.seq x y) (andThen rx ry) :=
 fun _ _ _ _ _ _ _ _ hrun h Q hQ=>wp_seq (AE hx hy hrun h Q hQ)
def BN (rx ry rz:St->Option (F6×St)):andThen (andThen rx ry) rz=andThen rx (andThen ry rz):=by
 grind [andThen]
def AD (hE:MM P E)(hn:jw names=true){ops:Array Oper}{l6:List p9}{d:Bool}{c:u9}{c' :Operand}(aT5:dG P names nt ops l6 d=true)(hck:yV P names ops l6.length c' c=true)
  {st:St} {a:Act} {w:World} {G:Gh} {I:Q9} {N:Nat->Prop} (h:Cd P names E nt st a w G I N) {r:F4} (hr:Q5 E l6 d st.T st.H=some r) {b:Bool} (hv:G9 r.T r.L c= .d (.bool b)) (id:Nat) (Q:Exit->Act->World->Prop)
  (hQ:∀ a' w' G' I' N',Cd P names E nt ⟨r.T,r.H⟩ a' w' G' I' N' ->Cq E st.H w G I N r.H w' G' I' N' ->a'.eval c' = .bool b->Q .normal a' w'):(Code.region id ops d).wp P Q a w:=by
 refine tv hE hn aT5 h hr id Q ?_;intro a' w' G' I' N' hR hs;exact hQ a' w' G' I' N' (Cd.done rfl hR) hs.trn (AU hR (D:=fun j=>decide (j<l6.length)) (fun j hj=>by simpa using hj) hck hv)
def Mo {c:Code}{body:St->Option (F6×St)}(hb:Sound P names nt E c body)(mask:List Bool)(fuel:Nat) :
  Sound P names nt E (.loop c) (fun st=>gp body mask E.lim.strict st.H.length fuel st):=by
 intro st e st' a w G I N hrun h Q hQ;simp only at hrun;generalize hn:st.H.length=n at hrun;have hen:E.entry<=n:=by rw [<- hn];exact h.KB
 let J:Nat->Act->World->Prop:=fun m a' w' =>∃ st1 G1 I1 N1,gp body mask E.lim.strict n m st1=some (e,st')/\Cd P names E nt st1 a' w' G1 I1 N1/\Cq E st.H w G I N st1.H w' G1 I1 N1
 obtain ⟨μ,aA3⟩:=aj0 J;refine wp_loop (I:=fun a' w' =>∃ m,J m a' w') (μ:=μ) ⟨fuel,st,G,I,N,hrun,h,Cq.refl _ _ _ _ _ _⟩ ?_;intro a1 w1 hJ;obtain ⟨hm,hmin⟩:=aA3 a1 w1 hJ;generalize hμ:μ a1 w1=m at hm;obtain ⟨st1,G1,I1,N1,CN,hc1,hs1⟩:=hm;cases m with
 |zero=>simp [gp] at CN
 |succ m =>
  simp only [gp] at CN;obtain ⟨N2,mJ,hs2⟩:=GG hc1 mask hen;split at CN
  .rename_i st2 XF
   refine hb _ .normal st2 a1 w1 G1 I1 N2 XF mJ _ ?_;intro a3 w3 G3 I3 N3 Zv hs3;simp only [F6.AV,Exit.then];have hJ3:J m a3 w3:=⟨st2,G3,I3,N3,CN,Zv,(hs1.trans hs2.trn).trans hs3⟩;refine ⟨⟨m,hJ3⟩,?_⟩;exact Nat.lt_succ_of_le ((aA3 a3 w3 ⟨m,hJ3⟩).2 m hJ3)
  .rename_i hne
   refine hb _ e st' a1 w1 G1 I1 N2 CN mJ _ ?_;intro a3 w3 G3 I3 N3 Zv hs3;have:=hQ a3 w3 G3 I3 N3 Zv ((hs1.trans hs2.trn).trans hs3);cases e with
   |normal=>exact absurd CN (hne st')
   |exit id=>exact this
   |ret=>exact this
def zl {lim:Nat}(x y:s4):exec E lim (.seq x y)=andThen (exec E lim x) (exec E lim y):=by
 rfl
def Li (hE:MM P E)(hn:jw names=true)(lim:Nat):∀ (n:Nat) (c:s4) (C:Code),SizeOf.sizeOf c<n->Y2 P names nt C c=true->Sound P names nt E C (exec E lim c):=by
 intro n
 induction n with
 |zero=>intro c C h;omega
 |succ n ih =>
 intro c C hsz hc;unfold Y2 at hc;split at hc
 all_goals (try (cases hc;done))
 ·
  rename_i s k;simp only [s4.seq.sizeOf_spec] at hsz;have ik:=ih k C (by omega) hc;intro st e st' a w G I N hrun h Q hQ;simp only [exec] at hrun;cases hf:nJ E.lim E.entry s st with
  |none=>rw [hf] at hrun;cases hrun
  |some st1 =>
   rw [hf] at hrun;obtain ⟨G1,I1,N1,h1,s1⟩:=af3 h hf;exact ik st1 e st' a w G1 I1 N1 hrun h1 Q (fun a' w' G' I' N' qD hs' =>hQ a' w' G' I' N' qD (s1.trans hs'))
 ·
  intro st e st' a w G I N hrun h Q hQ;simp only [exec] at hrun;cases hrun;exact wp_skip (hQ a w G I N h (Cq.refl _ _ _ _ _ _))
 ·
  rename_i id ops d' l6 d;simp only [c9,beq_iff_eq] at hc;obtain ⟨rfl,hc⟩:=hc;intro st e st' a w G I N hrun h Q hQ;simp only [exec] at hrun;split at hrun
  .rename_i r hr
   cases hrun;refine tv hE hn hc h hr id Q ?_;intro a' w' G' I' N' hR hs;exact hQ a' w' G' I' N' (Cd.done rfl hR) hs.trn
  .cases hrun
 ·
  rename_i id ops d' c' x' y' z' l6 d c x y k;simp only [c9,beq_iff_eq] at hc;obtain ⟨⟨⟨⟨⟨rfl,h1⟩,h2⟩,h3⟩,h4⟩,h5⟩:=hc;simp only [s4.seq.sizeOf_spec,s4.test.sizeOf_spec] at hsz;have ix:=ih x x' (by omega) h3;have iy:=ih y y' (by omega) h4;have iz:=ih k z' (by omega) h5;intro st e st' a w G I N hrun h Q hQ;simp only [exec] at hrun;refine wp_seq ?_;cases hr:Q5 E l6 d st.T st.H with
  |none=>rw [hr] at hrun;cases hrun
  |some r =>
   rw [hr] at hrun;simp only at hrun;have both:∀ (b:Bool) (z:Code) (rz:St->Option (F6×St)),G9 r.T r.L c= .d (.bool b)->Sound P names nt E z rz->andThen rz (exec E lim k) ⟨r.T,r.H⟩=some (e,st')->(if b then x' else y')=z->(Code.region id ops d).wp P (Exit.then ((Code.seq (.cond c' x' y') z').wp P Q) Q) a w:=by
    intro b z rz hv hz TA hbz;refine AD hE hn h1 h2 h hr hv id _ ?_;intro a' w' G' I' N' qD hs' hev;simp only [Exit.then];refine wp_seq (wp_cond hev ?_);rw [hbz];refine AE hz iz TA qD Q ?_;intro a2 w2 G2 I2 N2 mJ hs2;exact hQ a2 w2 G2 I2 N2 mJ (hs'.trans hs2)
   cases hv:G9 r.T r.L c with
   |d v =>
    cases v with
    |bool b =>
     rw [hv] at hrun;cases b with
     |true=>exact both true x' _ hv ix hrun rfl
     |false=>exact both false y' _ hv iy hrun rfl
    |_=>rw [hv] at hrun;cases hrun
   |_=>rw [hv] at hrun;cases hrun
 ·
  rename_i id ops d' c' x' y' l6 d c x y;simp only [c9,beq_iff_eq] at hc;obtain ⟨⟨⟨⟨rfl,h1⟩,h2⟩,h3⟩,h4⟩:=hc;simp only [s4.test.sizeOf_spec] at hsz;have ix:=ih x x' (by omega) h3;have iy:=ih y y' (by omega) h4;intro st e st' a w G I N hrun h Q hQ;simp only [exec] at hrun;refine wp_seq ?_;cases hr:Q5 E l6 d st.T st.H with
  |none=>rw [hr] at hrun;cases hrun
  |some r =>
   rw [hr] at hrun;simp only at hrun;have both:∀ (b:Bool) (z:Code) (rz:St->Option (F6×St)),G9 r.T r.L c= .d (.bool b)->Sound P names nt E z rz->rz ⟨r.T,r.H⟩=some (e,st')->(if b then x' else y')=z->(Code.region id ops d).wp P (Exit.then ((Code.cond c' x' y').wp P Q) Q) a w:=by
    intro b z rz hv hz TA hbz;refine AD hE hn h1 h2 h hr hv id _ ?_;intro a' w' G' I' N' qD hs' hev;simp only [Exit.then];refine wp_cond hev ?_;rw [hbz];refine hz _ e st' a' w' G' I' N' TA qD Q ?_;intro a2 w2 G2 I2 N2 mJ hs2;exact hQ a2 w2 G2 I2 N2 mJ (hs'.trans hs2)
   cases hv:G9 r.T r.L c with
   |d v =>
    cases v with
    |bool b =>
     rw [hv] at hrun;cases b with
     |true=>exact both true x' _ hv ix hrun rfl
     |false=>exact both false y' _ hv iy hrun rfl
    |_=>rw [hv] at hrun;cases hrun
   |_=>rw [hv] at hrun;cases hrun
 ·
  rename_i i ops d' c' x' y' z' l6 d c x y k;simp only [c9] at hc;simp only [s4.seq.sizeOf_spec] at hsz;rw [zl,zl,BN];exact vp (ih (.region l6 d) _ (by omega) hc.1.1) (vp (ih (.cond c x y) _ (by omega) hc.1.2) (ih k z' (by omega) hc.2))
 ·
  rename_i x' y' x y _ _ _;simp only [c9] at hc;simp only [s4.seq.sizeOf_spec] at hsz;rw [zl];exact vp (ih x x' (by omega) hc.1) (ih y y' (by omega) hc.2)
 ·
  rename_i c' x' y' c x y;simp only [c9] at hc;simp only [s4.cond.sizeOf_spec] at hsz;intro st e st' a w G I N hrun h Q hQ;simp only [exec] at hrun;split at hrun
  .rename_i hv
   exact wp_cond_true (yY h hc.1.1 hv) (ih x x' (by omega) hc.1.2 st e st' a w G I N hrun h Q hQ)
  .rename_i hv
   exact wp_cond_false (yY h hc.1.1 hv) (ih y y' (by omega) hc.2 st e st' a w G I N hrun h Q hQ)
  .cases hrun
 ·
  rename_i id' b' id b;simp only [c9,beq_iff_eq] at hc;obtain ⟨rfl,hc⟩:=hc;simp only [s4.block.sizeOf_spec] at hsz;have ib:=ih b b' (by omega) hc;intro st e st' a w G I N hrun h Q hQ;simp only [exec] at hrun;refine wp_block ?_;split at hrun
  .rename_i i1 st1 h1
   refine ib st (.exit i1) st1 a w G I N h1 h _ ?_;intro a' w' G' I' N' qD hs';simp only [F6.AV,Exit.inBlock];split at hrun
   .rename_i he
    cases hrun;rw [if_pos he];exact hQ a' w' G' I' N' qD hs'
   .rename_i he
    cases hrun;rw [if_neg he];exact hQ a' w' G' I' N' qD hs'
  .rename_i hne
   refine ib st e st' a w G I N hrun h _ ?_;intro a' w' G' I' N' qD hs';have:=hQ a' w' G' I' N' qD hs';cases e with
   |normal=>exact this
   |exit i=>exact absurd hrun (hne i st')
   |ret=>exact this
 ·
  rename_i b' mask b;simp only [s4.loop.sizeOf_spec] at hsz;exact Mo (ih b b' (by omega) hc) mask lim
 ·
  rename_i id' id;intro st e st' a w G I N hrun h Q hQ;simp only [beq_iff_eq] at hc;subst hc;simp only [exec] at hrun;cases hrun;exact wp_exit (hQ a w G I N h (Cq.refl _ _ _ _ _ _))
 ·
  intro st e st' a w G I N hrun h Q hQ;simp only [exec] at hrun;cases hrun;exact wp_ret (hQ a w G I N h (Cq.refl _ _ _ _ _ _))
 ·
  intro st e st' a w G I N hrun h Q hQ;simp only [exec] at hrun;cases hrun
end
end Go.Abs
namespace Go.Abs
variable [D5]
def freeze (G:Gh)(n:Nat):Gh:=fun b =>
 match G b with
 | .obj id=>if n<=id then .jj else .obj id
 |x=>x
section
variable {P:Program} {G:Gh} {I:Q9} {N:Nat->Prop} {w:World} {n:Nat}
def KG {b o:Nat}(h:gJ G b o):gJ (freeze G n) b o:=by
 unfold gJ at h ⊢;unfold freeze;cases hg:G b with
 |obj id=>rw [hg] at h;simp at h
 |free=>rw [hg] at h;simp at h
 |jj=>simp
 |_=>rw [hg] at h;simpa using h
def rI:Ext G w (freeze G n) w where
 os:=rfl
 tape:=rfl
 output:=rfl
 drawn _:=o5 _
 size:=o5 _
 jj b o h:=⟨KG h,rfl⟩
 still b h:=⟨by rcases h with h|⟨m,h⟩<;>simp [freeze,h],rfl⟩
 shape _ c _ _ h:=⟨c,h,rfl⟩
def lP (q:Place):aK q G w (freeze G n) w:=fun b m hb=>⟨by simp [freeze,hb],rfl⟩
def zz {b id:Nat}(h:id<n)(hb:G b= .obj id):freeze G n b= .obj id:=by simp only [freeze,hb];rw [if_neg (by omega)]
def Qw (h:WF G w):WF (freeze G n) w:=fun b hb=>by simp [freeze,h b hb]
def CI {pl:Place}{a:j3}{x:Value}(h:VR G I N w pl a x):VR (freeze G n) I N w pl a x :=
 VR.mono rI.sub (fun _ _=>rfl) (fun _ h=>h) _ _ _ (Or.inr (lP pl)) h
def Xn {pl:Place}{a:j3}{d:Data}{x:Value}(h:a.data? =some d)(hv:VR G I N w pl a x):DR G w d x:=by
 unfold j3.data? at h;split at h
 .cases h;simpa [VR] using hv
 .cases h
  have:=hv.I7 (wC := .none);simpa [j3.I7,VR] using this
 .cases h
  have:=hv.I7 (wC := .none);simpa [j3.I7,VR] using this
 .cases h
theorem oU:∀ (cs:List j3) (xs:List Data),M5 cs=some xs->xs.length=cs.length/\∀ (i:Nat) x,xs[i]? =some x->∃ a,cs[i]? =some a/\a.data? =some x
 |[],xs,h=>by simp [M5] at h;subst h;exact ⟨rfl,by simp⟩
 |c::cs,xs,h=>by
  unfold M5 at h;split at h
  .rename_i x hx
   split at h
   .rename_i ys hys
    cases h;obtain ⟨g1,g2⟩:=oU cs ys hys;refine ⟨by simp [g1],fun i y hi=> ?_⟩;cases i with
    |zero=>simp at hi;subst hi;exact ⟨c,rfl,hx⟩
    |succ i=>simpa using g2 i y (by simpa using hi)
   .cases h
  .cases h
theorem pg {H:q8}(hH:HR G I N w H):∀ (fuel:Nat) (as bs:List j3),bH H n fuel as=some bs->bs.length=as.length/\∀ (i:Nat) a pl x,as[i]? =some a->VR G I N w pl a x->∃ b,bs[i]? =some b/\VR (freeze G n) I N w pl b x
 |0,as,bs,h=>by simp [bH] at h
 |fuel+1,[],bs,h=>by
  simp only [bH] at h;cases h;exact ⟨rfl,by simp⟩
 |fuel+1,v::vs,bs,h=>by
  simp only [bH] at h;split at h
  .cases h
  .rename_i ws hws
   obtain ⟨l1,l2⟩:=pg hH fuel vs ws hws;have fin:∀ (u:j3),(∀ pl x,VR G I N w pl v x->VR (freeze G n) I N w pl u x)->bs=u::ws->bs.length=(v::vs).length/\∀ (i:Nat) a pl x,(v::vs)[i]? =some a->VR G I N w pl a x->∃ b,bs[i]? =some b/\VR (freeze G n) I N w pl b x:=by
    rintro u hu rfl;refine ⟨by simp [l1],fun i a pl x hi hv=> ?_⟩;cases i with
    |zero=>simp at hi;subst hi;exact ⟨u,rfl,hu pl x hv⟩
    |succ i=>simpa using l2 i a pl x (by simpa using hi) hv
   have aG0:∀ (l l' :List j3),bH H n fuel l=some l' ->∀ xs,H8 G I N w l xs->H8 (freeze G n) I N w l' xs:=by
    intro l l' hl xs hx;obtain ⟨m1,m2⟩:=pg hH fuel l l' hl;have hlen:=H8.length _ _ hx;refine R6 _ _ (by omega) fun j b u hj hu=> ?_
    have hjl:j<l.length:=by have:=r9 hj;omega
    obtain ⟨b',e1,e2⟩:=m2 j l[j] .none u (l5 hjl) (by
     obtain ⟨u',e3,e4⟩:=H8.get _ _ hx j l[j] (l5 hjl);rw [hu] at e3;cases e3;exact e4)
    rw [hj] at e1;cases e1;exact e2
   split at h
   .rename_i id sz lo len
    split at h
    .cases h
     exact fin _ (fun pl x hv=>CI hv) rfl
    .rename_i hid
     split at h
     .rename_i us zJ
      split at h
      .rename_i us' aU7
       split at h
       .rename_i xs hxs
        cases h;refine fin _ (fun pl x hv=> ?_) rfl;simp only [VR] at hv ⊢;obtain ⟨hN,cap,rfl,hcap,c,e,f,hc,hsz⟩:=hv;simp only [DR];refine Or.inr ⟨(I id).1,(I id).2+lo,cap,rfl,hcap,?_⟩;obtain ⟨d1,d2⟩:=oU us' xs hxs;obtain ⟨m1,m2⟩:=pg hH fuel us us' aU7;refine yx _ xs fun i y hi=> ?_
        have hpos:0<len * sz:=by
         rcases Nat.eq_zero_or_pos (len * sz) with h0|h0
         .have hul:us.length=0:=by
           unfold rd at zJ;split at zJ
           .split at zJ
            .cases zJ;simp [h0]
            .cases zJ
           .cases zJ
          have:=r9 hi;omega
         .exact h0
        obtain ⟨_,zs,g1,g2,g3,g4⟩:=hH.rd zJ hpos;have BY:i<len * sz:=by have:=r9 hi;omega
        have EU:G (I id).1= .obj id:=by
         unfold rd at zJ;split at zJ
         .rename_i l0 hl0
          have:=hH id _ hl0;simp only [OR] at this;obtain ⟨_,_,_,_,_,h2,_⟩:=this;exact h2
         .cases zJ
        refine ⟨?_,?_⟩
        .have:freeze G n (I id).1= .jj:=by simp only [freeze,EU];rw [if_pos (by omega)]
         simp [gJ,this]
        .have hz:zs[i]? =some zs[i]:=l5 (by omega)
         have hu:us[i]? =some us[i]:=l5 (by omega);refine ⟨zs[i],g3 i _ hz,?_⟩;have hvr:=g4 i _ _ hu hz;obtain ⟨b,e1,e2⟩:=m2 i us[i] _ _ hu hvr;obtain ⟨a',e3,e4⟩:=d2 i y hi;rw [e1] at e3;cases e3;exact Xn e4 e2
       .cases h
      .cases h
     .cases h
   .rename_i l
    split at h
    .rename_i l' hl
     cases h;refine fin _ (fun pl x hv=> ?_) rfl;simp only [VR] at hv ⊢;obtain ⟨cs,h1,h2⟩:=hv;exact ⟨cs,h1,aG0 l l' hl _ h2⟩
    .cases h
   .rename_i l
    split at h
    .rename_i l' hl
     cases h;refine fin _ (fun pl x hv=> ?_) rfl;simp only [VR] at hv ⊢;obtain ⟨cs,h1,h2⟩:=hv;exact ⟨cs,h1,aG0 l l' hl _ h2⟩
    .cases h
   .cases h
    exact fin _ (fun pl x hv=>CI hv) rfl
end
def ew (P:Program)(names:List Tmp):List ResultVar->List BL->Bool
 |[],[]=>true
 | .tmp t::r,.slot s::q=>names[s]? ==some t&&ew P names r q
 | .cell a t::r,.cell s n::q=>names[s]? ==some a&&rQ P t n&&ew P names r q
 |_,_=>false
def rS (tmps:Array Value):ResultVar->Sem Value
 | .tmp t=>pure (tmps.getD t undef)
 | .cell a t=>do loadVar t (<- asAddr (tmps.getD a undef))
section
variable {P:Program} {names:List Tmp} {E:Env} {nt:Nat} {st:St} {a:Act} {w:World} {G:Gh} {I:Q9} {N:Nat->Prop}
def Yw (h:Cd P names E nt st a w G I N){rv:ResultVar}{ar:BL}(hc:ew P names [rv] [ar]=true){v:j3}(hv:jR st.T st.H ar=some v):∃ x s,(rS a.tmps rv).run P w= .ok x w/\VR G I N w (.slot s) v x:=by
 cases rv with
 |tmp t =>
  cases ar with
  |slot s =>
   simp only [ew,c9,beq_iff_eq] at hc;simp only [jR] at hv;have:=h.T s t hc.1;rw [ay hv] at this;exact ⟨_,s,by simp [rS],this⟩
  |cell s n=>simp [ew] at hc
 |cell t ty =>
  cases ar with
  |slot s=>simp [ew] at hc
  |cell s n =>
   simp only [ew,c9,beq_iff_eq] at hc;obtain ⟨⟨h1,h2⟩,_⟩:=hc;cases n with
   |none =>
    simp only [jR] at hv;split at hv
    .rename_i id off hT
     split at hv
     .rename_i u hu
      cases hv;have hp:=h.T s t h1;rw [ay hT] at hp;simp only [VR] at hp;obtain ⟨_,xs,g1,_,g3,g4⟩:=h.H.rd hu (by omega);obtain ⟨z,rfl⟩:∃ z,xs=[z]:=List.length_eq_one_iff.1 g1;have hz:=g3 0 z rfl;have hvz:=g4 0 u z rfl rfl;have ha:dn P ty=some false:=by simpa [rQ] using h2
      simp at hz;refine ⟨z,s,?_,hvz.I7⟩;simp [rS,asAddr,hp.2,loadVar,cq ha,hz]
     .cases hv
    .cases hv
   |some n =>
    simp only [jR] at hv;split at hv
    .rename_i id off hT
     split at hv
     .rename_i us hu
      cases hv;have hp:=h.T s t h1;rw [ay hT] at hp;simp only [VR] at hp;have ha:dn P ty=some true/\P.cellsOf ty=n/\0<n:=by simpa [rQ,and_assoc] using h2
      obtain ⟨_,xs,g1,g2,g3,g4⟩:=h.H.rd hu ha.2.2;have hs:(sizeOf ty).run P w= .ok n w:=by
       rw [<- ha.2.1];refine run_sizeOf ?_;have:=ha.1;unfold dn at this;cases hu:P.underlying ty with
       |none=>simp [hu] at this
       |some d=>exact info_of_underlying hu
      have hl:=run_loadCells_list (P:=P) w (ad (I id).1 ((I id).2+off)) xs (fun j v hj=>by rw [Z7];exact g3 j v hj);rw [g1] at hl;refine ⟨.agg xs.toArray,s,?_,?_⟩
      .simp [rS,asAddr,hp.2,loadVar,cq ha.1,hs,hl]
      .simp only [VR]
       refine ⟨_,rfl,R6 _ _ (by simp [g1,g2]) fun j b v hj hv=> ?_⟩;simp at hj hv;obtain ⟨b',hb',rfl⟩:=hj;exact (g4 j b' v hb' hv).I7
     .cases hv
    .cases hv
theorem NQ (h:Cd P names E nt st a w G I N):∀ (rvs:List ResultVar) (Xg:List BL) (vs:List j3),ew P names rvs Xg=true->aR st.T st.H Xg=some vs ->
  ∃ xs:List Value,(rvs.mapM (rS a.tmps)).run P w= .ok xs w/\xs.length=vs.length/\∀ (i:Nat) v x,vs[i]? =some v->xs[i]? =some x->∃ s,VR G I N w (.slot s) v x
 |[],Xg,vs,hc,hv=>by
  cases Xg with
  |cons _ _=>simp [ew] at hc
  |nil =>
   simp only [aR] at hv;cases hv;exact ⟨[],by simp,rfl,by simp⟩
 |rv::rvs,Xg,vs,hc,hv=>by
  cases Xg with
  |nil=>cases rv<;>simp [ew] at hc
  |cons ar Xg =>
   have hc1:ew P names [rv] [ar]=true/\ew P names rvs Xg=true:=by
    cases rv<;>cases ar<;>simp_all [ew]
   simp only [aR] at hv;split at hv
   .rename_i v WU
    split at hv
    .rename_i vs' hvs
     cases hv;obtain ⟨x,s,h1,h2⟩:=Yw h hc1.1 WU;obtain ⟨xs,h3,h4,h5⟩:=NQ h rvs Xg vs' hc1.2 hvs;refine ⟨x::xs,?_,by simp [h4],fun i u y hi hy=> ?_⟩
     .simp [List.mapM_cons,h1,h3]
     .cases i with
      |zero=>simp at hi hy;subst hi;subst hy;exact ⟨s,h2⟩
      |succ i=>exact h5 i u y (by simpa using hi) (by simpa using hy)
    .cases hv
   .cases hv
end
end Go.Abs
namespace Go.Abs
variable [D5]
structure fZ (w w' :World):Prop where
 heap:w'.heap=w.heap
 os:w'.os=w.os
 tape:w'.tape=w.tape
 output:w'.output=w.output
 drawn:w.drawn<=w'.drawn
theorem fZ.refl (w:World):fZ w w:=⟨rfl,rfl,rfl,rfl,o5 _⟩
theorem fZ.trans {w w1 w2:World}(h:fZ w w1)(k:fZ w1 w2):fZ w w2:=⟨k.heap.trans h.heap,k.os.trans h.os,k.tape.trans h.tape,k.output.trans h.output,B5 h.drawn k.drawn⟩
def fZ.ext {G:Gh}{w w' :World}(h:fZ w w'):Ext G w G w' where
 os:=h.os
 tape:=h.tape
 output:=h.output
 drawn _:=h.drawn
 size:=by rw [h.heap];exact o5 _
 jj b o hi:=⟨hi,fC h.heap _⟩
 still b _:=⟨rfl,by rw [h.heap]⟩
 shape b c e f hc:=⟨c,by rw [h.heap];exact hc,rfl⟩
def fZ.keeps {G:Gh}{w w' :World}(h:fZ w w')(q:Place):aK q G w G w' :=fun b n hb=>⟨hb,by rw [h.heap]⟩
def Idle (P:Program)(f:FuncId):Prop :=
 T3 P f=true/\∀ args w,CallsD P f args .returning w fun e u' w' =>(∃ v,e= .returned v)/\u' = .returning/\fZ w w'
section
variable {P:Program} {names:List Tmp} {E:Env} {nt:Nat} {st:St} {a:Act} {w w' :World} {G:Gh} {I:Q9} {N:Nat->Prop}
def Cd.same (h:Cd P names E nt st a w G I N)(hw:fZ w w'):Cd P names E nt st a w' G I N where
 T s t ht:=VR.mono hw.ext.sub (fun _ _=>rfl) (fun _ h=>h) _ _ _ (Or.inr (hw.keeps _)) (h.T s t ht)
 H id o ho:=OR.mono hw.ext.sub (fun _ _=>rfl) (fun _ h=>h) id o (fun h=>⟨h,by rw [hw.heap]⟩) (fun _=>hw.keeps _) (h.H id o ho)
 wf b hb:=h.wf b (by rw [<- hw.heap];exact hb)
 U7:=h.U7
 V4:=h.V4
 bt:=h.bt
 KB:=h.KB
 size:=h.size
 idle:=h.idle
def aA.same {H0 H:q8}{w0:World}{G0:Gh}{I0:Q9}{N0:Nat->Prop}(h:aA E H0 w0 G0 I0 N0 H w G I N)(hw:fZ w w'):aA E H0 w0 G0 I0 N0 H w' G I N :=
 h.trans ⟨hw.ext,fun id _=>⟨fun b hb=>⟨hb,by rw [hw.heap]⟩,fun _=>hw.keeps _⟩,fun _ _ _=>rfl,fun _ _ h=>h,fun _ _ h=>h,fun _ o _ ho=>Or.inr ⟨o,ho,o5 _⟩⟩
theorem wo {idle:FuncId->Bool}(CL:∀ f,idle f=true->Idle P f){fn:Func}{tmps:Array Value}{R:Ending->World->Prop}:∀ (ds:List Deferred) (w:World),(∀ d,d ∈ ds->Gn P idle d) ->
  (∀ w',fZ w w' ->∃ v,(results fn tmps).run P w' = .ok v w' /\R (.returned v) w')->Leaves P fn tmps R ds .returning w
 |[],w,_,h=>h w (fZ.refl w)
 |d::ds,w,hd,h=>by
  obtain ⟨f,cap,h1,h2⟩:=hd d (by simp);obtain ⟨hcan,hD⟩:=CL f h2;obtain ⟨tgt,dargs⟩:=d;subst h1;refine leaves_cons (f:=f) (args:=dargs++cap) (by simp) (by simp_all [invoke,tC]) ?_;refine CallsD.mono (hD _ w) ?_;rintro e u' w' ⟨⟨v,rfl⟩,rfl,hw⟩;exact wo CL ds w' (fun d hd' =>hd d (by simp [hd'])) (fun w'' hw' =>h w'' (hw.trans hw'))
def IC {fn:Func}{tmps:Array Value}{xs:List Value}(h:(fn.results.toList.mapM (rS tmps)).run P w= .ok xs w) :
  (results fn tmps).run P w= .ok (if h:xs.length=1 then xs[0]'(by omega) else .tuple xs.toArray) w:=by
 have e:results fn tmps=(fn.results.mapM (rS tmps) >>= fun vs=>pure (if h:vs.size=1 then vs[0] else .tuple vs)):=by
  rfl
 grind [Array.mapM_eq_mapM_toList,map_eq_pure_bind,Sem.run_bind,Result.andThen_ok,Sem.run_pure,List.size_toArray]
def an4 {vs:List j3}{xs:List Value}(hl:xs.length=vs.length)(h:∀ (i:Nat) v x,vs[i]? =some v->xs[i]? =some x->∃ s,VR G I N w (.slot s) v x) :
  ∃ pl G2,jk pl G w G2/\(∀ id off,pl≠ .cell id off)/\VR G2 I N w .ret (j9 vs) (if h:xs.length=1 then xs[0]'(by omega) else .tuple xs.toArray):=by
 by_cases h1:xs.length=1
 .obtain ⟨x,rfl⟩:=List.length_eq_one_iff.1 h1
  obtain ⟨v,rfl⟩:=List.length_eq_one_iff.1 (hl.symm.trans h1);obtain ⟨s,hv⟩:=h 0 v x rfl rfl;simp [j9]
  by_cases ho:∃ z n c,v= .own z n c
  .obtain ⟨z,n,c,rfl⟩:=ho
   obtain ⟨G2,hm,hv2⟩:=iY (wC := .ret) (by simp) hv
   grind
  .exact ⟨.slot s,G,jk.refl _ _ _,by simp,by simpa using hv.Gr (fun z n c e=>ho ⟨z,n,c,e⟩)⟩
 .refine ⟨.ret,G,jk.refl _ _ _,by simp,?_⟩
  rw [dif_neg h1];have e:j9 vs= .tuple (vs.map j3.I7):=by
   simp_all [j9]<;>grind
  rw [e];refine ⟨_,rfl,R6 _ _ (by simp [hl]) fun j b v hj hv=> ?_⟩;simp at hj hv;obtain ⟨b',hb',rfl⟩:=hj;obtain ⟨s,hs⟩:=h j b' v hb' hv;exact hs.I7
end
def jl (P:Program)(fn:Func)(af:s8):Bool :=
 match fn.body with
 |some c=>jw af.names&&decide (af.nparams<=af.names.length)&&(af.names.take af.nparams==List.range af.nparams)&&decide (af.nparams<=fn.ntmps) &&
   Y2 P af.names fn.ntmps c af.body && ew P af.names fn.results.toList af.results && fn.name != "runtime.NumGoroutine"
 |none=>false
def KU {P:Program}{A:Prog}(CL:∀ f,A.idle f=true->Idle P f){cf:sg}{n:Nat}(Nl:mZ P cf A.prom)(hcan:∀ f args H lm r,cf f args H lm=some r->T3 P f=true)
  {f:FuncId} {fn:Func} {af:s8} (hf:P.funcs[f]? =some fn) (Hj:jl P fn af=true) {args:List j3} {H:q8} {l:F2} {v:j3} {H1:q8} (hrun:gb A cf n af args H l=some (v,H1))
  {w:World} {G:Gh} {I:Q9} {N:Nat->Prop} {I6:Array Value} (hpre:yu l H w G I N args I6) (hbase:af.bB=false->l.base=H.length) :
  Calls P f I6 w fun e w' =>∃ x G' I' N',e= .returned x/\jZ l H w G I N v H1 x w' G' I' N' :=by
 unfold jl at Hj;cases hbody:fn.body with
 |none=>rw [hbody] at Hj;cases Hj
 |some c =>
  rw [hbody] at Hj;simp only [c9,decide_eq_true_eq,beq_iff_eq] at Hj;obtain ⟨⟨⟨⟨⟨⟨ah6,hnp⟩,az7⟩,hnt⟩,ax1⟩,hres⟩,_⟩:=Hj;unfold gb at hrun;split at hrun
  .rename_i hlen
   have hvl:I6.size=args.length:=by simpa using H8.length _ _ hpre.args
   have hstart:Cd P af.names ⟨cf,A.prom,A.mode,A.idle,l,H.length⟩ fn.ntmps ⟨args++j4 (af.names.length - args.length) .any,H⟩ { tmps:=I6++Array.replicate (fn.ntmps - I6.size) undef,defers:=[] } w G I N:=by
    refine ⟨fun s t ht=> ?_,hpre.hr,hpre.wf,hpre.U7,?_,hpre.bt,o5 _,?_,by simp⟩
    .simp only
     by_cases hs:s<args.length
     .have hst:t=s:=by
       have h1:(af.names.take af.nparams)[s]? =some t:=by rw [List.getElem?_take_of_lt (by omega)];exact ht
       rw [az7,List.getElem?_range (by omega)] at h1;cases h1;rfl
      subst hst;obtain ⟨x,g1,g2⟩:=H8.get _ _ hpre.args t args[t] (l5 hs);have e1:(args++j4 (af.names.length - args.length) j3.any).getD t .any=args[t]:=by
       rw [List.getD,q7 hs,l5 hs];rfl
      have e2:(I6++Array.replicate (fn.ntmps - I6.size) undef).getD t undef=x:=by
       have hv:I6[t]? =some x:=by simpa using g1
       have hlt:t<I6.size:=Nat.lt_of_lt_of_eq hs hvl.symm;simp [Array.getElem?_append_left hlt,hv]
      rw [e1,e2];exact g2.place
     .have e1:(args++j4 (af.names.length - args.length) j3.any).getD s .any= .any:=by
       rw [List.getD,p7 (by omega)]
       rcases s5 (s - args.length) (af.names.length - args.length) with h|h
       .simp [h]
       .rw [H6 (by simpa using h)];rfl
      rw [e1];simp [VR]
    .simp;omega
    .simp;omega
   have hE:MM P ⟨cf,A.prom,A.mode,A.idle,l,H.length⟩:=⟨Nl,hcan,hpre.strict,hpre.base⟩;refine calls_of_wp_defers hf hbody ?_;have fin:∀ (st:St) (vs:List j3),aR st.T st.H af.results=some vs->finish af.bB H.length vs st.H=some (v,H1)->∀ a' w' G' I' N',Cd P af.names ⟨cf,A.prom,A.mode,A.idle,l,H.length⟩ fn.ntmps st a' w' G' I' N' ->
     aA ⟨cf,A.prom,A.mode,A.idle,l,H.length⟩ H w G I N st.H w' G' I' N' ->Leaves P fn a'.tmps (fun e w' =>∃ x G' I' N',e= .returned x/\jZ l H w G I N v H1 x w' G' I' N') a'.defers .returning w' :=by
    intro st vs hvs rK a' w' G' I' N' hc hs;refine wo CL a'.defers w' hc.idle ?_;intro w'' az9;have mJ:=hc.same az9;have hs2:=hs.same az9;obtain ⟨xs,h1,h2,h3⟩:=NQ mJ fn.results.toList af.results vs hres hvs;refine ⟨_,IC h1,(if h:xs.length=1 then xs[0]'(by omega) else .tuple xs.toArray),?_⟩;obtain ⟨pl,G2,hm,Ls,hv⟩:=an4 (w:=w'') (G:=G') (I:=I') (N:=N') h2 h3;have Lr:Ext G w G2 w'' :=hs2.ext.trans hm.ext;have ZH:ki l G w G2 w'' :=hs2.eE.trans fun id _=>⟨fun b hb=>⟨hm.obj b id hb,rfl⟩,fun off=>hm.keeps _ (fun e=>Ls id off e.symm)⟩
    have hhr:HR G2 I' N' w'' st.H:=mJ.H.HS hm Ls;unfold finish at rK;split at rK
    .cases rK
     refine ⟨G2,I',N',rfl,hv,hhr,hm.wf mJ.wf,Lr,ZH,fun id hid hN=>hs2.inj id hid hN,fun id hN=>hs2.mono id (hpre.bt id hN) hN,fun id hid hN=>hs2.old id hid hN,mJ.bt,hs2.hle,mJ.U7⟩
    .rename_i vY
     have vY:af.bB=false:=by simpa using vY
     have hb:=hbase vY;split at rK
     .rename_i u hu
      split at rK
      .rename_i rJ
       cases rK;obtain ⟨_,hfz⟩:=pg (n:=H.length) hhr 1000000 _ _ hu;obtain ⟨b,e1,e2⟩:=hfz 0 _ .ret _ rfl hv;simp at e1;subst e1;have Tt:=VR.low H.length _ _ _ rJ e2;have hlt:∀ (id:Nat) o,(st.H.take H.length)[id]? =some o->id<H.length/\st.H[id]? =some o:=by
        intro id o ho;have:id<H.length:=by have:=r9 ho;simp at this;omega
        rw [List.getElem?_take_of_lt this] at ho;exact ⟨this,ho⟩
       refine ⟨freeze G2 H.length,I',fun i=>N' i/\i<H.length,rfl,Tt,fun id o ho=> ?_,Qw (hm.wf mJ.wf),Lr.trans rI,fun id hid=> ?_,fun id hid hN=>hs2.inj id hid hN,fun id hN=>⟨hs2.mono id (hpre.bt id hN) hN,hpre.bt id hN⟩,
        fun id hid hN=>hs2.old id hid hN.1,fun id hN=> ?_,fun id o' hid ho=> ?_,fun id o ho=> ?_⟩
       .obtain ⟨h4,h5⟩:=hlt id o ho
        have uu:=(mJ.U7 id o h5).2 (by simp only;omega);simp only at uu;exact OR.mono rI.sub (fun _ _=>rfl) (fun _ h=>h) id o (fun hb=>⟨zz h4 hb,rfl⟩) (fun _=>lP _) (OR.low h4 o (by omega) (hhr id o h5))
       .obtain ⟨p1,p2⟩:=ZH id hid
        refine ⟨fun b hb=> ?_,fun off b m hb=> ?_⟩
        .obtain ⟨q1,q2⟩:=p1 b hb
         exact ⟨zz (hpre.jY b id hb) q1,q2⟩
        .obtain ⟨q1,q2⟩:=p2 off b m hb
         obtain ⟨q3,_⟩:=lP (w:=w'') (n:=H.length) (.cell id off) b m q1;exact ⟨q3,q2⟩
       .have:=mJ.bt id hN.1;simp;omega
       .obtain ⟨h4,h5⟩:=hlt id o' ho
        exact hs2.hle id o' hid h5
       .obtain ⟨h4,h5⟩:=hlt id o ho
        exact mJ.U7 id o h5
      .cases rK
     .cases rK
   split at hrun
   .cases hrun
   .rename_i x st hne hex
    split at hrun
    .rename_i vs hvs
     refine Li hE ah6 n _ af.body c (Nat.lt_succ_self _) ax1 _ x st _ w G I N hex hstart _ ?_;intro a' w' G' I' N' hc hs;have:=fin st vs hvs hrun a' w' G' I' N' hc (hs H w G I N hpre.aV7 (aA.refl _ _ _ _ _ _));cases x with
     |normal=>exact this
     |ret=>exact this
     |exit id=>exact absurd rfl (hne id)
    .cases hrun
   .cases hrun
  .cases hrun
def di (P:Program)(prom:FuncId->Bool)(f:FuncId)(p:List j3->q8->F2->Option (j3×q8)):Prop :=
 T3 P f=true/\∀ args H l v H1,p args H l=some (v,H1)->∀ w G I N I6,yu l H w G I N args I6->(prom f=false->l.base=H.length) ->
  Calls P f I6 w fun e w' =>∃ x G' I' N',e= .returned x/\jZ l H w G I N v H1 x w' G' I' N'
structure qW (P:Program)(A:Prog):Prop where
 idle:∀ f,A.idle f=true->Idle P f
 eF:∀ f p,A.eF f=some p->di P A.prom f p
 fn:∀ f af,A.eF f=none->A.fn f=some af->∃ fn,P.funcs[f]? =some fn/\jl P fn af=true
def KW {P:Program}{f:FuncId}{fn:Func}{af:s8}(hf:P.funcs[f]? =some fn)(h:jl P fn af=true):T3 P f=true:=by
 grind [jl,T3]
theorem qY {P:Program}{A:Prog}(h:qW P A):∀ n,mZ P (call A n) A.prom/\∀ f args H lm r,call A n f args H lm=some r->T3 P f=true
 |0=>⟨fun f args H l v H1 hc=>by simp [call] at hc,fun f args H lm r hc=>by simp [call] at hc⟩
 |n+1=>by
  obtain ⟨ih1,ih2⟩:=qY h n;refine ⟨fun f args H l v H1 hc w G I N I6 hpre hb=> ?_,fun f args H lm r hc=> ?_⟩
  .simp [call] at hc
   split at hc
   .rename_i p hp
    exact (h.eF f p hp).2 args H l v H1 hc w G I N I6 hpre hb
   .rename_i hp
    split at hc
    .rename_i af haf
     obtain ⟨fn,h1,h2⟩:=h.fn f af hp haf;exact KU h.idle ih1 ih2 h1 h2 hc hpre (fun gI=>hb (by simp_all [Prog.prom]))
    .cases hc
  .simp [call] at hc
   split at hc
   .rename_i p hp
    exact (h.eF f p hp).1
   .rename_i hp
    split at hc
    .rename_i af haf
     obtain ⟨fn,h1,h2⟩:=h.fn f af hp haf;exact KW h1 h2
    .cases hc
end Go.Abs
namespace Go.Abs
variable [D5]
def iA (o:Oper):Bool:=match o.op with
 | .call ⟨.builtin .recover,args,_⟩=>args.isEmpty&&o.guard.isNone
 |_=>false
def EY (P:Program)(d:Option Tmp)(o:Oper):Bool:=match o.op with
 | .binOp .neq t (.tmp x) (.const .nilIface) _=>d==some x&&o.guard.isNone&&(match P.underlying t with
  |some (.interface _)=>true
  |_=>false)
 |_=>false
def cZ (P:Program)(fn:Func):Bool :=
 fn.name != "runtime.NumGoroutine" && fn.results.isEmpty && (match fn.body with
 |some (.region _ ops false)=>(match ops.toList with
  |[o]=>iA o
  |_=>false)
 |some (.seq (.region _ ops false) (.cond (.tmp c) _ .skip))=>(match ops.toList with
  |[o1,o2]=>iA o1&&EY P o1.dst o2&&o2.dst==some c&&(match o1.dst with
   |some d=>decide (d<fn.ntmps)&&decide (c<fn.ntmps)
   |none=>false)
  |_=>false)
 |_=>false)
def wE {P:Program}{o:Oper}(h:iA o=true)(a:Act)(w:World):(execOp a.eval o).run P w= .ok .recover w:=by
 unfold iA at h;split at h
 .rename_i args argTypes hop
  obtain ⟨dst,cn,ty,pos,after,guard⟩:=o;simp only at hop;subst hop;simp [execOp,resolve,invoke,builtin]
 .cases h
def om {o:Oper}(h:iA o=true)(y:Nat->Option Bool):Region.wanted o y=true:=by
 unfold iA at h;split at h
 .simp only [c9] at h
  have:o.guard=none:=by simpa using h.2
  simp [Region.wanted,this]
 .cases h
def VC {P:Program}{o:Oper}{d:Option Tmp}(h:EY P d o=true)(a:Act)(w:World)(ha:∀ x,d=some x->a.tmps.getD x undef= .nilIface):(execOp a.eval o).run P w= .ok (.value (.bool false)) w:=by
 unfold EY at h;split at h
 .rename_i t x yt hop
  simp only [c9,beq_iff_eq] at h;obtain ⟨⟨h1,h2⟩,h3⟩:=h;obtain ⟨dst,cn,ty,pos,after,guard⟩:=o;simp only at hop;subst hop;have hx:a.eval (.tmp x)= .nilIface:=by simp only [Act.eval];exact ha x h1
  split at h3
  .rename_i ms hu
   have h1:(execOp a.eval (⟨dst,.binOp .neq t (.tmp x) (.const .nilIface) yt,ty,pos,after,guard⟩:Oper)).run P w= .ok (.value (.bool false)) w:=by
    simp only [execOp,hx];have hc:a.eval (.const .nilIface)= .nilIface:=rfl;rw [hc];simp only [eqGuard,binOp];simp [qy hu]
   exact h1
  .cases h3
 .cases h
def aa {P:Program}{f:FuncId}{fn:Func}(hf:P.funcs[f]? =some fn)(h:cZ P fn=true):Idle P f:=by
 unfold cZ at h;simp only [c9] at h;obtain ⟨⟨hname,hres⟩,h⟩:=h;have az2 :fn.results= #[]:=by simpa using hres
 have hrun:∀ tmps w,(results fn tmps).run P w= .ok (.tuple #[]) w:=by
  intro tmps w;simp [results,az2]
 have ZC:∀ (c₀:Frame) (cs:List Frame),c₀.mode= .returning->recoverD (c₀::cs)=none:=by
  intro c₀ cs hm;simp [recoverD,hm]
 split at h
 .rename_i id ops hb
  refine ⟨by simp only [T3,hf,hb];simpa using hname,fun args w=> ?_⟩;refine callsD_of_wpS hf hb ?_;intro c₀ cs hm;split at h
  .rename_i o ho
   have Tx:ops= #[o]:=by apply Array.toList_inj.1;simpa using ho
   subst Tx;refine wpS_region ?_;have xD:(#[o]:Array Oper)[0]? =some o:=rfl;show wpOpsS P #[o] _ [0] _ _ _
   simp only [wpOpsS,xD,om h,if_true,wE h,ZC c₀ cs hm];refine ⟨by rw [lF],.returning,?_,.tuple #[],hrun _ _,⟨_,rfl⟩,rfl,fZ.refl _⟩;cases c₀;simp only at hm;subst hm;rfl
  .cases h
 .rename_i id ops c thn hb
  refine ⟨by simp only [T3,hf,hb];simpa using hname,fun args w=> ?_⟩;refine callsD_of_wpS hf hb ?_;intro c₀ cs hm;split at h
  .rename_i o1 o2 ho
   have Tx:ops= #[o1,o2]:=by apply Array.toList_inj.1;simpa using ho
   subst Tx;simp only [c9,beq_iff_eq] at h;obtain ⟨⟨⟨h1,h2⟩,h3⟩,h4⟩:=h;cases hd:o1.dst with
   |none=>rw [hd] at h4;cases h4
   |some d =>
    rw [hd] at h4;simp only [c9,decide_eq_true_eq] at h4;refine wpS_seq (wpS_region ?_);have hg0:(#[o1,o2]:Array Oper)[0]? =some o1:=rfl;have hg1:(#[o1,o2]:Array Oper)[1]? =some o2:=rfl;show wpOpsS P #[o1,o2] _ [0,1] _ _ _
    simp only [wpOpsS,hg0,hg1,om h1,if_true,wE h1,ZC c₀ cs hm];have Lv:∀ y,Region.wanted o2 y=true:=by
     intro y;unfold EY at h2;split at h2
     .simp only [c9] at h2
      have:o2.guard=none:=by simpa using h2.1.2
      simp [Region.wanted,this]
     .cases h2
    have hlt:d<(args++Array.replicate (fn.ntmps - args.size) undef).size:=Nat.lt_of_lt_of_le h4.1 (by simp;omega);have hlt2:c<(args++Array.replicate (fn.ntmps - args.size) undef).size:=Nat.lt_of_lt_of_le h4.2 (by simp;omega);have WS:=fun a hh=>VC (P:=P) h2 a w hh
    simp only [Lv,if_true];rw [WS _ (by
     intro x hx;rw [hd] at hx;cases hx;rw [hd];exact bg hlt)]
    simp only [Oper.upon,Exit.thenS];refine wpS_cond (t:=false) ?_ ?_
    .rw [h3]
     simp only [Act.eval];exact bg (by rw [size_put];exact hlt2)
    .refine wpS_of_wp (wp_skip ?_)
     refine ⟨by rw [lF,lF],.returning,?_,.tuple #[],hrun _ _,⟨_,rfl⟩,rfl,fZ.refl _⟩;cases c₀;simp only at hm;subst hm;rfl
  .cases h
 .cases h
end Go.Abs
namespace Go.Abs
open Go
def Zp (P:Program)(g:FuncId->Option s8)(f:Nat):Bool:=match g f with
 |none=>true
 |some af=>match P.funcs[f]? with
  |some fn=>jl P fn af
  |none=>false
def upTo (n:Nat)(g:FuncId->Option s8)(f:FuncId):Option s8:=match Nat.blt f n with
 |true=>g f
 |false=>none
def gK (P:Program)(g:FuncId->Option s8)(k:Nat):Bool:=(List.range' (32 * k) 32).all (Zp P g)
def YX {P:Program}{g:FuncId->Option s8}{n:Nat}(h:∀ k,k<n->gK P g k=true)(f:FuncId)(af:s8)(hf:upTo (32 * n) g f=some af):∃ fn,P.funcs[f]? =some fn/\jl P fn af=true:=by
 unfold upTo at hf;split at hf
 .rename_i hb
  have hb:Nat.lt f (32 * n):=k9 hb;have hb: @LT.lt Nat _ f (32 * n):=hb;have h1:=L1.1 (h (f / 32) (Nat.div_lt_of_lt_mul hb)) f (List.mem_range'_1.2 ⟨Nat.mul_div_le f 32,Nat.lt_mul_div_succ f (by decide)⟩);unfold Zp at h1;rw [hf] at h1;simp only at h1;split at h1
  .rename_i fn hfn
   exact ⟨fn,hfn,h1⟩
  .cases h1
 .cases hf
end Go.Abs
namespace Go.Abs
variable [D5]
mutual
def EI:Data->Data->Bool
 | .bool a,.bool b=>a==b
 | .int k a,.int k' b=>k==k' &&a==b
 | .str a,.str b=>a==b
 | .slice n xs,.slice m ys=>n==m&&uK xs ys
 | .br,.br=>true
 | .O0,.O0=>true
 | .bM,.bM=>true
 | .nilIface,.nilIface=>true
 |_,_=>false
def uK:List Data->List Data->Bool
 |[],[]=>true
 |x::xs,y::ys=>EI x y&&uK xs ys
 |_,_=>false
end
mutual
theorem CF:∀ (a b:Data),EI a b=true->a=b
 | .slice n xs,b,h=>by
  cases b<;>simp only [EI,c9,beq_iff_eq,j5] at h;rw [h.1,zj _ _ h.2]
 | .bool _,b,h| .int _ _,b,h| .str _,b,h| .br,b,h| .O0,b,h| .bM,b,h| .nilIface,b,h=>by cases b<;>simp_all [EI]
theorem zj:∀ (a b:List Data),uK a b=true->a=b
 |[],[],_=>rfl
 |x::xs,y::ys,h=>by
  simp only [uK,c9] at h;rw [CF x y h.1,zj xs ys h.2]
 |[],_::_,h=>by simp [uK] at h
 |_::_,[],h=>by simp [uK] at h
end
def eqC:j3->j3->Bool
 | .d x,.d y=>EI x y
 |_,_=>false
def Qu:List j3->List j3->Bool
 |[],[]=>true
 |x::xs,y::ys=>eqC x y&&Qu xs ys
 |_,_=>false
def eqA:j3->j3->Bool
 | .agg l,.agg m=>Qu l m
 |a,b=>eqC a b
def Qt:List j3->List j3->Bool
 |[],[]=>true
 |x::xs,y::ys=>eqA x y&&Qt xs ys
 |_,_=>false
def CE {a b:j3}(h:eqC a b=true):a=b:=by
 unfold eqC at h;split at h
 .rw [CF _ _ h]
 .cases h
theorem zi:∀ (a b:List j3),Qu a b=true->a=b
 |[],[],_=>rfl
 |x::xs,y::ys,h=>by
  simp only [Qu,c9] at h;rw [CE h.1,zi xs ys h.2]
 |[],_::_,h=>by simp [Qu] at h
 |_::_,[],h=>by simp [Qu] at h
def Qs {a b:j3}(h:eqA a b=true):a=b:=by
 unfold eqA at h;split at h
 .rw [zi _ _ h]
 .exact CE h
theorem zh:∀ (a b:List j3),Qt a b=true->a=b
 |[],[],_=>rfl
 |x::xs,y::ys,h=>by
  simp only [Qt,c9] at h;rw [Qs h.1,zh xs ys h.2]
 |[],_::_,h=>by simp [Qt] at h
 |_::_,[],h=>by simp [Qt] at h
structure yy where
 f:FuncId
 args:List j3
 res:j3
def Y8:F2:=⟨0,0,0,0⟩
def F2.isZero (l:F2):Bool:=l.Tc==0&&l.SU==0&&l.base==0&&l.strict==0
def EZ {l:F2}(h:l.isZero=true):l=Y8:=by
 obtain ⟨a,b,c,d⟩:=l;simp [F2.isZero] at h;obtain ⟨⟨⟨rfl,rfl⟩,rfl⟩,rfl⟩:=h;rfl
def look (f:FuncId)(args:List j3):List yy->Option j3
 |[]=>none
 |e::es=>if e.f==f&&Qt e.args args then some e.res else look f args es
theorem zN {f:FuncId}{args:List j3}{v:j3}:∀ (es:List yy),look f args es=some v->∃ e,e ∈ es/\e.f=f/\e.args=args/\e.res=v
 |[],h=>by simp [look] at h
 |e::es,h=>by
  unfold look at h;split at h
  .rename_i hc
   simp only [c9,beq_iff_eq] at hc;cases h;exact ⟨e,by simp,hc.1,zh _ _ hc.2,rfl⟩
  .obtain ⟨e',h1,h2⟩:=zN es h
   exact ⟨e',by simp [h1],h2⟩
def memo (A:Prog)(es:List yy):Prog :=
 ⟨A.fn,A.idle,A.mode,fun f=>if es.any (fun e=>e.f==f) then some (fun args H l=>if H.isEmpty&&l.isZero then (match look f args es with
  |some v=>some (v,[])
  |none=>none) else none) else A.eF f⟩
end Go.Abs
namespace Go.Abs
variable [D5]
structure Kept (w w' :World):Prop where
 os:w'.os=w.os
 output:w'.output=w.output
 size:w.heap.size<=w'.heap.size
 old:∀ b:Nat,b<w.heap.size->w'.heap[b]? =w.heap[b]?
def Kept.but {w w' :World}(h:Kept w w')(may:MemPlace->Prop):w.keptBut w' may:=by
 refine ⟨h.os,h.output,fun i hi=> ?_⟩;rw [h.old i hi];split
 .rename_i gL ee
  rw [gL] at ee;cases ee;exact ⟨rfl,rfl,rfl,fun _ _=>rfl⟩
 .rename_i gL ee
  rw [gL] at ee;cases ee;exact Or.inr ⟨rfl,rfl⟩
 .rfl
theorem Kept.frozen {w w' :World}(h:Kept w w'){a:Addr}(ha:a.block<w.heap.size):w'.frozen? a=w.frozen? a:=by
 simp only [World.frozen?,h.old a.block ha]
def G0 (w:World):Gh:=fun b=>if b<w.heap.size then .jj else .free
def QM {P:Program}{A:Prog}(h:qW P A){n:Nat}{f:FuncId}{args:List j3}{I6:Array Value}{w:World}(hc:call A n f args [] Y8=some (.d (.bool true),[]))
  (hargs:H8 (G0 w) (fun _=>(0,0)) (fun _=>False) w args I6.toList):Calls P f I6 w fun e w' =>e= .returned (.bool true)/\Kept w w' :=by
 have hpre:yu Y8 [] w (G0 w) (fun _=>(0,0)) (fun _=>False) args I6:=by
  refine ⟨hargs,?_,?_,?_,?_,o5 _,o5 _,?_,fun _ b n pl hb=>by simp only [G0] at hb;split at hb<;>cases hb⟩
  .intro id o ho;simp at ho
  .intro b hb;simp only [G0];rw [if_neg (by omega)]
  .intro id hid;exact hid.elim
  .intro id o ho;simp at ho
  .intro b id hb
   simp only [G0] at hb;split at hb<;>cases hb
 refine Calls.mono ((qY h n).1 f args [] Y8 _ _ hc w _ _ _ I6 hpre (fun _=>rfl)) ?_;rintro e w' ⟨x,G',I',N',rfl,hp⟩;have hx:=hp.val;simp only [VR,DR] at hx;subst hx;refine ⟨rfl,hp.ext.os,hp.ext.output,hp.ext.size,fun b hb=> ?_⟩;refine (hp.ext.still b (Or.inl ?_)).2;simp only [G0];rw [if_pos hb]
def Et {A:Prog}{n:Nat}{f:FuncId}{af:s8}{args:List j3}{H:q8}{l:F2}(hp:A.eF f=none)(hf:A.fn f=some af):call A (n+1) f args H l=gb A (call A n) n af args H l:=by
 simp only [call,hp,hf]
def iP (af:s8)(n:Nat)(o:Option (F6×St)):Option (j3×q8):=match o with
 |some (.exit _,_)=>none
 |some (_,st)=>(match aR st.T st.H af.results with
  |some vs=>finish af.bB n vs st.H
  |none=>none)
 |none=>none
def sB {A:Prog}{cf:sg}{n:Nat}{af:s8}{args:List j3}{H:q8}{l:F2}(h:args.length=af.nparams) :
  gb A cf n af args H l=iP af H.length (exec ⟨cf,A.prom,A.mode,A.idle,l,H.length⟩ n af.body ⟨args++j4 (af.names.length - args.length) .any,H⟩):=by
 unfold gb iP;rw [if_pos h];rfl
section
variable {H:Type} {enc:TypeId×Value->H} {P:Program}
open Go.ChangeShapes Go.WideShapes
def Ra {f:Func}{s:ChangeSpec}{apart fresh handsOn again:Bool}{W W' :World}{args:Array Value}{v:Value}{ds gs:List (DataW H)}{before pa pv:List MemPlace}
  (hW:DataW.Whole enc P f.params.toList s.vars apart W args.toList ds gs before) (hK:Kept W W')
  (hres:∀ (b:Nat) (sp:Nat->Bool) (hd:Bool),DataW.TrodAll enc P W' b sp hd f.resultTypes.toList (v.resultList f.resultTypes.size) (s.fn H (ds++gs)).results [])
  (hargs:∀ sp:Nat->Bool,(∀ p ∈ before,sp p.block=true)->DataW.TrodAll enc P W' 0 sp true f.params.toList args.toList (s.fn H (ds++gs)).args pa)
  (hvars:∀ sp:Nat->Bool,(∀ p ∈ before,sp p.block=true)->DataW.TrodVars enc P W' sp s.vars (s.fn H (ds++gs)).vars pv)
  (hps:before=pa++pv)
  (hok:∀ (j:Nat) (t:TypeId) (r:Value),f.resultTypes[j]? =some t->(v.resultList f.resultTypes.size)[j]? =some r->Value.okWide P W' .any 0 t r) :
  s.post enc P f apart fresh handsOn again W args v W' :=by
 have hlt:=hW.lt;have hin:∀ p,p ∈ pa++pv->p ∈ before:=fun p hp=>by rw [hps];exact hp
 refine ⟨ds,gs,before,[],pa,pv,hW,hres _ _ _,hargs _ (fun p hp=>by simpa using hlt p hp),hvars _ (fun p hp=>by simpa using hlt p hp),World.keptBut_mono (fun p hp=>⟨hp,?_⟩) (hK.but _),fun _=> ?_⟩
 .rw [hps,List.mem_append] at hp
  exact Or.inr hp
 .obtain ⟨_,_,_,_,_,hz,hn⟩:=hW
  refine ⟨hok,_,_,([]++pa)++pv,⟨[]++pa,pv,trodAll_append (hargs _ (fun _ _=>rfl)) (hres _ _ _),hvars _ (fun _ _=>rfl),rfl,fun b off hp=> ?_,fun ha=> ?_⟩,fun p hp _=> ?_⟩
  .have hb:=hin _ (by simpa using hp)
   rw [hK.frozen (hlt _ hb)];exact hz b off hb
  .have:=hn ha
   rw [hps] at this;simpa using this
  .exact hin p (by simpa using hp)
end
end Go.Abs
namespace Go.Abs
instance:D5:=⟨False⟩
inductive CT where
 |bool
 |int (k:IntKind)
 |str
 |slice (e:List CT)
mutual
def Fits:CT->Data->Prop
 | .bool,d=>∃ b,d= .bool b
 | .int k,d=>∃ n,d= .int k n/\(Lit.int k n).wf=true
 | .str,d=>∃ s:List UInt8,d= .str s/\s.length<=maxLen
 | .slice e,d=>∃ rows:List (List Data),d= .slice rows.length rows.flatten/\rows.length<=maxLen/\∀ r,r ∈ rows->Z1 e r
def Z1:List CT->List Data->Prop
 |[],ds=>ds=[]
 |c::cs,ds=>∃ d r,ds=d::r/\Fits c d/\Z1 cs r
end
theorem Z1.length:∀ (l:List CT) (ds:List Data),Z1 l ds->ds.length=l.length
 |[],ds,h=>by simp_all [Z1]
 |c::cs,ds,h=>by
  obtain ⟨d,r,rfl,_,h3⟩:=h;simp [Z1.length cs r h3]
theorem lu:∀ {l m:List CT} {ds es:List Data},Z1 l ds->Z1 m es->Z1 (l++m) (ds++es)
 |[],m,ds,es,h,k=>by simp_all [Z1]
 |c::cs,m,ds,es,h,k=>by
  obtain ⟨d,r,rfl,h2,h3⟩:=h;exact ⟨d,r++es,rfl,h2,lu h3 k⟩
def Se (a:Addr)(m n:Nat):a.add (m+n)=(a.add m).add n:=by
 grind [Addr.add,Nat.add_assoc]
def KH (P:Program)(lay:TypeId->List CT->Bool):List Field->Nat->List CT->Bool
 |[],_,l=>l.isEmpty
 |f::fs,o,l=>f.offset==o&&decide (P.cellsOf f.type<=l.length)&&lay f.type (l.take (P.cellsOf f.type))&&KH P lay fs (o+P.cellsOf f.type) (l.drop (P.cellsOf f.type))
def PX (lay:List CT->Bool)(c:Nat):Nat->List CT->Bool
 |0,l=>l.isEmpty
 |m+1,l=>decide (c<=l.length)&&lay (l.take c)&&PX lay c m (l.drop c)
def Lay (P:Program):Nat->TypeId->List CT->Bool
 |0,_,_=>false
 |n+1,t,l=>match P.underlying t with
  |some .bool=>(match l with
   |[.bool]=>true
   |_=>false)
  |some (.int k)=>(match l with
   |[.int k']=>k==k'
   |_=>false)
  |some .string=>(match l with
   |[.str]=>true
   |_=>false)
  |some (.slice e)=>(match l with
   |[.slice le]=>Lay P n e le&&P.cellsOf e==le.length&&decide (0<le.length)
   |_=>false)
  |some (.struct fs)=>P.cellsOf t==l.length&&KH P (Lay P n) fs.toList 0 l
  |some (.array m e)=>P.cellsOf t==l.length&&PX (Lay P n e) (P.cellsOf e) m l
  |_=>false
abbrev I0:Q9:=fun _=>(0,0)
abbrev N0:Nat->Prop:=fun _=>False
theorem Kept.cell {w w' :World}(h:Kept w w'){a:Addr}{v:Value}(hv:w.cell? a=some v):w'.cell? a=some v:=by
 have:a.block<w.heap.size:=by
  grind [s5,World.cell?,Array.getElem?_eq_none]
 have e:w'.cell? a=w.cell? a:=by
  unfold World.cell?;rw [h.old _ this]
 simp_all
theorem iB {α β:Type}{f g:α->Option β}:∀ {l:List α} {ys:List β},(∀ x y,x ∈ l->y ∈ ys->f x=some y->g x=some y)->l.mapM f=some ys->l.mapM g=some ys
 |[],ys,_,h=>by simpa using h
 |x::xs,ys,hfg,h=>by
  rw [List.mapM_cons] at h ⊢;cases hf:f x with
  |none=>simp_all
  |some y =>
   rw [hf] at h;cases hr:xs.mapM f with
   |none=>simp_all
   |some r =>
    simp [hr] at h;subst h;rw [hfg x y (by simp) (by simp) hf,iB (fun a b ha hb=>hfg a b (by simp [ha]) (by simp [hb])) hr];rfl
theorem ia {α β:Type}{f:α->Option β}:∀ {l:List α} {ys:List β},l.mapM f=some ys->ys.length=l.length/\∀ (i:Nat) x,l[i]? =some x->∃ y,ys[i]? =some y/\f x=some y
 |[],ys,h=>by simp_all
 |x::xs,ys,h=>by
  rw [List.mapM_cons] at h;cases hf:f x with
  |none=>simp_all
  |some y =>
   rw [hf] at h;cases hr:xs.mapM f with
   |none=>simp_all
   |some r =>
    simp  at h;obtain ⟨h1,h2⟩:=ia hr
    grind
theorem Kept.cells {w w' :World}(h:Kept w w'){base:Nat}{a:Addr}{n:Nat}{cs:List Value}(hc:w.cells? base a n=some cs):w'.cells? base a n=some cs:=by
 unfold World.cells? at hc ⊢;split at hc
 .rename_i hb
  rw [if_pos hb];exact iB (fun x y _ _ hx=>h.cell hx) hc
 .cases hc
section
variable {H:Type} {enc:TypeId×Value->H} {P:Program} {w:World} {base:Nat} {spare:Nat->Bool} {held:Bool}
theorem trod_bool {t:TypeId}{fuel:Nat}{cs:List Value}{x:DataW H×List MemPlace}(hu:P.underlying t=some .bool)(h:DataW.trod enc P w base spare held (fuel+1) t cs=some x):∃ b,cs=[.bool b]/\x=(.lit (.bool b),[]):=by
 unfold DataW.trod at h
 grind
theorem trod_int {t:TypeId}{k:IntKind}{fuel:Nat}{cs:List Value}{x:DataW H×List MemPlace}(hu:P.underlying t=some (.int k))(h:DataW.trod enc P w base spare held (fuel+1) t cs=some x):∃ n,cs=[.int k n]/\(Lit.int k n).wf=true/\x=(.lit (.int k n),[]):=by
 unfold DataW.trod at h
 grind
theorem Ba {t:TypeId}{fuel:Nat}{cs:List Value}{x:DataW H×List MemPlace}(hu:P.underlying t=some .string)(h:DataW.trod enc P w base spare held (fuel+1) t cs=some x):∃ s:ByteArray,cs=[.string s]/\s.size<=maxLen/\x=(.lit (.string s.data.toList),[]):=by
 unfold DataW.trod at h
 grind
def trod_slice {t e:TypeId}{fuel:Nat}{cs:List Value}{x:DataW H×List MemPlace}(hu:P.underlying t=some (.slice e))(h:DataW.trod enc P w base spare held (fuel+1) t cs=some x) :
  (cs=[.slice none 0 0]/\x=(.nil,[]))\/∃ a len cap,cs=[.slice (some a) len cap]/\base<=a.block/\len<=cap/\cap<=maxLen /\
   (∃ elems,((List.range len).mapM fun i=>(w.cells? base (a.add (i * P.cellsOf e)) (P.cellsOf e)).bind (DataW.trod enc P w base spare held fuel e))=some elems) /\
   (spare a.block=true->∃ rest,((List.range (cap - len)).mapM fun j=>(w.cells? base (a.add ((len+j) * P.cellsOf e)) (P.cellsOf e)).bind (DataW.trod enc P w base spare held fuel e))=some rest):=by
 unfold DataW.trod at h;rw [hu] at h
 match cs,h with
 |[],h=>cases h
 |[v],h =>
  cases v<;>try (cases h)
  rename_i o len cap;cases o with
  |none =>
   cases len with
   |zero =>
    cases cap with
    |zero=>simp_all
    |succ c=>cases h
   |succ n=>cases h
  |some a =>
   simp only at h;split at h
   .rename_i hc
    refine Or.inr ⟨a,len,cap,rfl,hc.1,hc.2.1,hc.2.2,?_⟩;cases hm:(List.range len).mapM fun i=>(w.cells? base (a.add (i * P.cellsOf e)) (P.cellsOf e)).bind (DataW.trod enc P w base spare held fuel e) with
    |none=>simp_all
    |some elems =>
     refine ⟨⟨elems,rfl⟩,fun hs=> ?_⟩;cases hr:(List.range (cap - len)).mapM fun j=>(w.cells? base (a.add ((len+j) * P.cellsOf e)) (P.cellsOf e)).bind (DataW.trod enc P w base spare held fuel e) with
     |none=>simp_all
     |some rest=>simp_all
   .cases h
 |v::_::_,h=>simp_all
def trod_array {t e:TypeId}{m:Nat}{fuel:Nat}{cs:List Value}{x:DataW H×List MemPlace}(hu:P.underlying t=some (.array m e))(h:DataW.trod enc P w base spare held (fuel+1) t cs=some x) :
  cs.length=P.cellsOf t/\∃ xs,((List.range m).mapM fun i=>DataW.trod enc P w base spare held fuel e ((cs.drop (i * P.cellsOf e)).take (P.cellsOf e)))=some xs/\x=(.agg (xs.map (·.1)),xs.flatMap (·.2)):=by
 simp_all [DataW.trod]<;>grind
def trod_struct {t:TypeId}{fs:Array Field}{fuel:Nat}{cs:List Value}{x:DataW H×List MemPlace}(hu:P.underlying t=some (.struct fs))(h:DataW.trod enc P w base spare held (fuel+1) t cs=some x) :
  cs.length=P.cellsOf t/\∃ xs,(fs.toList.mapM fun f=>DataW.trod enc P w base spare held fuel f.type ((cs.drop f.offset).take (P.cellsOf f.type)))=some xs/\x=(.agg (xs.map (·.1)),xs.flatMap (·.2)):=by
 simp_all [DataW.trod]<;>grind
abbrev Cells (w:World)(ds:List Data)(cs:List Value):Prop:=H8 (G0 w) I0 N0 w (ds.map .d) cs
theorem Cells.append {ds es:List Data}{cs fs:List Value}(h:Cells w ds cs)(k:Cells w es fs):Cells w (ds++es) (cs++fs):=by
 simp_all [Cells,List.map_append,qX]
theorem ad8 {b o:Nat}{v:Value}(h:w.cell? (ad b o)=some v):gJ (G0 w) b o:=by
 grind [s5,World.cell?,Array.getElem?_eq_none,gJ,G0]
def UM (hspare:∀ b,spare b=true):∀ (n:Nat) (t:TypeId) (l:List CT),Lay P n t l=true->∀ (fuel:Nat) (cs:List Value) (x:DataW H×List MemPlace),DataW.trod enc P w base spare held fuel t cs=some x->∃ ds,Z1 l ds/\Cells w ds cs:=by
 intro n
 induction n with
 |zero=>simp_all [Lay]
 |succ n ih =>
  intro t l hL fuel cs x h;cases fuel with
  |zero=>simp [DataW.trod] at h
  |succ fuel =>
   unfold Lay at hL;split at hL
   .rename_i hu
    split at hL
    .obtain ⟨b,rfl,_⟩:=trod_bool hu h
     exact ⟨[.bool b],by simp [Z1,Fits],by simp [Cells,H8,VR,DR]⟩
    .cases hL
   .rename_i k hu
    split at hL
    .rename_i k'
     have:k=k' :=by simp_all
     subst this;obtain ⟨m,rfl,hw,_⟩:=trod_int hu h;exact ⟨[.int k m],by simp_all [Z1,Fits],by simp [Cells,H8,VR,DR]⟩
    .cases hL
   .rename_i hu
    split at hL
    .obtain ⟨s,rfl,hs,_⟩:=Ba hu h
     refine ⟨[.str s.data.toList],?_,by simp [Cells,H8,VR,DR]⟩;simp_all [Z1,Fits]
    .cases hL
   .rename_i e hu
    split at hL
    .rename_i le
     simp only [c9,beq_iff_eq,decide_eq_true_eq] at hL;obtain ⟨⟨hLe,hce⟩,hpos⟩:=hL
     rcases trod_slice hu h with ⟨rfl,_⟩|⟨a,len,cap,rfl,hb,hlc,hcm,⟨elems,hel⟩,sV⟩
     .refine ⟨[.slice 0 []],?_,by simp [Cells,H8,VR,DR]⟩
      simp only [Z1,Fits];exact ⟨_,_,rfl,⟨[],rfl,by simp,by simp⟩,rfl⟩
     ·
      obtain ⟨Tq,mK⟩:=ia hel;have rows:∀ m,m<=len->∃ rows:List (List Data),rows.length=m/\(∀ r,r ∈ rows->Z1 le r)/\(∀ (j:Nat) d,rows.flatten[j]? =some d->∃ v,w.cell? (a.add j)=some v/\DR (G0 w) w d v):=by
       intro m
       induction m with
       |zero=>simp_all
       |succ m ihm =>
        intro hm;obtain ⟨rows,r1,r2,r3⟩:=ihm (by omega);obtain ⟨y,_,hy⟩:=mK m m (List.getElem?_range (by omega));cases hcell:w.cells? base (a.add (m * P.cellsOf e)) (P.cellsOf e) with
        |none=>simp_all
        |some ces =>
         rw [hcell] at hy;simp only [Option.bind_some] at hy;obtain ⟨ds,f1,f2⟩:=ih e le hLe fuel ces y hy;have hds:ds.length=le.length:=Z1.length _ _ f1;have Zz:rows.flatten.length=m * le.length:=by
          rw [List.length_flatten];have:∀ q,q ∈ rows.map List.length->q=le.length:=by
           grind [Z1.length]
          have aT6:rows.map List.length=j4 m le.length:=by
           rw [List.eq_replicate_iff]
           grind
          rw [aT6];simp
         refine ⟨rows++[ds],by simp [r1],?_,?_⟩
         .grind
         .intro j d hj
          rw [List.flatten_append] at hj;simp only [List.flatten_cons,List.flatten_nil,List.append_nil] at hj
          by_cases hjl:j<rows.flatten.length
          .grind
          .rw [p7 (by omega)] at hj
           have BJ:=r9 hj;unfold World.cells? at hcell;split at hcell
           .obtain ⟨c1,c2⟩:=ia hcell
            obtain ⟨v,v1,v2⟩:=c2 (j - rows.flatten.length) (j - rows.flatten.length) (List.getElem?_range (by omega));have aR1:(a.add (m * P.cellsOf e)).add (j - rows.flatten.length)=a.add j:=by
             rw [<- Se];simp_all
            rw [aR1] at v2;obtain ⟨v',w1,w2⟩:=H8.get _ _ f2 (j - rows.flatten.length) (.d d) (by simp_all);simp_all [VR]
           .cases hcell
      obtain ⟨rows,r1,r2,r3⟩:=rows len (o5 _);refine ⟨[.slice rows.length rows.flatten],?_,?_⟩
      .grind [Z1,Fits]
      .simp only [Cells,E0,List.map_nil,H8,VR]
       refine ⟨_,_,rfl,?_,rfl⟩;simp only [DR]
       by_cases hcap:cap=0
       .simp_all
       ·
        have ah0:∃ ces,w.cells? base (a.add 0) (P.cellsOf e)=some ces:=by
         by_cases hl0:len=0
         .obtain ⟨rest,hr⟩:=sV (hspare _)
          obtain ⟨_,c2⟩:=ia hr;obtain ⟨y,_,hy⟩:=c2 0 0 (by grind);rw [hl0] at hy;simp only [Nat.zero_add,Nat.zero_mul] at hy;cases Lq:w.cells? base (a.add 0) (P.cellsOf e) with
          |none=>simp_all
          |some ces=>simp_all
         .obtain ⟨y,_,hy⟩:=mK 0 0 (by grind)
          simp only [Nat.zero_mul] at hy;cases Lq:w.cells? base (a.add 0) (P.cellsOf e) with
          |none=>simp_all
          |some ces=>simp_all
        obtain ⟨ces,XG⟩:=ah0;have hcell:∃ v,w.cell? a=some v:=by
         unfold World.cells? at XG;split at XG
         .obtain ⟨_,c2⟩:=ia XG
          obtain ⟨v,_,hv⟩:=c2 0 0 (by simp_all);simp_all [Addr.add]
         .cases XG
        obtain ⟨v,hv⟩:=hcell;have ha:a=ad a.block a.off:=by
         obtain ⟨b,o,sp⟩:=a;cases sp with
         |none=>rfl
         |some q =>
          grind [World.cell?]
        grind [yx,Z7,ad8]
    .cases hL
   .rename_i fs hu
    simp only [c9,beq_iff_eq] at hL;obtain ⟨hlen,xs,hxs,_⟩:=trod_struct hu h;have fields:∀ (fl:List Field) (o:Nat) (l:List CT) (ys:List (DataW H×List MemPlace)),KH P (Lay P n) fl o l=true->(fl.mapM fun f=>DataW.trod enc P w base spare held fuel f.type ((cs.drop f.offset).take (P.cellsOf f.type)))=some ys->(cs.drop o).length=l.length ->
      ∃ ds,Z1 l ds/\Cells w ds (cs.drop o):=by
     intro fl
     induction fl with
     |nil =>
      simp_all [KH,Z1,Cells,H8]<;>omega
     |cons f fl ihf =>
      intro o l ys hl hm hlen;simp only [KH,c9,beq_iff_eq,decide_eq_true_eq] at hl;obtain ⟨⟨⟨ho,hle⟩,QE⟩,sV⟩:=hl;rw [List.mapM_cons] at hm;cases hf:DataW.trod enc P w base spare held fuel f.type ((cs.drop f.offset).take (P.cellsOf f.type)) with
      |none=>simp_all
      |some y =>
       rw [hf] at hm;cases hr:fl.mapM fun f=>DataW.trod enc P w base spare held fuel f.type ((cs.drop f.offset).take (P.cellsOf f.type)) with
       |none=>simp_all
       |some r =>
        rw [ho] at hf;obtain ⟨d1,a1,a2⟩:=ih f.type _ QE fuel _ y hf;obtain ⟨d2,b1,b2⟩:=ihf (o+P.cellsOf f.type) (l.drop (P.cellsOf f.type)) r sV hr (by grind);refine ⟨d1++d2,?_,?_⟩
        .grind [List.take_append_drop,lu]
        .have:cs.drop o=(cs.drop o).take (P.cellsOf f.type)++cs.drop (o+P.cellsOf f.type):=by
          rw [<- List.drop_drop,List.take_append_drop]
         rw [this];exact a2.append b2
    grind
   .rename_i m e hu
    simp only [c9,beq_iff_eq] at hL;obtain ⟨hlen,xs,hxs,_⟩:=trod_array hu h;obtain ⟨_,hat⟩:=ia hxs;have elems:∀ (q k:Nat) (l:List CT),k+q=m->PX (Lay P n e) (P.cellsOf e) q l=true->(cs.drop (k * P.cellsOf e)).length=l.length->∃ ds,Z1 l ds/\Cells w ds (cs.drop (k * P.cellsOf e)):=by
     intro q
     induction q with
     |zero =>
      simp_all [PX,Z1,Cells,H8]<;>omega
     |succ q ihq =>
      intro k l hkq hl hlen;simp only [PX,c9,decide_eq_true_eq] at hl;obtain ⟨⟨hle,QE⟩,sV⟩:=hl;obtain ⟨y,_,hy⟩:=hat k k (by grind);obtain ⟨d1,a1,a2⟩:=ih e _ QE fuel _ y hy;obtain ⟨d2,b1,b2⟩:=ihq (k+1) (l.drop (P.cellsOf e)) (by omega) sV (by grind);refine ⟨d1++d2,?_,?_⟩
      .grind [List.take_append_drop,lu]
      .have:cs.drop (k * P.cellsOf e)=(cs.drop (k * P.cellsOf e)).take (P.cellsOf e)++cs.drop ((k+1) * P.cellsOf e):=by
        rw [Nat.succ_mul,<- List.drop_drop,List.take_append_drop]
       rw [this];exact a2.append b2
    have:=elems m 0 l (by omega) hL.2 (by simp_all);simp_all
   .cases hL
def RG {w' :World}(hK:Kept w w'){sp:Nat->Bool}:∀ (n:Nat) (t:TypeId) (l:List CT),Lay P n t l=true->∀ (fuel:Nat) (cs:List Value) (x:DataW H×List MemPlace),(∀ p,p ∈ x.2->sp p.block=true) ->
  DataW.trod enc P w base (fun _=>true) held fuel t cs=some x->DataW.trod enc P w' base sp held fuel t cs=some x:=by
 intro n
 induction n with
 |zero=>simp_all [Lay]
 |succ n ih =>
  intro t l hL fuel cs x hsp h;cases fuel with
  |zero=>simp [DataW.trod] at h
  |succ fuel =>
   unfold Lay at hL;split at hL
   .rename_i hu
    obtain ⟨b,rfl,rfl⟩:=trod_bool hu h;simp [DataW.trod,hu]
   .rename_i k hu
    obtain ⟨m,rfl,hw,rfl⟩:=trod_int hu h;simp [DataW.trod,hu,hw]
   .rename_i hu
    obtain ⟨s,rfl,hs,rfl⟩:=Ba hu h;simp [DataW.trod,hu,hs]
   .rename_i e hu
    split at hL
    .rename_i le
     simp only [c9,beq_iff_eq,decide_eq_true_eq] at hL;obtain ⟨⟨hLe,hce⟩,hpos⟩:=hL;have hel:∀ (a:Addr) (y:DataW H×List MemPlace),(∀ p,p ∈ y.2->sp p.block=true)->(w.cells? base a (P.cellsOf e)).bind (DataW.trod enc P w base (fun _=>true) held fuel e)=some y->(w'.cells? base a (P.cellsOf e)).bind (DataW.trod enc P w' base sp held fuel e)=some y:=by
      intro a y hy1 hy;cases hc:w.cells? base a (P.cellsOf e) with
      |none=>simp_all
      |some ces =>
       rw [hK.cells hc]
       grind
     rcases trod_slice hu h with ⟨rfl,rfl⟩|⟨a,len,cap,rfl,hb,hlc,hcm,⟨elems,ax5⟩,sV⟩
     .simp [DataW.trod,hu]
     .obtain ⟨rest,hr⟩:=sV rfl
      have hx:x=(.slice (elems.map (·.1)) (rest.map (·.1)),MemPlace.row a ((elems.length+rest.length) * P.cellsOf e)++(elems++rest).flatMap (·.2)):=by
       simp_all [DataW.trod,if_pos,Option.bind_some,if_true,E2,Option.some.injEq]
      subst hx;have hin:∀ y,y ∈ elems++rest->∀ p,p ∈ y.2->sp p.block=true:=by
       grind
      have hblk:cap - len=0\/sp a.block=true:=by
       by_cases hc0:cap=0
       .omega
       .right
        have h1:=(ia ax5).1;have h2:=(ia hr).1;simp only [List.length_range] at h1 h2;have:0<(elems.length+rest.length) * P.cellsOf e:=by
         rw [h1,h2,hce];exact Nat.mul_pos (by omega) hpos
        refine hsp (.cell a.block (a.off+0)) (M1 _ ?_);exact L6.2 ⟨0,List.mem_range.2 this,rfl⟩
      unfold DataW.trod;rw [hu];simp only;rw [if_pos ⟨hb,hlc,hcm⟩,iB (fun i y _ hy' hy=>hel _ y (hin y (by simp [hy'])) hy) ax5];have hr' :=iB (g:=fun j=>(w'.cells? base (a.add ((len+j) * P.cellsOf e)) (P.cellsOf e)).bind (DataW.trod enc P w' base sp held fuel e)) (fun i y _ hy' hy=>hel _ y (hin y (by simp [hy'])) hy) hr
      grind
    .cases hL
   .rename_i fs hu
    obtain ⟨hlen,xs,hxs,rfl⟩:=trod_struct hu h;have fields:∀ (fl:List Field) (o:Nat) (l:List CT),KH P (Lay P n) fl o l=true->∀ f,f ∈ fl->∃ l',Lay P n f.type l' =true:=by
     intro fl
     induction fl with
     |nil=>simp_all
     |cons g fl ihf =>
      grind [KH]
    have:=iB (g:=fun f=>DataW.trod enc P w' base sp held fuel f.type ((cs.drop f.offset).take (P.cellsOf f.type))) (fun f y hf hy' hy=>by
     grind) hxs
    simp_all [DataW.trod,if_pos]
   .rename_i m e hu
    obtain ⟨hlen,xs,hxs,rfl⟩:=trod_array hu h;have QE:m=0\/∃ l',Lay P n e l' =true:=by
     cases m with
     |zero=>omega
     |succ m =>
      grind [PX]
    have:=iB (g:=fun i=>DataW.trod enc P w' base sp held fuel e ((cs.drop (i * P.cellsOf e)).take (P.cellsOf e))) (fun i y hi hy' hy=>by
     grind) hxs
    simp_all [DataW.trod,if_pos]
   .cases hL
end
def isStr (P:Program)(t:TypeId):Bool:=match P.underlying t with
 |some (.struct _)=>true
 |_=>false
def asArg (agg:Bool)(ds:List Data):j3:=if agg then .agg (ds.map .d) else .d (ds.headD .br)
def oR (P:Program):List TypeId->List (List CT)->List j3->Prop
 |[],_,as=>as=[]
 |t::ts,ls,as=>∃ ds r,as=asArg (isStr P t) ds::r/\Z1 (ls.headD []) ds/\oR P ts ls.tail r
def TI (P:Program)(t:TypeId):Bool:=match P.underlying t with
 |some (.array _ _)=>true
 |_=>false
def El (P:Program):List TypeId->List (List CT)->Bool
 |[],_=>true
 |t::ts,ls=>(Lay P 20 t (ls.headD [])&& !TI P t)&&El P ts ls.tail
section
variable {H:Type} {enc:TypeId×Value->H} {P:Program} {w:World} {held:Bool}
theorem xZ {t:TypeId}{r:Reach}{b0:Nat}{v:Value}(hval:Value.okWide P w r b0 t v){td:TypeDesc}(hu:P.underlying t=some td)(htd:td= .bool\/(∃ k,td= .int k)\/td= .string\/∃ e,td= .slice e):∀ cs,v≠ .agg cs:=by
 simp_all [Value.okWide,Cell.okWide,Cell.ok]<;>grind
theorem cells_one {v u:Value}(hv:∀ cs,v≠ .agg cs)(h:v.cells.toList=[u]):u=v:=by
 simp_all [Value.cells,absurd]
def ae2 {t:TypeId}{l:List CT}(hL:Lay P 20 t l=true)(hna:TI P t=false){r:Reach}{b0:Nat}{v:Value}(hval:Value.okWide P w r b0 t v){d:DataW H}{ps:List MemPlace}(h:DataW.Trod enc P w 0 (fun _=>true) held t v d ps) :
  ∃ ds,Z1 l ds/\VR (G0 w) I0 N0 w .none (asArg (isStr P t) ds) v:=by
 obtain ⟨fuel,h⟩:=h;obtain ⟨ds,h1,h2⟩:=UM (fun _=>rfl) 20 t l hL fuel _ _ h;unfold isStr asArg;split
 .grind [Value.okWide,VR,Value.cells]
 .cases fuel with
  |zero=>simp [DataW.trod] at h
  |succ fuel =>
   have one:∀ u,v.cells.toList=[u]->u=v->VR (G0 w) I0 N0 w .none (.d (ds.headD .br)) v:=by
    rintro u hu rfl;rw [hu] at h2;cases ds with
    |nil=>simp [Cells,H8] at h2
    |cons d0 r =>
     simp_all [Cells,H8]<;>grind
   unfold Lay at hL;split at hL
   .grind [trod_bool,cells_one,xZ]
   .grind [trod_int,cells_one,xZ]
   .grind [Ba,cells_one,xZ]
   .rename_i e hu
    rcases trod_slice hu h with ⟨hb,_⟩|⟨a,len,cap,hb,_⟩
    all_goals grind [cells_one,xZ]
   all_goals simp_all [absurd,TI]
theorem MQ {r:Reach}{b0:Nat}:∀ (ts:List TypeId) (ls:List (List CT)) (vs:List Value) (ds:List (DataW H)) (ps:List MemPlace),El P ts ls=true->(∀ (j:Nat) t v,ts[j]? =some t->vs[j]? =some v->Value.okWide P w r b0 t v) ->
  DataW.TrodAll enc P w 0 (fun _=>true) held ts vs ds ps ->
  (∃ as,oR P ts ls as/\H8 (G0 w) I0 N0 w as vs)/\∀ w',Kept w w' ->∀ sp:Nat->Bool,(∀ p,p ∈ ps->sp p.block=true)->DataW.TrodAll enc P w' 0 sp held ts vs ds ps
 |[],ls,vs,ds,ps,_,_,h=>by
  obtain ⟨rfl,rfl,rfl⟩:=Go.ChangeShapes.trodAll_nil h;exact ⟨⟨[],by rfl,by simp [H8]⟩,fun _ _ _ _=>rfl⟩
 |t::ts,ls,vs,ds,ps,hL,hval,h=>by
  simp [El,c9,o8] at hL;obtain ⟨v,vs1,d,ds1,a,b,rfl,rfl,rfl,h1,h2⟩:=Go.ChangeShapes.trodAll_cons h;obtain ⟨⟨as,g1,g2⟩,g3⟩:=MQ ts ls.tail vs1 ds1 b hL.2 (fun j t' v' ht hv=>hval (j+1) t' v' (by simp_all) (by simp_all)) h2;obtain ⟨dd,e1,e2⟩:=ae2 hL.1.1 hL.1.2 (hval 0 t v rfl rfl) h1;refine ⟨⟨asArg (isStr P t) dd::as,?_,?_⟩,fun w' hK sp hsp=> ?_⟩
  .grind [oR]
  .grind [H8]
  .obtain ⟨fuel,hf⟩:=h1
   exact ⟨a,b,⟨fuel,RG hK 20 t _ hL.1.1 fuel _ _ (fun p hp=>hsp p (by simp_all)) hf⟩,g3 w' hK sp (fun p hp=>hsp p (by simp [hp])),rfl⟩
end
open Go.ChangeShapes Go.WideShapes Go.ChangeAt Go.RowKit
end Go.Abs
namespace Go.Abs
def N7 (A:Prog)(n:Nat)(l:F2)(b:Nat):Env:=⟨call A n,A.prom,A.mode,A.idle,l,b⟩
def Ex (A:Prog)(l:F2)(b:Nat)(c:s4)(st:St)(Q:F6->St->Prop):Prop :=
 ∃ x s N,Q x s/\∀ n,N<=n->exec (N7 A n l b) n c st=some (x,s)
def Rn (A:Prog)(l:F2)(b:Nat)(ops:List p9)(draw:Bool)(T:List j3)(H:q8)(Q:List j3->q8->List j3->Prop):Prop :=
 ∃ r N,Q r.T r.H r.L/\∀ n,N<=n->Q5 (N7 A n l b) ops draw T H=some r
section
variable {A:Prog} {l:F2} {b:Nat}
theorem Ex.mono {c:s4}{st:St}{Q R:F6->St->Prop}(h:Ex A l b c st Q)(k:∀ x s,Q x s->R x s):Ex A l b c st R:=by
 obtain ⟨x,s,N,hq,h⟩:=h;exact ⟨x,s,N,k x s hq,h⟩
theorem Ex.skip {st:St}{Q:F6->St->Prop}(h:Q .normal st):Ex A l b .skip st Q:=⟨_,_,0,h,fun _ _=>rfl⟩
theorem Ex.exit {id:Nat}{st:St}{Q:F6->St->Prop}(h:Q (.exit id) st):Ex A l b (.exit id) st Q:=⟨_,_,0,h,fun _ _=>rfl⟩
theorem Ex.ret {st:St}{Q:F6->St->Prop}(h:Q .ret st):Ex A l b .ret st Q:=⟨_,_,0,h,fun _ _=>rfl⟩
theorem Ex.region {ops:List p9}{draw:Bool}{T:List j3}{H:q8}{Q:F6->St->Prop}(h:Rn A l b ops draw T H fun T' H' _=>Q .normal ⟨T',H'⟩):Ex A l b (.region ops draw) ⟨T,H⟩ Q:=by
 obtain ⟨r,N,hq,h⟩:=h;refine ⟨_,_,N,hq,fun n hn=> ?_⟩;simp only [exec,h n hn]
def zA (Q:F6->St->Prop)(go:St->Prop):F6->St->Prop
 | .normal,s=>go s
 | .exit i,s=>Q (.exit i) s
 | .ret,s=>Q .ret s
theorem Ex.seq {c d:s4}{st:St}{Q:F6->St->Prop}(h:Ex A l b c st (zA Q fun s=>Ex A l b d s Q)):Ex A l b (.seq c d) st Q:=by
 obtain ⟨x,s,N,hq,h⟩:=h;cases x with
 |normal =>
  obtain ⟨x2,s2,N2,WR,h2⟩:=hq;refine ⟨x2,s2,max N N2,WR,fun n hn=> ?_⟩;simp only [exec,h n (by omega)];exact h2 n (by omega)
 |exit i=>exact ⟨_,_,N,hq,fun n hn=>by simp only [exec,h n hn]⟩
 |ret=>exact ⟨_,_,N,hq,fun n hn=>by simp only [exec,h n hn]⟩
def FV (id:Nat)(Q:F6->St->Prop):F6->St->Prop
 | .exit i,s=>if i=id then Q .normal s else Q (.exit i) s
 | .normal,s=>Q .normal s
 | .ret,s=>Q .ret s
theorem Ex.block {id:Nat}{c:s4}{st:St}{Q:F6->St->Prop}(h:Ex A l b c st (FV id Q)):Ex A l b (.block id c) st Q:=by
 obtain ⟨x,s,N,hq,h⟩:=h;cases x with
 |normal=>exact ⟨_,_,N,hq,fun n hn=>by simp only [exec,h n hn]⟩
 |ret=>exact ⟨_,_,N,hq,fun n hn=>by simp only [exec,h n hn]⟩
 |exit i =>
  simp only [FV] at hq;split at hq
  .rename_i hi
   exact ⟨_,_,N,hq,fun n hn=>by simp only [exec,h n hn];rw [if_pos hi]⟩
  .rename_i hi
   exact ⟨_,_,N,hq,fun n hn=>by simp only [exec,h n hn];rw [if_neg hi]⟩
theorem Ex.test {ops:List p9}{draw:Bool}{c:u9}{d e:s4}{T:List j3}{H:q8}{Q:F6->St->Prop}
  (h:Rn A l b ops draw T H fun T' H' L=>∃ t,G9 T' L c= .d (.bool t)/\(t=true->Ex A l b d ⟨T',H'⟩ Q)/\(t=false->Ex A l b e ⟨T',H'⟩ Q)):Ex A l b (.test ops draw c d e) ⟨T,H⟩ Q:=by
 obtain ⟨r,N,⟨t,h1,h2,h3⟩,h⟩:=h;cases t with
 |true =>
  obtain ⟨x,s,N2,hq,k⟩:=h2 rfl;exact ⟨x,s,max N N2,hq,fun n hn=>by simp only [exec,h n (by omega),h1];exact k n (by omega)⟩
 |false =>
  obtain ⟨x,s,N2,hq,k⟩:=h3 rfl;exact ⟨x,s,max N N2,hq,fun n hn=>by simp only [exec,h n (by omega),h1];exact k n (by omega)⟩
theorem Ex.cond {c:u9}{d e:s4}{st:St}{t:Bool}{Q:F6->St->Prop}(h1:G9 st.T [] c= .d (.bool t))
  (h2:t=true->Ex A l b d st Q) (h3:t=false->Ex A l b e st Q):Ex A l b (.cond c d e) st Q:=by
 cases t with
 |true =>
  obtain ⟨x,s,N2,hq,k⟩:=h2 rfl;exact ⟨x,s,N2,hq,fun n hn=>by simp only [exec,h1];exact k n hn⟩
 |false =>
  obtain ⟨x,s,N2,hq,k⟩:=h3 rfl;exact ⟨x,s,N2,hq,fun n hn=>by simp only [exec,h1];exact k n hn⟩
theorem Ex.loop {mask:List Bool}{body:s4}{st:St}{Q:F6->St->Prop}(Inv:Nat->St->Prop)
  (hb:∀ k s,Inv k s->Ex A l b body (clean mask l.strict st.H.length s) (zA Q fun s' =>∃ k',k' <k/\Inv k' s')) {k:Nat} (h:Inv k st):Ex A l b (.loop mask body) st Q:=by
 have main:∀ k s,Inv k s->∃ x s2 N,Q x s2/\∀ n,N<=n->∀ j,N<=j->gp (exec (N7 A n l b) n body) mask l.strict st.H.length j s=some (x,s2):=by
  intro k
  induction k using Nat.strongRecOn with
  |_ k ih =>
   intro s hs;obtain ⟨x,s1,N,hq,h1⟩:=hb k s hs;cases x with
   |normal =>
    obtain ⟨k',hk,hi⟩:=hq;obtain ⟨x,s2,N2,WR,h2⟩:=ih k' hk s1 hi;refine ⟨x,s2,max N N2+1,WR,fun n hn j hj=> ?_⟩;obtain ⟨j,rfl⟩:∃ j',j=j' +1:=⟨j - 1,by omega⟩;simp only [gp,h1 n (by omega)];exact h2 n (by omega) j (by omega)
   |exit i =>
    refine ⟨_,_,N+1,hq,fun n hn j hj=> ?_⟩;obtain ⟨j,rfl⟩:∃ j',j=j' +1:=⟨j - 1,by omega⟩;simp only [gp,h1 n (by omega)]
   |ret =>
    refine ⟨_,_,N+1,hq,fun n hn j hj=> ?_⟩;obtain ⟨j,rfl⟩:∃ j',j=j' +1:=⟨j - 1,by omega⟩;simp only [gp,h1 n (by omega)]
 obtain ⟨x,s2,N,hq,h⟩:=main k st h;exact ⟨x,s2,N,hq,fun n hn=>by simp only [exec];exact h n hn n hn⟩
def Pf (A:Prog)(f:FuncId)(args:List j3)(v:j3):Prop :=
 ∃ N,∀ n,N<=n->call A n f args [] Y8=some (v,[])
def Pf.aB7 {f:FuncId}{af:s8}{args:List j3}{v:j3}(T:List j3)(hp:A.eF f=none)(hf:A.fn f=some af)(hn:args.length=af.nparams)
  (hT:args++j4 (af.names.length - args.length) .any=T) (h:Ex A Y8 0 af.body ⟨T,[]⟩ fun x s=>iP af 0 (some (x,s))=some (v,[])):Pf A f args v:=by
 subst hT;obtain ⟨x,s,N,hq,h⟩:=h;refine ⟨N+1,fun n hn' => ?_⟩;obtain ⟨n,rfl⟩:∃ j,n=j+1:=⟨n - 1,by omega⟩;rw [Et hp hf,sB hn];have:=h n (by omega);simp only [N7] at this;simp only [List.length_nil];rw [this,hq]
def GJ (H:q8)(strict k:Nat):E9 H strict k 0=0:=by
 cases k<;>simp [E9]
def fP {E:Env}{k:Nat}{f:FuncId}{args:List j3}{st:F4}{v:j3}(gI:E.prom f=false)(hm:E.mode f=1)(hb:B8 args=0)
  (hc:E.cf f args [] Y8=some (v,[])):D7 E k f args st=some (put st k v):=by
 simp only [D7,gI,hm,hb,GJ];have h0:D8 st.H E.lim.strict 0=0:=by simp [D8]
 have h1:E.cf f args [] ⟨0,0,0,0⟩=some (v,[]):=hc;simp [h0,h1,R7]
def rD (ops:List p9):Bool:=ops.all fun i=> !i.op.B4&&i.bT.all fun e=>decide (e<ops.length)
end
theorem wrap_small {n:Int}(h: -9223372036854775808<=n)(h2:n<9223372036854775808):IntKind.wrap .i64 n=n:=by
 grind [IntKind.wrap,IntKind.signed,IntKind.bits]
section
variable {A:Prog} {l:F2} {b:Nat}
def z6.Yv:z6->Bool
 | .load _ _=>true
 | .lookup .. =>true
 | .Fe _=>true
 |_=>false
def uB:List p9->Nat
 |[]=>0
 |i::is=>max (if i.op.Yv then (i.bT.map (·+1)).foldl max 0 else 0) (uB is)
theorem LY {ρ:u9->j3}{H:q8}{op:z6}{v:j3}{rs:List Nat}(h:o6 ρ H op=some (v,rs))(hr:op.Yv=false):rs=[]:=by
 cases op<;>simp [z6.Yv] at hr<;>simp [o6] at h<;>repeat' split at h
 all_goals simp_all
theorem AO {E:Env}{l6:List p9}{u5:Option Nat}{k:Nat}{i:p9}{st st' :F4}{rs:List Nat}(h:y8 E l6 u5 k i st=some (st',rs))(hr:i.op.Yv=false):rs=[]:=by
 simp [y8] at h;split at h
 .split at h
  .rename_i st1 rs1 h1
   split at h
   .simp [E5] at h1
    split at h1
    .grind
    grind [Option.some.injEq,Prod.mk.injEq,LY]
   .cases h
  .cases h
 all_goals grind
theorem sQ:∀ (l:List Nat) (a:Nat),a<=l.foldl max a
 |[],_=>o5 _
 |x::l,a=>B5 (Nat.le_max_left a x) (sQ l (max a x))
theorem qC:∀ (l:List Nat) (a x:Nat),x ∈ l->x<=l.foldl max a
 |y::l,a,x,h=>by
  rcases y7.1 h with rfl|h
  .grind [B5,Nat.le_max_right,sQ]
  .exact qC l _ x h
theorem yK:∀ {l6:List p9} {i:p9} {e:Nat},i ∈ l6->i.op.Yv=true->e ∈ i.bT->e<uB l6
 |j::l6,i,e,h,hr,he=>by
  simp only [uB]
  rcases y7.1 h with rfl|h
  .have:=qC (i.bT.map (·+1)) 0 (e+1) (L6.2 ⟨e,he,rfl⟩)
   rw [hr,if_pos rfl];omega
  .have:=yK h hr he
   omega
def Rx (A:Prog)(l:F2)(b:Nat)(dr:Bool)(l6 ops:List p9)(T:List j3)(H:q8)(pre:List j3)(p6:List Touch)(Q:List j3->q8->List j3->Prop):Prop :=
 ∃ r N,Q r.T r.H r.L/\∀ n,N<=n->if dr=true then ∀ na,∃ lg:List kg,R9 (N7 A n l b) l6 ops pre.length na ⟨T,H,pre++j4 ops.length .any,p6⟩=some (r,lg)/\lg.length=ops.length/\∀ k e,lg[k]? =some e->(pre.length+k<uB l6->∀ rs,K4 e.Hp rs=false)/\∀ i,ops[k]? =some i->i.op.Yv=false->e.reads=[]
  else eG (N7 A n l b) l6 ops pre.length ⟨T,H,pre++j4 ops.length .any,p6⟩=some r
variable {dr:Bool} {l6 ops:List p9} {T:List j3} {H:q8} {pre:List j3} {p6:List Touch} {Q:List j3->q8->List j3->Prop}
def Rx.nil (h:Q T H pre):Rx A l b dr l6 [] T H pre p6 Q:=by
 refine ⟨⟨T,H,pre,p6⟩,0,h,fun n _=> ?_⟩;simp_all [eG,R9]
def Rx.IY {i:p9}{T' pre' :List j3}{H' :q8}{v:j3}{eW :List Touch}{rs:List Nat}{N1:Nat}(hl:pre'.length=pre.length)
  (hk:G8 ⟨T,H,pre++ .any::j4 ops.length .any,p6⟩ i.op=false) (ha:i.op.B4=false)
  (h:∀ n,N1<=n->y8 (N7 A n l b) l6 none pre.length i ⟨T,H,pre++ .any::j4 ops.length .any,p6⟩=some (⟨T',H',pre' ++v::j4 ops.length .any,eW⟩,rs))
  (ht:pre.length<uB l6->∀ rs,K4 (eW.take (eW.length - p6.length)) rs=false) (h2:Rx A l b dr l6 ops T' H' (pre' ++[v]) eW Q):Rx A l b dr l6 (i::ops) T H pre p6 Q:=by
 obtain ⟨r,N,hq,h2⟩:=h2;refine ⟨r,max N N1,hq,fun n hn=> ?_⟩;have h3:=h2 n (by omega);have h4:=h n (by omega);cases dr with
 |false =>
  simp_all [j5,if_false,List.length_cons,List.replicate_succ,eG]
 |true =>
  simp [List.length_cons,List.replicate_succ] at h3 ⊢;intro na;obtain ⟨lg,e1,e2,e3⟩:=h3 na;refine ⟨dN (N7 A n l b) i none ⟨T,H,pre++ .any::j4 ops.length .any,p6⟩ ⟨T',H',pre' ++v::j4 ops.length .any,eW⟩ rs::lg,?_,by simp [e2],?_⟩
  .simp_all [R9,jD,Bool.false_and,j5,if_false]
  .intro k e he
   cases k with
   |zero =>
    grind [List.getElem?_cons_zero,Option.some.injEq,dN,lZ,AO]
   |succ k =>
    grind
def Rx.stepG {i:p9}{T' pre' :List j3}{H' :q8}{v:j3}{eW :List Touch}{rs:List Nat}{N1:Nat}(hl:pre'.length=pre.length)
  (hk:G8 ⟨T,H,pre++ .any::j4 ops.length .any,p6⟩ i.op=false) (ha:i.op.B4=false)
  (h:∀ n,N1<=n->y8 (N7 A n l b) l6 none pre.length i ⟨T,H,pre++ .any::j4 ops.length .any,p6⟩=some (⟨T',H',pre' ++v::j4 ops.length .any,eW⟩,rs))
  (ht:∀ rs,K4 (eW.take (eW.length - p6.length)) rs=false) (h2:Rx A l b dr l6 ops T' H' (pre' ++[v]) eW Q):Rx A l b dr l6 (i::ops) T H pre p6 Q :=
 Rx.IY hl hk ha h (fun _=>ht) h2
def Rx.step {i:p9}{T' :List j3}{H' :q8}{v:j3}{eW :List Touch}{rs:List Nat}{N1:Nat}(hk:G8 ⟨T,H,pre++ .any::j4 ops.length .any,p6⟩ i.op=false)(ha:i.op.B4=false)
  (h:∀ n,N1<=n->y8 (N7 A n l b) l6 none pre.length i ⟨T,H,pre++ .any::j4 ops.length .any,p6⟩=some (⟨T',H',pre++v::j4 ops.length .any,eW⟩,rs))
  (ht:∀ rs,K4 (eW.take (eW.length - p6.length)) rs=false) (h2:Rx A l b dr l6 ops T' H' (pre++[v]) eW Q):Rx A l b dr l6 (i::ops) T H pre p6 Q :=
 Rx.stepG rfl hk ha h ht h2
def opv (T pre:List j3):u9->Option j3
 | .slot s=>T[s]?
 | .loc j=>pre[j]?
 | .const v=>some v
def Op (T pre:List j3)(x:u9)(v:j3):Prop:=opv T pre x=some v/\v.I7=v
theorem Op.G9 {x:u9}{v:j3}(h:Op T pre x v)(m:Nat):G9 T (pre++ .any::j4 m .any) x=v:=by
 obtain ⟨h1,h2⟩:=h;cases x with
 |slot s=>simp_all [opv,Abs.G9]
 |loc j =>
  grind [opv,s5,H6,Abs.G9,q7]
 |const u=>simp_all [opv,Option.some.injEq,Abs.G9,SE]
theorem I5 (pre:List j3)(a v:j3)(r:List j3):(pre++a::r).set pre.length v=pre++v::r:=by
 simp
def Rx.pure {op:z6}{u:List Nat}{v:j3}{rs:List Nat}(hE:op.E3=false)(hp:∀ m,o6 (Abs.G9 T (pre++ .any::j4 m .any)) H op=some (v,rs))
  (h2:Rx A l b dr l6 ops T H (pre++[v]) p6 Q):Rx A l b dr l6 (⟨op,none,none,u⟩::ops) T H pre p6 Q:=by
 have hm:∀ x,op≠ .R2 x:=by
  rintro x rfl;simp_all [o6]
 refine Rx.step (N1:=0) (rs:=rs) ?_ ?_ ?_ ?_ h2
 .cases op<;>first|rfl|grind [z6.E3]
 .cases op<;>first|rfl|(simp [z6.E3] at hE)|skip
  rename_i ob;cases ob
  .rfl
  simp_all
 .intro n _
  have h3:E5 (N7 A n l b) l6 none pre.length op ⟨T,H,pre++ .any::j4 ops.length .any,p6⟩=some (⟨T,H,pre++v::j4 ops.length .any,p6⟩,rs):=by
   simp_all [absurd,E5,j5,if_false,put,I5,z6.E3]
  grind [y8,z7,u7,G4]
 simp_all [K4]
theorem Op.E1 {x:u9}{v:j3}(h:Op T pre x v)(m:Nat):Abs.E1 ⟨T,H,pre++ .any::j4 m .any,p6⟩ x=(v,⟨T,H,pre++ .any::j4 m .any,p6⟩):=by
 have hr:=h.G9 m;cases x with
 |slot s=>grind [Abs.E1]
 |loc j =>
  obtain ⟨h1,h2⟩:=h
  grind [opv,s5,H6,Abs.E1,q7,j3.I7]
 |const u =>
  obtain ⟨h1,h2⟩:=h;simp [opv,Option.some.injEq] at h1;subst h1;rfl
theorem Rx.R2 {x:u9}{u:List Nat}{v:j3}(hx:Op T pre x v)(h2:Rx A l b dr l6 ops T H (pre++[v]) p6 Q):Rx A l b dr l6 (⟨.R2 x,none,none,u⟩::ops) T H pre p6 Q:=by
 refine Rx.step (N1:=0) (rs:=[]) rfl rfl (fun n _=> ?_) (fun rs=>by simp [K4]) h2;simp [y8,z7,E5,z6.E3,j5,if_false,hx.E1,put,I5,u7,G4]
def Rx.aA8 {x:u9}{u:List Nat}{v:j3}{s:Nat}(hx:Op T pre x v)(hs:T[s]?.isSome=true)(h2:Rx A l b dr l6 ops (T.set s v) H (pre++[v]) (.slot s::p6) Q) :
  Rx A l b dr l6 (⟨.R2 x,some s,none,u⟩::ops) T H pre p6 Q:=by
 refine Rx.step (N1:=0) (rs:=[]) rfl rfl (fun n _=> ?_) (fun rs=> ?_) h2
 .have hv:=hx.2
  have hs:s<T.length:=by
   simp_all
  simp only [y8,z7,E5,z6.E3,j5,if_false,hx.E1,put,I5,u7,G4,hs,if_true];have h3:Abs.E1 ⟨T,H,pre++v::j4 ops.length .any,p6⟩ (.loc pre.length)=(v,⟨T,H,pre++v::j4 ops.length .any,p6⟩):=by
   grind [Abs.E1,j3.I7,Abs.G9]
  rw [h3]
 simp_all [K4,Touch.J3]
def Rx.aj5 {s:Nat}{u:List Nat}{z n:Nat}{cs:List Data}(hx:T[s]? =some (.own z n cs))(h2:Rx A l b dr l6 ops T H (pre++[.d (.slice n cs)]) p6 Q):Rx A l b dr l6 (⟨.R2 (.slot s),none,none,u⟩::ops) T H pre p6 Q:=by
 refine Rx.step (N1:=0) (rs:=[]) rfl rfl (fun n _=> ?_) (fun rs=>by simp [K4]) h2;simp_all [y8,z7,E5,z6.E3,j5,if_false,Abs.E1,put,I5,u7,G4,Abs.G9,j3.I7]
def fK (s:Nat)(p6:List Touch)(rs:List Nat):K4 ((Touch.slot s::p6).take ((Touch.slot s::p6).length - p6.length)) rs=false:=by
 simp_all [K4,Touch.J3]
theorem Rx.append {j s sz bytes:Nat}{y:u9}{u u' :List Nat}{d' :Option Nat}{g' :Option (Nat×Bool)}{n' len m:Nat}{cs' cells new:List Data}{vy:j3}{cs:List j3}
  (hj:pre[j]? =some (.d (.slice n' cs'))) (ha:l6[j]? =some ⟨.R2 (.slot s),d',g',u'⟩) (ht:p6.any (Touch.T4 s)=false) (hT:T[s]? =some (.own sz len cells))
  (hy:∀ m,Abs.G9 T (pre++ .any::j4 m .any) y=vy) (hc:P6 H sz vy=some (m,cs)) (hd:M5 cs=some new) (hr:roomFor (len+m) bytes=true) (h0:0<sz)
  (h2:Rx A l b dr l6 ops (T.set s (.d (.slice len cells))) H (pre++[.own sz (len+m) (cells++new)]) (.slot s::p6) Q):Rx A l b dr l6 (⟨.append sz bytes false (.loc j) y,none,none,u⟩::ops) T H pre p6 Q:=by
 have hjl:j<pre.length:=by
  grind
 have hL:∀ r:List j3,(pre++ .any::r)[j]? =some (.d (.slice n' cs')):=fun r=>by grind
 have XM:Abs.G9 T (pre++ .any::j4 ops.length .any) (.loc j)= .d (.slice n' cs'):=by simp [Abs.G9,hL,j3.I7]
 refine Rx.step (N1:=0) (rs:=[]) (by simp_all [G8]) rfl (fun n _=> ?_) (fK s p6) h2;simp_all [y8,z7,E5,z6.E3,E7,K8,O7,W6,put,u7,G4]<;>grind
def Rx.TZ {j s:Nat}{u:List Nat}{z n0:Nat}{cs:List Data}(hj:pre[j]? =some (.own z n0 cs))(hs:T[s]?.isSome=true)
  (h2:Rx A l b dr l6 ops (T.set s (.own z n0 cs)) H (pre.set j (.d (.slice n0 cs))++[.d (.slice n0 cs)]) (.slot s::p6) Q):Rx A l b dr l6 (⟨.R2 (.loc j),some s,none,u⟩::ops) T H pre p6 Q:=by
 have hjl:j<pre.length:=by
  grind
 have hs:s<T.length:=by
  simp_all
 refine Rx.stepG (N1:=0) (rs:=[]) (by simp) rfl rfl (fun n _=> ?_) (fK s p6) h2;have hL:∀ r:List j3,(pre++ .any::r)[j]? =some (.own z n0 cs):=fun r=>by grind
 have h4:∀ (a v:j3) (r:List j3),(pre.set j (.d (.slice n0 cs))++a::r).set pre.length v=pre.set j (.d (.slice n0 cs))++v::r:=fun a v r=>by simp_all
 simp_all [y8,z7,E5,z6.E3,j5,if_false,Abs.E1,put,u7,G4,if_true]
def Rn.Yl {T:List j3}{H:q8}(h:Rx A l b false ops ops T H [] [] Q):Rn A l b ops false T H Q:=by
 obtain ⟨r,N,hq,h⟩:=h;exact ⟨r,N,hq,fun n hn=>by simp_all [Q5]⟩
def Rn.Yk {T:List j3}{H:q8}(hp:rD ops=true)(h:Rx A l b true ops ops T H [] [] Q):Rn A l b ops true T H Q:=by
 obtain ⟨r,N,hq,h⟩:=h;refine ⟨r,N,hq,fun n hn=> ?_⟩;have h1:=h n hn;obtain ⟨lg,e1,e2,e3⟩:=h1 H.length;simp only [rD,L1,c9,o8,decide_eq_true_eq] at hp;have zD:aB ops=[]:=by
  simp_all [aB,List.map_eq_nil_iff,List.filter_eq_nil_iff,Bool.not_eq_true]
 have vZ:slotsOf ops=[]:=by
  simp_all [slotsOf,List.filterMap_eq_nil_iff]
 have ay2:wu ops lg=true:=by
  simp only [wu,L1];rintro ⟨i,le⟩ BY e he;obtain ⟨j,hj,hji⟩:=List.getElem_of_mem BY;simp [List.length_zip] at hj;have hj1:j<ops.length:=by omega
  have hj2:j<lg.length:=by omega
  simp [List.getElem_zip] at hji;obtain ⟨rfl,rfl⟩:=hji;have hi:ops[j] ∈ ops:=List.getElem_mem hj1;have hlt:=(hp _ hi).2 e he;have this:e<lg.length:=by omega
  have hmk:ops[j].op.makes=false:=by
   have:=(hp _ hi).1;cases ho:ops[j].op<;>rw [ho] at this<;>first|rfl|exact this
  cases hr:ops[j].op.Yv with
  |true =>
   have h5:=(e3 e _ (l5 this)).1 (by simpa using yK hi hr he);simp_all
  |false =>
   have h5:=(e3 j _ (l5 hj2)).2 _ (l5 hj1) hr
   grind [K4]
 simp_all [List.length_nil,List.nil_append,Q5,if_true,List.append_nil]
theorem Rx.call {f:FuncId}{xs:List u9}{u:List Nat}{v:j3}{args:List j3}(gI:A.prom f=false)(hm:A.mode f=1)(ha:∀ m,xs.map (Abs.G9 T (pre++ .any::j4 m .any))=args)
  (hb:B8 args=0) (hc:Pf A f args v) (h2:Rx A l b dr l6 ops T H (pre++[v]) p6 Q):Rx A l b dr l6 (⟨.call f xs,none,none,u⟩::ops) T H pre p6 Q:=by
 obtain ⟨M,hc⟩:=hc;refine Rx.step (N1:=M) (rs:=[]) rfl rfl (fun n hn=> ?_) (fun rs=>by simp [K4]) h2;have h3:D7 (N7 A n l b) pre.length f args ⟨T,H,pre++ .any::j4 ops.length .any,p6⟩=some (put ⟨T,H,pre++ .any::j4 ops.length .any,p6⟩ pre.length v) :=
  fP gI hm hb (hc n hn)
 simp_all [y8,z7,E5,z6.E3,if_true,E7,u7,G4,put,I5]
def Er {o:BinOp}{c d e:Int}(h:o= .add/\c+d=e\/o= .sub/\c - d=e)(h0: -9223372036854775808<=e)(h1:e<9223372036854775808):J7 o (.int .i64 c) (.int .i64 d)=some (.int .i64 e):=by
 grind [J7,U4,aC,wrap_small]
end
abbrev L0:=List UInt8
def A5 {α:Type}(f:α->List Data)(l:List α):Data:= .slice l.length (l.flatMap f)
def num (n:Int):Data:= .int .i64 n
structure Y4 where
 op:Int
 kind:Int
 int:Int
 text:L0
 col:Int
def Y4.enc (t:Y4):List Data:=[num t.op,num t.kind,num t.int,.str t.text,num t.col]
structure aJ where
 name:L0
 type:Int
 space:L0
 refs:L0
 F7:List Int
 eZ:Int
 ji:Int
def aJ.enc (c:aJ):List Data:=[.str c.name,num c.type,.str c.space,.str c.refs,A5 (fun n=>[num n]) c.F7,num c.eZ,num c.ji]
structure mH where
 name:L0
 p8:List aJ
 erase:Int
 aH:Int
def mH.enc (t:mH):List Data:=[.str t.name,A5 aJ.enc t.p8,num t.erase,num t.aH]
structure Gp where
 name:L0
 expr:List Y4
def Gp.enc (x:Gp):List Data:=[.str x.name,A5 Y4.enc x.expr]
structure BM where
 name:L0
 func:Int
 expr:List Y4
def BM.enc (x:BM):List Data:=[.str x.name,num x.func,A5 Y4.enc x.expr]
structure Vw where
 name:L0
 kind:Int
 left:L0
 right:L0
 on:List (Int×Int)
 wh:List Y4
 items:List Gp
 distinct:Bool
 D2:List BM
def Vw.enc (v:Vw):List Data:=[.str v.name,num v.kind,.str v.left,.str v.right,A5 (fun p=>[num p.1,num p.2]) v.on,A5 Y4.enc v.wh,A5 Gp.enc v.items,.bool v.distinct,A5 BM.enc v.D2]
structure PU where
 name:L0
 source:L0
 col:Int
def PU.enc (x:PU):List Data:=[.str x.name,.str x.source,num x.col]
structure Qa where
 name:L0
 source:L0
 col:Int
 kind:Int
 width:Int
 depth:Int
def Qa.enc (x:Qa):List Data:=[.str x.name,.str x.source,num x.col,num x.kind,num x.width,num x.depth]
structure PS where
 name:L0
 source:L0
 col:Int
 ttl:Int
def PS.enc (x:PS):List Data:=[.str x.name,.str x.source,num x.col,num x.ttl]
structure PZ where
 name:L0
 source:L0
 thr:Int
def PZ.enc (x:PZ):List Data:=[.str x.name,.str x.source,num x.thr]
structure Qb where
 name:L0
 table:L0
def Qb.enc (x:Qb):List Data:=[.str x.name,.str x.table]
structure PO where
 name:L0
 tables:List L0
 keep:Int
def PO.enc (x:PO):List Data:=[.str x.name,A5 (fun s=>[.str s]) x.tables,num x.keep]
structure y4 where
 o7:List mH
 views:List Vw
 idxs:List PU
 qm:List Qa
 qf:List PS
 ql:List PZ
 qn:List Qb
 qd:List PO
def y4.enc (c:y4):List Data:=[A5 mH.enc c.o7,A5 Vw.enc c.views,A5 PU.enc c.idxs,A5 Qa.enc c.qm,A5 PS.enc c.qf,A5 PZ.enc c.ql,A5 Qb.enc c.qn,A5 PO.enc c.qd]
def ctI:CT:= .int .i64
def xJ (n:Int):Prop:= -9223372036854775808<=n/\n<9223372036854775808
def Lj {α:Type}{e:List CT}{enc:α->List Data}{ok:α->Prop}(hr:∀ r,Z1 e r->∃ a,r=enc a/\ok a){d:Data}(h:Fits (.slice e) d) :
  ∃ l:List α,d=A5 enc l/\l.length<=maxLen/\∀ a,a ∈ l->ok a:=by
 simp only [Fits] at h;obtain ⟨rows,rfl,hl,hall⟩:=h;have:∀ rows:List (List Data),(∀ r,r ∈ rows->Z1 e r)->∃ l:List α,l.length=rows.length/\rows.flatten=l.flatMap enc/\∀ a,a ∈ l->ok a:=by
  intro rows
  induction rows with
  |nil=>intro _;exact ⟨[],rfl,rfl,by simp⟩
  |cons r rs ih =>
   intro h;obtain ⟨a,ha,hok⟩:=hr r (h r (by simp));obtain ⟨l,h1,h2,h3⟩:=ih (fun r hr' =>h r (by simp [hr']));refine ⟨a::l,by simp [h1],by simp [h2,ha],?_⟩;intro b hb
   rcases y7.1 hb with rfl|hb
   .exact hok
   .exact h3 b hb
 obtain ⟨l,h1,h2,h3⟩:=this rows hall;exact ⟨l,by rw [A5,h1,h2],by omega,h3⟩
def SY {d:Data}(h:Fits ctI d):∃ n,d=num n/\xJ n:=by
 simp only [ctI,Fits] at h;obtain ⟨n,rfl,hw⟩:=h;refine ⟨n,rfl,?_⟩;simp [Lit.wf] at hw;have hm:IntKind.i64.min= -9223372036854775808:=rfl;rw [hm] at hw;unfold xJ;omega
structure Y4.ok (x:Y4):Prop where
 op:xJ x.op
 kind:xJ x.kind
 int:xJ x.int
 text:x.text.length<=maxLen
 col:xJ x.col
structure aJ.ok (x:aJ):Prop where
 name:x.name.length<=maxLen
 type:xJ x.type
 space:x.space.length<=maxLen
 refs:x.refs.length<=maxLen
 F7:x.F7.length<=maxLen/\∀ a,a ∈ x.F7->xJ a
 eZ:xJ x.eZ
 ji:xJ x.ji
structure mH.ok (x:mH):Prop where
 name:x.name.length<=maxLen
 p8:x.p8.length<=maxLen/\∀ a,a ∈ x.p8->a.ok
 erase:xJ x.erase
 aH:xJ x.aH
structure Gp.ok (x:Gp):Prop where
 name:x.name.length<=maxLen
 expr:x.expr.length<=maxLen/\∀ a,a ∈ x.expr->a.ok
structure BM.ok (x:BM):Prop where
 name:x.name.length<=maxLen
 func:xJ x.func
 expr:x.expr.length<=maxLen/\∀ a,a ∈ x.expr->a.ok
structure Vw.ok (x:Vw):Prop where
 name:x.name.length<=maxLen
 kind:xJ x.kind
 left:x.left.length<=maxLen
 right:x.right.length<=maxLen
 on:x.on.length<=maxLen/\∀ a,a ∈ x.on->xJ a.1/\xJ a.2
 wh:x.wh.length<=maxLen/\∀ a,a ∈ x.wh->a.ok
 items:x.items.length<=maxLen/\∀ a,a ∈ x.items->a.ok
 distinct:True
 D2:x.D2.length<=maxLen/\∀ a,a ∈ x.D2->a.ok
structure PU.ok (x:PU):Prop where
 name:x.name.length<=maxLen
 source:x.source.length<=maxLen
 col:xJ x.col
structure Qa.ok (x:Qa):Prop where
 name:x.name.length<=maxLen
 source:x.source.length<=maxLen
 col:xJ x.col
 kind:xJ x.kind
 width:xJ x.width
 depth:xJ x.depth
structure PS.ok (x:PS):Prop where
 name:x.name.length<=maxLen
 source:x.source.length<=maxLen
 col:xJ x.col
 ttl:xJ x.ttl
structure PZ.ok (x:PZ):Prop where
 name:x.name.length<=maxLen
 source:x.source.length<=maxLen
 thr:xJ x.thr
structure Qb.ok (x:Qb):Prop where
 name:x.name.length<=maxLen
 table:x.table.length<=maxLen
structure PO.ok (x:PO):Prop where
 name:x.name.length<=maxLen
 tables:x.tables.length<=maxLen/\∀ a,a ∈ x.tables->a.length<=maxLen
 keep:xJ x.keep
structure y4.ok (x:y4):Prop where
 o7:x.o7.length<=maxLen/\∀ a,a ∈ x.o7->a.ok
 views:x.views.length<=maxLen/\∀ a,a ∈ x.views->a.ok
 idxs:x.idxs.length<=maxLen/\∀ a,a ∈ x.idxs->a.ok
 qm:x.qm.length<=maxLen/\∀ a,a ∈ x.qm->a.ok
 qf:x.qf.length<=maxLen/\∀ a,a ∈ x.qf->a.ok
 ql:x.ql.length<=maxLen/\∀ a,a ∈ x.ql->a.ok
 qn:x.qn.length<=maxLen/\∀ a,a ∈ x.qn->a.ok
 qd:x.qd.length<=maxLen/\∀ a,a ∈ x.qd->a.ok
section
variable {A:Prog} {l:F2} {b:Nat}
variable {dr:Bool} {l6 ops:List p9} {T:List j3} {H:q8} {pre:List j3} {p6:List Touch} {Q:List j3->q8->List j3->Prop}
theorem uT {j:Nat}{v:j3}(h:pre[j]? =some v)(r:List j3):(pre++r)[j]? =some v:=by
 have hj:j<pre.length:=by
  rcases s5 j pre.length with hj' |hj'
  .exact hj'
  .rw [H6 hj'] at h;cases h
 rw [q7 hj,h]
def Rx.YL {op:z6}{j:Nat}{want w:Bool}{u:List Nat}(h:pre[j]? =some (.d (.bool w)))(hw:(w==want)=false)(hk:G8 ⟨T,H,pre++ .any::j4 ops.length .any,p6⟩ op=false)(ha:op.B4=false)
  (h2:Rx A l b dr l6 ops T H (pre++[.tuple []]) p6 Q):Rx A l b dr l6 (⟨op,none,some (j,want),u⟩::ops) T H pre p6 Q:=by
 refine Rx.step (N1:=0) (rs:=[]) hk ha (fun n _=> ?_) (fun rs=>by simp [K4]) h2;simp only [y8,z7,uT h,hw,put,I5,u7,G4]
def Cw {mask:List Bool}{strict n:Nat}(h:H.length=n):clean mask strict n ⟨T,H⟩=⟨V8 mask T,H⟩:=by
 subst h;simp [clean]
def FP {E:Env}{u5:Option Nat}{k j:Nat}{op:z6}{dst:Option Nat}{want w:Bool}{u:List Nat}{st:F4}(h:st.L[j]? =some (.d (.bool w)))(hw:(w==want)=true) :
  y8 E l6 u5 k ⟨op,dst,some (j,want),u⟩ st=y8 E l6 u5 k ⟨op,dst,none,u⟩ st:=by
 simp only [y8,z7,h,hw]
def Rx.wanted {op:z6}{dst:Option Nat}{j:Nat}{want w:Bool}{u:List Nat}(h:pre[j]? =some (.d (.bool w)))(hw:(w==want)=true)
  (h2:Rx A l b dr l6 (⟨op,dst,none,u⟩::ops) T H pre p6 Q):Rx A l b dr l6 (⟨op,dst,some (j,want),u⟩::ops) T H pre p6 Q:=by
 obtain ⟨r,N,hq,hr⟩:=h2;refine ⟨r,N,hq,fun n hn=> ?_⟩;have h3:=hr n hn;have h4:∀ E u5,y8 E l6 u5 pre.length ⟨op,dst,some (j,want),u⟩ ⟨T,H,pre++j4 (ops.length+1) .any,p6⟩=y8 E l6 u5 pre.length ⟨op,dst,none,u⟩ ⟨T,H,pre++j4 (ops.length+1) .any,p6⟩ :=
  fun E u5=>FP (uT h _) hw
 cases dr with
 |false =>
  simp only [j5,if_false,List.length_cons,eG] at h3 ⊢;rw [h4];exact h3
 |true =>
  simp only [if_true,List.length_cons,R9,jD] at h3 ⊢;intro na;rw [h4];obtain ⟨lg,e1,e2,e3⟩:=h3 na;refine ⟨lg,e1,e2,fun k e he=>⟨(e3 k e he).1,fun i hi hr=> ?_⟩⟩;cases k with
  |zero =>
   simp only [List.getElem?_cons_zero,Option.some.injEq] at hi;subst hi;exact (e3 0 e he).2 ⟨op,dst,none,u⟩ rfl hr
  |succ k=>exact (e3 (k+1) e he).2 i (by simpa using hi) hr
def Rx.stepT {i:p9}{T' pre' :List j3}{H' :q8}{v:j3}{eW :List Touch}{rs:List Nat}{N1:Nat}(hl:pre'.length=pre.length)
  (h:∀ n,N1<=n->y8 (N7 A n l b) l6 none pre.length i ⟨T,H,pre++ .any::j4 ops.length .any,p6⟩=some (⟨T',H',pre' ++v::j4 ops.length .any,eW⟩,rs))
  (h2:Rx A l b false l6 ops T' H' (pre' ++[v]) eW Q):Rx A l b false l6 (i::ops) T H pre p6 Q:=by
 obtain ⟨r,N,hq,h2⟩:=h2;refine ⟨r,max N N1,hq,fun n hn=> ?_⟩;have h3:=h2 n (by omega);have h4:=h n (by omega);simp only [A9,List.cons_append,List.nil_append,List.length_append,List.length_cons,List.length_nil,hl] at h3;simp only [j5,if_false,List.length_cons,List.replicate_succ] at h3 ⊢;simp only [eG,h4];exact h3
def Rx.av2 {x:u9}{u:List Nat}{v:j3}{cs:List j3}{s:Nat}(hx:Op T pre x v)(hc:v.cells? =some cs)(hs:T[s]?.isSome=true)
  (h2:Rx A l b false l6 ops (T.set s (.ptr H.length 0)) (H++[.cells cs]) (pre++[.ptr H.length 0]) (.slot s::p6) Q):Rx A l b false l6 (⟨.box x,some s,none,u⟩::ops) T H pre p6 Q:=by
 have hs:s<T.length:=by
  rcases s5 s T.length with h|h
  .exact h
  .rw [H6 h] at hs;cases hs
 refine Rx.stepT (N1:=0) (rs:=[]) rfl (fun n _=> ?_) h2;have h3:∀ r:List j3,(pre++ .ptr H.length 0::r)[pre.length]? =some (.ptr H.length 0):=fun r=>by simp
 simp only [y8,z7,E5,z6.E3,if_true,E7,hx.G9,hc,F0,newId,Option.getD_none,put,I5,u7,G4,hs,Abs.E1,h3];simp [Abs.G9,j3.I7]
def Rx.aB9 {s z n0:Nat}{cs:List Data}{u:List Nat}(hs:T[s]?.isSome=true)(h2:Rx A l b dr l6 ops (T.set s (.own z n0 cs)) H (pre++[.d (.slice n0 cs)]) (.slot s::p6) Q) :
  Rx A l b dr l6 (⟨.R2 (.const (.own z n0 cs)),some s,none,u⟩::ops) T H pre p6 Q:=by
 have hs:s<T.length:=by
  rcases s5 s T.length with h|h
  .exact h
  .rw [H6 h] at hs;cases hs
 refine Rx.step (N1:=0) (rs:=[]) rfl rfl (fun n _=> ?_) (fK s p6) h2;have h5:∀ r:List j3,(pre++ .own z n0 cs::r)[pre.length]? =some (.own z n0 cs):=fun r=>by simp
 simp only [y8,z7,E5,z6.E3,j5,if_false,Abs.E1,put,I5,u7,G4,hs,if_true,h5]
def Ex.N5 {mask:List Bool}{body:s4}{R:F6->St->Prop}(Inv:Nat->List j3->q8->Prop)(hl:∀ k T' H',Inv k T' H' ->H'.length=H.length)
  (hb:∀ k T' H',Inv k T' H' ->Ex A l b body ⟨V8 mask T',H'⟩ (zA R fun s=>∃ k',k' <k/\Inv k' s.T s.H)) {k:Nat} (h:Inv k T H):Ex A l b (.loop mask body) ⟨T,H⟩ R:=by
 refine Ex.loop (fun k s=>Inv k s.T s.H) (fun k s hs=> ?_) (k:=k) h;obtain ⟨T',H'⟩:=s;rw [Cw (hl k T' H' hs)];exact hb k T' H' hs
end
theorem lM {α:Type}{enc:α->List Data}{sz:Nat}(hs:∀ a,(enc a).length=sz):∀ (l:List α) (i:Nat) (h:i<l.length),(l.flatMap enc).drop (i * sz)=enc l[i]++(l.drop (i+1)).flatMap enc
 |a::l,0,h=>by simp
 |a::l,i+1,h=>by
  have h1:=lM hs l i (by simpa using h);rw [List.flatMap_cons,Nat.succ_mul,Nat.add_comm,<- List.drop_drop];rw [show (enc a++l.flatMap enc).drop sz=l.flatMap enc by rw [<- hs a,List.drop_left]];simpa using h1
def SL {α:Type}{enc:α->List Data}{sz:Nat}(hs:∀ a,(enc a).length=sz)(l:List α)(i:Nat)(h:i<l.length) :
  (l.flatMap enc).drop ((i:Int).toNat * sz)=enc l[i]++(l.drop (i+1)).flatMap enc:=by
 rw [Int.toNat_natCast];exact lM hs l i h
def y4.names (c:y4):List L0:=c.o7.map mH.name++c.views.map Vw.name++c.idxs.map PU.name++c.qm.map Qa.name++c.qf.map PS.name++c.ql.map PZ.name++c.qn.map Qb.name++c.qd.map PO.name
def cat (c:y4):j3:= .agg (c.enc.map .d)
def y4.qA (c:y4):Prop:=c.o7.length<=1000/\c.views.length<=1000/\c.idxs.length=0/\c.qm.length=0/\c.qf.length=0/\c.ql.length=0/\c.qn.length=0/\c.qd.length=0
def jg {α:Type}(a b:Option α):Prop:=∀ r,a=some r->b=some r
theorem jg.refl {α:Type}(a:Option α):jg a a:=fun _ h=>h
def jg.no {α:Type}(b:Option α):jg none b:=fun _ h=>by cases h
def LeC (c c' :sg):Prop:=∀ f args H l,jg (c f args H l) (c' f args H l)
section
variable {cf RP :sg} (hc:LeC cf RP) {p:FuncId->Bool} {md:FuncId->Nat} {rX:FuncId->Bool} {l:F2} {e:Nat}
include hc
def yO (k:Nat)(f:FuncId)(args:List j3)(st:F4):jg (D7 ⟨cf,p,md,rX,l,e⟩ k f args st) (D7 ⟨RP,p,md,rX,l,e⟩ k f args st):=by
 unfold D7;simp only;split
 .cases h:cf f args st.H l with
  |none=>exact jg.no _
  |some r=>rw [hc _ _ _ _ _ h];exact jg.refl _
 .split
  .split
   .cases h:cf f args (List.take (E9 st.H l.strict 8 (B8 args)) st.H) { l with base:=E9 st.H l.strict 8 (B8 args),strict:=D8 st.H l.strict (E9 st.H l.strict 8 (B8 args)) } with
    |none=>exact jg.no _
    |some r=>rw [hc _ _ _ _ _ h];exact jg.refl _
   .cases h:cf f args (List.take (E9 st.H l.strict 8 (B8 args)) st.H) ⟨0,E9 st.H l.strict 8 (B8 args),E9 st.H l.strict 8 (B8 args),D8 st.H l.strict (E9 st.H l.strict 8 (B8 args))⟩ with
    |none=>exact jg.no _
    |some r=>rw [hc _ _ _ _ _ h];exact jg.refl _
   .cases h:cf f args (List.take (E9 st.H l.strict 8 (B8 args)) st.H) (l.nG (args.headD .any).L7 (E9 st.H l.strict 8 (B8 args)) (E9 st.H l.strict 8 (B8 args)) (D8 st.H l.strict (E9 st.H l.strict 8 (B8 args)))) with
    |none=>exact jg.no _
    |some r=>rw [hc _ _ _ _ _ h];exact jg.refl _
  .exact jg.no _
def SJ (l6:List p9)(u5:Option Nat)(k:Nat)(st:F4)(op:z6):jg (E7 ⟨cf,p,md,rX,l,e⟩ l6 u5 k st op) (E7 ⟨RP,p,md,rX,l,e⟩ l6 u5 k st op):=by
 cases op
 case call f xs=>exact yO hc k f _ st
 case A2 sz len z ps b=>cases b<;>exact jg.refl _
 case aD x xs =>
  simp only [E7];split
  .exact yO hc k _ _ st
  .exact jg.no _
 all_goals exact jg.refl _
def Vr (l6:List p9)(u5:Option Nat)(k:Nat)(op:z6)(st:F4):jg (E5 ⟨cf,p,md,rX,l,e⟩ l6 u5 k op st) (E5 ⟨RP,p,md,rX,l,e⟩ l6 u5 k op st):=by
 unfold E5;split
 .intro r hr
  cases hx:E7 ⟨cf,p,md,rX,l,e⟩ l6 u5 k st op with
  |none=>rw [hx] at hr;cases hr
  |some x =>
   rw [hx] at hr;rw [SJ hc l6 u5 k st op _ hx];exact hr
 .exact jg.refl _
def IV (l6:List p9)(u5:Option Nat)(k:Nat)(i:p9)(st:F4):jg (y8 ⟨cf,p,md,rX,l,e⟩ l6 u5 k i st) (y8 ⟨RP,p,md,rX,l,e⟩ l6 u5 k i st):=by
 unfold y8;split
 .intro r hr
  cases hx:E5 ⟨cf,p,md,rX,l,e⟩ l6 u5 k i.op st with
  |none=>rw [hx] at hr;cases hr
  |some x =>
   rw [hx] at hr;rw [Vr hc l6 u5 k i.op st _ hx];exact hr
 .exact jg.refl _
 .exact jg.refl _
theorem Dq (l6:List p9):∀ (is:List p9) (k:Nat) (st:F4),jg (eG ⟨cf,p,md,rX,l,e⟩ l6 is k st) (eG ⟨RP,p,md,rX,l,e⟩ l6 is k st)
 |[],_,_=>jg.refl _
 |i::is,k,st=>by
  unfold eG;intro r hr;cases hx:y8 ⟨cf,p,md,rX,l,e⟩ l6 none k i st with
  |none=>rw [hx] at hr;cases hr
  |some x =>
   rw [hx] at hr;rw [IV hc l6 none k i st _ hx];exact Dq l6 is (k+1) x.1 r hr
def Vq (l6:List p9)(u5:Option Nat)(k:Nat)(i:p9)(st:F4):jg (jD ⟨cf,p,md,rX,l,e⟩ l6 u5 k i st) (jD ⟨RP,p,md,rX,l,e⟩ l6 u5 k i st):=by
 unfold jD;split
 .exact jg.refl _
 .intro r hr
  cases hx:y8 ⟨cf,p,md,rX,l,e⟩ l6 u5 k i st with
  |none=>rw [hx] at hr;cases hr
  |some x =>
   rw [hx] at hr;rw [IV hc l6 u5 k i st _ hx];exact hr
theorem Aq (l6:List p9):∀ (is:List p9) (k na:Nat) (st:F4),jg (R9 ⟨cf,p,md,rX,l,e⟩ l6 is k na st) (R9 ⟨RP,p,md,rX,l,e⟩ l6 is k na st)
 |[],_,_,_=>jg.refl _
 |i::is,k,na,st=>by
  unfold R9;intro r hr;cases hx:jD ⟨cf,p,md,rX,l,e⟩ l6 (if i.op.B4 then some na else none) k i st with
  |none=>rw [hx] at hr;cases hr
  |some x =>
   rw [hx] at hr;rw [Vq hc l6 _ k i st _ hx];simp only at hr ⊢;cases hy:R9 ⟨cf,p,md,rX,l,e⟩ l6 is (k+1) (if i.op.B4 then na+1 else na) x.1 with
   |none=>rw [hy] at hr;cases hr
   |some y =>
    rw [hy] at hr;rw [Aq l6 is (k+1) _ x.1 _ hy];exact hr
def tA (l6:List p9)(draw:Bool)(T:List j3)(H:q8):jg (Q5 ⟨cf,p,md,rX,l,e⟩ l6 draw T H) (Q5 ⟨RP,p,md,rX,l,e⟩ l6 draw T H):=by
 unfold Q5;split
 .intro r hr
  cases hx:R9 ⟨cf,p,md,rX,l,e⟩ l6 l6 0 H.length ⟨T,H++aB l6,j4 l6.length .any,slotsOf l6⟩ with
  |none=>rw [hx] at hr;cases hr
  |some x =>
   rw [hx] at hr;rw [Aq hc l6 l6 0 _ _ _ hx];exact hr
 .exact Dq hc l6 l6 0 _
end
theorem HL {body body' :St->Option (F6×St)}(hb:∀ st,jg (body st) (body' st))(mask:List Bool)(strict n:Nat):∀ (k k' :Nat) (_:k<=k') (st:St),jg (gp body mask strict n k st) (gp body' mask strict n k' st)
 |0,_,_,_=>jg.no _
 |k+1,0,h,_=>by omega
 |k+1,k' +1,h,st=>by
  unfold gp;intro r hr;cases hx:body (clean mask strict n st) with
  |none=>rw [hx] at hr;cases hr
  |some x =>
   rw [hx] at hr;rw [hb _ _ hx];obtain ⟨x1,x2⟩:=x;cases x1 with
   |normal=>exact HL hb mask strict n k k' (by omega) x2 r hr
   |exit i=>exact hr
   |ret=>exact hr
theorem fS {cf RP :sg}(hc:LeC cf RP){p:FuncId->Bool}{md:FuncId->Nat}{rX:FuncId->Bool}{l:F2}{e n n' :Nat}(hn:n<=n'):∀ (c:s4) (st:St),jg (exec ⟨cf,p,md,rX,l,e⟩ n c st) (exec ⟨RP,p,md,rX,l,e⟩ n' c st)
 | .skip,_=>jg.refl _
 | .exit _,_=>jg.refl _
 | .ret,_=>jg.refl _
 | .bad,_=>jg.refl _
 | .fz _,_=>jg.refl _
 | .region ops draw,st=>by
  unfold exec;intro r hr;cases hx:Q5 ⟨cf,p,md,rX,l,e⟩ ops draw st.T st.H with
  |none=>rw [hx] at hr;cases hr
  |some x =>
   rw [hx] at hr;rw [tA hc ops draw st.T st.H _ hx];exact hr
 | .seq a b,st=>by
  unfold exec;intro r hr;cases hx:exec ⟨cf,p,md,rX,l,e⟩ n a st with
  |none=>rw [hx] at hr;cases hr
  |some x =>
   rw [hx] at hr;rw [fS hc hn a st _ hx];obtain ⟨x1,x2⟩:=x;cases x1 with
   |normal=>exact fS hc hn b x2 r hr
   |exit i=>exact hr
   |ret=>exact hr
 | .cond c a b,st=>by
  unfold exec;split
  .exact fS hc hn a st
  .exact fS hc hn b st
  .exact jg.refl _
 | .test ops draw c a b,st=>by
  unfold exec;intro r hr;cases hx:Q5 ⟨cf,p,md,rX,l,e⟩ ops draw st.T st.H with
  |none=>rw [hx] at hr;cases hr
  |some x =>
   rw [hx] at hr;rw [tA hc ops draw st.T st.H _ hx];simp only at hr ⊢;split at hr
   .exact fS hc hn a _ r hr
   .exact fS hc hn b _ r hr
   .cases hr
 | .block id body,st=>by
  unfold exec;intro r hr;cases hx:exec ⟨cf,p,md,rX,l,e⟩ n body st with
  |none=>rw [hx] at hr;cases hr
  |some x =>
   rw [hx] at hr;rw [fS hc hn body st _ hx];exact hr
 | .loop mask body,st=>by
  unfold exec;exact HL (fun st=>fS hc hn body st) mask _ _ n n' hn st
theorem Eu (A:Prog):∀ (n n' :Nat),n<=n' ->LeC (call A n) (call A n')
 |0,_,_=>fun _ _ _ _=>jg.no _
 |n+1,0,h=>by omega
 |n+1,n' +1,h=>fun f args H l=>by
  unfold call;split
  .exact jg.refl _
  .split
   .rename_i af _
    unfold gb;split
    .intro r hr
     cases hx:exec ⟨call A n,A.prom,A.mode,A.idle,l,H.length⟩ n af.body ⟨args++j4 (af.names.length - args.length) .any,H⟩ with
     |none=>rw [hx] at hr;cases hr
     |some x =>
      rw [hx] at hr;rw [fS (Eu A n n' (by omega)) (by omega) _ _ _ hx];exact hr
    .exact jg.no _
   .exact jg.refl _
def Pf.Yj {A:Prog}{n:Nat}{f:FuncId}{args:List j3}{v:j3}(h:call A n f args [] Y8=some (v,[])):Pf A f args v :=
 ⟨n,fun m hm=>Eu A n m hm f args [] Y8 _ h⟩
open Go.ChangeShapes Go.WideShapes Go.ChangeAt Go.RowKit
section
variable {H:Type} {enc:TypeId×Value->H} {P:Program} {w:World} {held:Bool} {base:Nat} {spare:Nat->Bool}
def VD {t e:TypeId}{fuel:Nat}{a:Addr}{len cap:Nat}{x:DataW H×List MemPlace}(hu:P.underlying t=some (.slice e))(h:DataW.trod enc P w base spare held fuel t [.slice (some a) len cap]=some x):∃ elems rest,x.1= .slice elems rest/\elems.length=len:=by
 cases fuel with
 |zero=>simp [DataW.trod] at h
 |succ fuel =>
  unfold DataW.trod at h;rw [hu] at h;simp only at h;split at h
  .simp only [Option.bind_eq_some_iff,Option.map_eq_some_iff] at h
   obtain ⟨elems,hm,rest,_,rfl⟩:=h;exact ⟨_,_,rfl,by rw [List.length_map,(ia hm).1,List.length_range]⟩
  .cases h
def Szd (P:Program)(ts:List TypeId)(as:List j3):Prop:=∀ (j:Nat) (t e:TypeId) (n:Nat) (cells:List Data),ts[j]? =some t->P.underlying t=some (.slice e)->as[j]? =some (.d (.slice n cells))->n * P.bytesOf e<=reachBytes
theorem Vs:∀ (ts:List TypeId) (vs:List Value) (ds:List (DataW H)) (ps:List MemPlace) (as:List j3),DataW.TrodAll enc P w base spare held ts vs ds ps->H8 (G0 w) I0 N0 w as vs->(DataW.weightsEach P ts ds).all (·<=reachBytes)=true->Szd P ts as
 |[],_,_,_,_,_,_,_=>fun j t e n cells ht=>by simp at ht
 |t::ts,vs,ds,ps,as,h,hv,hs=>fun j t' e n cells ht hu ha=>by
  obtain ⟨v,vs1,d,ds1,a,b,rfl,rfl,rfl,h1,h2⟩:=Go.ChangeShapes.trodAll_cons h;cases as with
  |nil=>simp at ha
  |cons a0 as =>
   simp only [H8] at hv;obtain ⟨v',xs,e1,WU,hv2⟩:=hv;cases e1;simp only [DataW.weightsEach,List.all_append,c9] at hs;cases j with
   |succ j=>exact Vs ts _ _ _ as h2 hv2 hs.2 j t' e n cells (by simpa using ht) hu (by simpa using ha)
   |zero =>
    simp only [List.getElem?_cons_zero,Option.some.injEq] at ht ha;subst ht ha;simp only [VR,DR] at WU
    rcases WU with ⟨_,rfl,_⟩|⟨bb,o,cap,rfl,_,_⟩
    .simp
    .obtain ⟨fuel,hf⟩:=h1
     obtain ⟨elems,rest,e2,e3⟩:=VD hu hf;simp only at e2;subst e2;have:=sized_slice (ts:=[t]) (ds:=[.slice elems rest]) (by simp only [DataW.weightsEach,List.all_append,c9];exact ⟨hs.1,rfl⟩) (j:=0) rfl rfl hu;rw [e3] at this;exact B5 (M3 _ (Nat.le_add_right _ _)) this
end
def Ca {H:Type}{enc:TypeId×Value->H}{P:Program}{A:Prog}(hok:qW P A){fid:FuncId}{f:Func}{s:ChangeSpec}(hvars:s.vars=[]){tb:TypeId}(hrt:f.resultTypes= #[tb])(htb:P.underlying tb=some .bool)
  {ls:List (List CT)} (QE:El P f.params.toList ls=true) {W:World} {base:Nat} {args:Array Value} {ds gs:List (DataW H)} {before:List MemPlace} {r:Reach}
  (hfn:s.fn H ds={ results:=[.lit (.bool true)],args:=ds })
  (hval:∀ (j:Nat) t v,f.params[j]? =some t->args[j]? =some v->Value.okWide P W r base t v) (hW:DataW.Whole enc P f.params.toList s.vars false W args.toList ds gs before)
  (hsz:(DataW.weightsEach P (f.params.toList++s.plain.varTypes P) (ds++gs)).all (·<=reachBytes)=true)
  (aA0:∀ as,oR P f.params.toList ls as->Szd P f.params.toList as->∃ n,call A n fid as [] Y8=some (.d (.bool true),[])) :
  Calls P fid args W fun e W' =>∃ v,e= .returned v/\s.post enc P f false true false false W args v W' :=by
 have hW' :=hW;obtain ⟨p,q,hA,hV,rfl,hfz,hnd⟩:=hW;rw [hvars] at hV;obtain ⟨rfl,rfl⟩:=trodVars_none hV;have aT8 :(DataW.weightsEach P f.params.toList ds).all (·<=reachBytes)=true:=by
  have e:s.plain.varTypes P=[]:=by simp [ChangeSpec.plain,DataSpec.varTypes,hvars]
  rwa [e,List.append_nil,List.append_nil] at hsz
 obtain ⟨⟨as,a1,a2⟩,a3⟩:=MQ f.params.toList ls args.toList ds p QE (fun j t v ht hv=>hval j t v (by simpa using ht) (by simpa using hv)) hA;obtain ⟨n,hn⟩:=aA0 as a1 (Vs _ _ _ _ _ hA a2 aT8);refine (QM hok hn a2).mono ?_;rintro e W' ⟨rfl,hK⟩;have ah1 :s.fn H (ds++[])={ results:=[.lit (.bool true)],args:=ds }:=by rw [List.append_nil];exact hfn
 refine ⟨_,rfl,Ra (pa:=p) (pv:=[]) hW' hK (fun b sp hd=> ?_) (fun sp hsp=> ?_) (fun sp _=> ?_) rfl (fun j t v ht hv=> ?_)⟩
 .rw [ah1,hrt]
  exact trodAll_cons_mk (shut_bool htb _) trodAll_mk0
 .rw [ah1]
  exact a3 W' hK sp (fun p' hp=>hsp p' (by simpa using hp))
 .rw [ah1,hvars]
  rfl
 .rw [hrt] at ht hv
  cases j with
  |zero =>
   simp at ht;simp [Value.resultList] at hv;subst ht;subst hv;exact okWide_bool_mk htb _
  |succ j=>simp at ht
end Go.Abs


import Derived.Test.YtibjocmpkoepoaaGreatUB2
import Derived.Defers
import Derived.Recover
import Derived.ChangeSame
import Derived.ProofKit
import Derived.OpenShut
import Derived.SizedLaws
set_option linter.all false
open Bool renaming false_eq_true → j3
open List renaming all_eq_true → L9, getElem?_append_left → A7, getElem?_append_right → s5, getElem?_eq_getElem → l6, map_cons → F4, mem_append → M4, mem_append_left → E0, mem_cons → B4, mem_map → F5, replicate → c9
open Nat renaming le_of_ble_eq_true → j5, le_refl → o5, le_trans → B6, lt_or_ge → y4
open Option renaming map_some → L4
namespace Go.x9
variable [D9]
def F7.Bm:F7->Exit
 | .normal=> .normal
 | .exit id=> .exit id
 | .ret=> .ret
def zo (P:Program)(names:List Tmp)(ops:Array Oper)(n:Nat)(c' :Operand)(c:y6):Bool:=Cx.ck ⟨P,names,ops⟩ (fun j=>decide (j<n)) c' c
def Y4 (P:Program)(names:List Tmp)(nt:Nat):Code->q9->Bool
 |c,.seq (.fz _) k=>Y4 P names nt c k
 | .skip,.skip=>true
 | .region _ ops d',.region j9 d=>d==d' &&dw P names nt ops j9 d
 | .seq (.region _ ops d') (.seq (.cond c' x' y') z'),.seq (.test j9 d c x y) k =>
  d==d' &&dw P names nt ops j9 d&&zo P names ops j9.length c' c&&Y4 P names nt x' x&&Y4 P names nt y' y&&Y4 P names nt z' k
 | .seq (.region _ ops d') (.cond c' x' y'),.test j9 d c x y =>
  d==d' &&dw P names nt ops j9 d&&zo P names ops j9.length c' c&&Y4 P names nt x' x&&Y4 P names nt y' y
 | .seq (.region i ops d') (.seq (.cond c' x' y') z'),.seq (.seq (.region j9 d) (.cond c x y)) k =>
  Y4 P names nt (.region i ops d') (.region j9 d)&&Y4 P names nt (.cond c' x' y') (.cond c x y)&&Y4 P names nt z' k
 | .seq x' y',.seq x y=>Y4 P names nt x' x&&Y4 P names nt y' y
 | .cond c' x' y',.cond c x y=>zo P names #[] 0 c' c&&Y4 P names nt x' x&&Y4 P names nt y' y
 | .block id' b',.block id b=>id' ==id&&Y4 P names nt b' b
 | .loop b',.loop _ b=>Y4 P names nt b' b
 | .exit id',.exit id=>id' ==id
 | .ret,.ret=>true
 |_,.bad=>true
 |_,_=>false
theorem pT:∀ (m:List Bool) (T:List c8) (s:Nat),(U9 m T).getD s .any=T.getD s .any\/(U9 m T).getD s .any= .any
 |[],[],s=>by simp [U9]
 |[],v::vs,0=>by simp [U9]
 |[],v::vs,s+1=>by simpa [U9] using pT [] vs s
 |b::m,[],s=>by simp_all [U9]
 |true::m,v::vs,0=>by simp [U9]
 |false::m,v::vs,0=>by simp [U9]
 |true::m,v::vs,s+1=>by simpa [U9] using pT m vs s
 |false::m,v::vs,s+1=>by simpa [U9] using pT m vs s
theorem kK:∀ (m:List Bool) (T:List c8),(U9 m T).length=T.length
 |[],[]=>by simp [U9]
 |[],v::vs=>by simpa [U9] using kK [] vs
 |b::m,[]=>by simp_all [U9]
 |true::m,v::vs=>by simpa [U9] using kK m vs
 |false::m,v::vs=>by simpa [U9] using kK m vs
def least {p:Nat->Prop}(h:∃ m,p m):∃ m,p m/\∀ k,p k->m<=k:=by
 obtain ⟨m,hm⟩:=h
 induction m using Nat.strongRecOn with
 |_ m ih =>
  grind
def am5 {α β:Type}(J:Nat->α->β->Prop):∃ μ:α->β->Nat,∀ a b,(∃ m,J m a b)->J (μ a b) a b/\∀ k,J k a b->μ a b<=k:=by
 have:∀ a b,∃ m,(∃ m,J m a b)->J m a b/\∀ k,J k a b->m<=k:=by
  intro a b
  by_cases h:∃ m,J m a b
  all_goals simp_all [least,absurd]
 exact ⟨fun a b=>Classical.choose (this a b),fun a b=>Classical.choose_spec (this a b)⟩
section
variable {P:Program} {names:List Tmp} {E:Env} {nt:Nat}
def Hf {st:St}{a:Act}{w:World}{G:Gh}{I:R3}{N:Nat->Prop}(h:Cd P names E nt st a w G I N)(mask:List Bool){n:Nat}(hn:E.entry<=n) :
  ∃ N',Cd P names E nt (clean mask E.lim.strict n st) a w G I N' /\aj E st.H w G I N (clean mask E.lim.strict n st).H w G I N' :=by
 have hT:∀ (s:Nat) t,names[s]? =some t->VR G I N w (.slot s) ((U9 mask st.T).getD s .any) (a.tmps.getD t undef):=by
  intro s t ht
  rcases pT mask st.T s with e|e
  .rw [e];exact h.T s t ht
  simp_all [VR]
 unfold clean;split
 .rename_i hc
  refine ⟨fun i=>N i/\i<n,⟨fun s t ht=>VR.low n _ _ _ ?_ (hT s t ht),fun id o ho=> ?_,h.wf,fun id o ho=> ?_,?_,fun id hid=> ?_,?_,h.size,h.idle⟩,?_⟩
  .cases hg:(U9 mask st.T)[s]? with
   |none=>simp [hg,c8.K5]
   |some v =>
    have:=sw _ _ _ hg
    grind
  .have hlt:id<n:=by grind
   rw [List.getElem?_take_of_lt hlt] at ho;exact OR.low hlt o (vG h.V4 hc.2 hlt ho) (h.H id o ho)
  .have hlt:id<n:=by grind
   rw [List.getElem?_take_of_lt hlt] at ho;exact h.V4 id o ho
  .simp [kK];exact h.V5
  .have:=h.bt id hid.1
   simp;omega
  .have:=h.Lk
   simp;omega
  .refine ⟨Ext.refl _ _,kj.refl _ _ _,fun _ _ _=>rfl,fun id hid hN=>⟨hN,by omega⟩,fun id _ hN=>hN.1,fun id o' _ ho=> ?_⟩
   grind
 .exact ⟨N,⟨hT,h.H,h.wf,h.V4,by simp [kK];exact h.V5,h.bt,h.Lk,h.size,h.idle⟩,aj.refl _ _ _ _ _ _⟩
def Sound (P:Program)(names:List Tmp)(nt:Nat)(E:Env)(C:Code)(run:St->Option (F7×St)):Prop :=
 ∀ st x st' a w G I N,run st=some (x,st')->Cd P names E nt st a w G I N->∀ Q:Exit->Act->World->Prop,
  (∀ a' w' G' I' N',Cd P names E nt st' a' w' G' I' N' ->CE E st.H w G I N st'.H w' G' I' N' ->Q x.Bm a' w')->C.wp P Q a w
def Bl {X:Cx}{j9:List p6}{S:Nat->Prop}{r:G4}{a:Act}{w:World}{G:Gh}{I:R3}{N:Nat->Prop}{D:Nat->Bool}(h:Rg X j9 E nt S r a w G I N)(hD:∀ j,D j=true->S j){c' :Operand}{c:y6}(hc:X.ck D c' c=true){b:Bool}
  (hv:I5 r.T r.L c= .d (.bool b)):a.eval c' = .bool b:=by
 have:=h.ri.R7 hD c' c hc;simp_all [VR,DR]
def zw {st:St}{a:Act}{w:World}{G:Gh}{I:R3}{N:Nat->Prop}(h:Cd P names E nt st a w G I N){c' :Operand}{c:y6}(hc:zo P names #[] 0 c' c=true){b:Bool}(hv:I5 st.T [] c= .d (.bool b)):a.eval c' = .bool b:=by
 have hR:Rg ⟨P,names,#[]⟩ [] E nt (fun _=>False) ⟨st.T,st.H,[],[]⟩ a w G I N:=h.start _ rfl (fun _ h=>h) [] (by simp) (by simp) rfl [];exact Bl hR (D:=fun j=>decide (j<0)) (fun j hj=>by simp at hj) hc hv
def andThen (rx ry:St->Option (F7×St)):St->Option (F7×St):=fun st=>match rx st with
 |some (.normal,st')=>ry st'
 |r=>r
def AW {x y:Code}{rx ry:St->Option (F7×St)}(hx:Sound P names nt E x rx)(hy:Sound P names nt E y ry)
  {st:St} {e:F7} {st' :St} {a:Act} {w:World} {G:Gh} {I:R3} {N:Nat->Prop} (hrun:andThen rx ry st=some (e,st')) (h:Cd P names E nt st a w G I N) (Q:Exit->Act->World->Prop)
  (hQ:∀ a' w' G' I' N',Cd P names E nt st' a' w' G' I' N' ->CE E st.H w G I N st'.H w' G' I' N' ->Q e.Bm a' w'):x.wp P (Exit.then (y.wp P Q) Q) a w:=by
 unfold andThen at hrun;split at hrun
 .rename_i st1 h1
  refine hx st .normal st1 a w G I N h1 h _ ?_;intro a1 w1 G1 I1 N1 hc hs;simp only [F7.Bm,Exit.then];refine hy st1 e st' a1 w1 G1 I1 N1 hrun hc Q ?_;intro a2 w2 G2 I2 N2 mQ hs2;exact hQ a2 w2 G2 I2 N2 mQ (hs.trans hs2)
 .rename_i hne
  refine hx st e st' a w G I N hrun h _ ?_;intro a1 w1 G1 I1 N1 hc hs;have:=hQ a1 w1 G1 I1 N1 hc hs;cases e with
  |normal=>exact absurd hrun (hne st')
  |exit id=>exact this
  |ret=>exact this
def vJ {x y:Code}{rx ry:St->Option (F7×St)}(hx:Sound P names nt E x rx)(hy:Sound P names nt E y ry) :
  Sound P names nt E (.seq x y) (andThen rx ry) :=
 fun _ _ _ _ _ _ _ _ hrun h Q hQ=>wp_seq (AW hx hy hrun h Q hQ)
def Cg (rx ry rz:St->Option (F7×St)):andThen (andThen rx ry) rz=andThen rx (andThen ry rz):=by
 grind [andThen]
def AV (hE:Nk P E)(hn:jB names=true){ops:Array Oper}{j9:List p6}{d:Bool}{c:y6}{c' :Operand}(bg7:dw P names nt ops j9 d=true)(hck:zo P names ops j9.length c' c=true)
  {st:St} {a:Act} {w:World} {G:Gh} {I:R3} {N:Nat->Prop} (h:Cd P names E nt st a w G I N) {r:G4} (hr:Q4 E j9 d st.T st.H=some r) {b:Bool} (hv:I5 r.T r.L c= .d (.bool b)) (id:Nat) (Q:Exit->Act->World->Prop)
  (hQ:∀ a' w' G' I' N',Cd P names E nt ⟨r.T,r.H⟩ a' w' G' I' N' ->CE E st.H w G I N r.H w' G' I' N' ->a'.eval c' = .bool b->Q .normal a' w'):(Code.region id ops d).wp P Q a w:=by
 refine tD hE hn bg7 h hr id Q ?_;intro a' w' G' I' N' hR hs;exact hQ a' w' G' I' N' (Cd.done rfl hR) hs.trn (Bl hR (D:=fun j=>decide (j<j9.length)) (fun j hj=>by simpa using hj) hck hv)
def MM {c:Code}{body:St->Option (F7×St)}(hb:Sound P names nt E c body)(mask:List Bool)(fuel:Nat) :
  Sound P names nt E (.loop c) (fun st=>gl body mask E.lim.strict st.H.length fuel st):=by
 intro st e st' a w G I N hrun h Q hQ;simp only at hrun;generalize hn:st.H.length=n at hrun;have hen:E.entry<=n:=by rw [<- hn];exact h.Lk
 let J:Nat->Act->World->Prop:=fun m a' w' =>∃ st1 G1 I1 N1,gl body mask E.lim.strict n m st1=some (e,st')/\Cd P names E nt st1 a' w' G1 I1 N1/\CE E st.H w G I N st1.H w' G1 I1 N1
 obtain ⟨μ,aE1⟩:=am5 J;refine wp_loop (I:=fun a' w' =>∃ m,J m a' w') (μ:=μ) ⟨fuel,st,G,I,N,hrun,h,CE.refl _ _ _ _ _ _⟩ ?_;intro a1 w1 hJ;obtain ⟨hm,hmin⟩:=aE1 a1 w1 hJ;generalize hμ:μ a1 w1=m at hm;obtain ⟨st1,G1,I1,N1,Db,hc1,hs1⟩:=hm;cases m with
 |zero=>simp [gl] at Db
 |succ m =>
  simp only [gl] at Db;obtain ⟨N2,mQ,hs2⟩:=Hf hc1 mask hen;split at Db
  .rename_i st2 Yg
   refine hb _ .normal st2 a1 w1 G1 I1 N2 Yg mQ _ ?_;intro a3 w3 G3 I3 N3 Xm hs3;simp only [F7.Bm,Exit.then];have hJ3:J m a3 w3:=⟨st2,G3,I3,N3,Db,Xm,(hs1.trans hs2.trn).trans hs3⟩;refine ⟨⟨m,hJ3⟩,?_⟩;exact Nat.lt_succ_of_le ((aE1 a3 w3 ⟨m,hJ3⟩).2 m hJ3)
  .rename_i hne
   refine hb _ e st' a1 w1 G1 I1 N2 Db mQ _ ?_;intro a3 w3 G3 I3 N3 Xm hs3;have:=hQ a3 w3 G3 I3 N3 Xm ((hs1.trans hs2.trn).trans hs3);cases e with
   |normal=>exact absurd Db (hne st')
   |exit id=>exact this
   |ret=>exact this
def zL {lim:Nat}(x y:q9):exec E lim (.seq x y)=andThen (exec E lim x) (exec E lim y):=by
 rfl
def LQ (hE:Nk P E)(hn:jB names=true)(lim:Nat):∀ (n:Nat) (c:q9) (C:Code),SizeOf.sizeOf c<n->Y4 P names nt C c=true->Sound P names nt E C (exec E lim c):=by
 intro n
 induction n with
 |zero=>intro c C h;omega
 |succ n ih =>
 intro c C hsz hc;unfold Y4 at hc;split at hc
 all_goals (try (cases hc;done))
 ·
  rename_i s k;simp only [q9.seq.sizeOf_spec] at hsz;have ik:=ih k C (by omega) hc;intro st e st' a w G I N hrun h Q hQ;simp only [exec] at hrun;cases hf:nR E.lim E.entry s st with
  |none=>rw [hf] at hrun;cases hrun
  |some st1 =>
   rw [hf] at hrun;obtain ⟨G1,I1,N1,h1,s1⟩:=aj0 h hf;exact ik st1 e st' a w G1 I1 N1 hrun h1 Q (fun a' w' G' I' N' sU hs' =>hQ a' w' G' I' N' sU (s1.trans hs'))
 ·
  intro st e st' a w G I N hrun h Q hQ;simp only [exec] at hrun;cases hrun;exact wp_skip (hQ a w G I N h (CE.refl _ _ _ _ _ _))
 ·
  rename_i id ops d' j9 d;simp only [Bool.and_eq_true,beq_iff_eq] at hc;obtain ⟨rfl,hc⟩:=hc;intro st e st' a w G I N hrun h Q hQ;simp only [exec] at hrun;split at hrun
  .rename_i r hr
   cases hrun;refine tD hE hn hc h hr id Q ?_;intro a' w' G' I' N' hR hs;exact hQ a' w' G' I' N' (Cd.done rfl hR) hs.trn
  .cases hrun
 ·
  rename_i id ops d' c' x' y' z' j9 d c x y k;simp only [Bool.and_eq_true,beq_iff_eq] at hc;obtain ⟨⟨⟨⟨⟨rfl,h1⟩,h2⟩,h3⟩,h4⟩,h5⟩:=hc;simp only [q9.seq.sizeOf_spec,q9.test.sizeOf_spec] at hsz;have ix:=ih x x' (by omega) h3;have iy:=ih y y' (by omega) h4;have iz:=ih k z' (by omega) h5;intro st e st' a w G I N hrun h Q hQ;simp only [exec] at hrun;refine wp_seq ?_;cases hr:Q4 E j9 d st.T st.H with
  |none=>rw [hr] at hrun;cases hrun
  |some r =>
   rw [hr] at hrun;simp only at hrun;have both:∀ (b:Bool) (z:Code) (rz:St->Option (F7×St)),I5 r.T r.L c= .d (.bool b)->Sound P names nt E z rz->andThen rz (exec E lim k) ⟨r.T,r.H⟩=some (e,st')->(if b then x' else y')=z->(Code.region id ops d).wp P (Exit.then ((Code.seq (.cond c' x' y') z').wp P Q) Q) a w:=by
    intro b z rz hv hz TJ hbz;refine AV hE hn h1 h2 h hr hv id _ ?_;intro a' w' G' I' N' sU hs' hev;simp only [Exit.then];refine wp_seq (wp_cond hev ?_);rw [hbz];refine AW hz iz TJ sU Q ?_;intro a2 w2 G2 I2 N2 mQ hs2;exact hQ a2 w2 G2 I2 N2 mQ (hs'.trans hs2)
   cases hv:I5 r.T r.L c with
   |d v =>
    cases v with
    |bool b =>
     rw [hv] at hrun;cases b with
     |true=>exact both true x' _ hv ix hrun rfl
     |false=>exact both false y' _ hv iy hrun rfl
    |_=>rw [hv] at hrun;cases hrun
   |_=>rw [hv] at hrun;cases hrun
 ·
  rename_i id ops d' c' x' y' j9 d c x y;simp only [Bool.and_eq_true,beq_iff_eq] at hc;obtain ⟨⟨⟨⟨rfl,h1⟩,h2⟩,h3⟩,h4⟩:=hc;simp only [q9.test.sizeOf_spec] at hsz;have ix:=ih x x' (by omega) h3;have iy:=ih y y' (by omega) h4;intro st e st' a w G I N hrun h Q hQ;simp only [exec] at hrun;refine wp_seq ?_;cases hr:Q4 E j9 d st.T st.H with
  |none=>rw [hr] at hrun;cases hrun
  |some r =>
   rw [hr] at hrun;simp only at hrun;have both:∀ (b:Bool) (z:Code) (rz:St->Option (F7×St)),I5 r.T r.L c= .d (.bool b)->Sound P names nt E z rz->rz ⟨r.T,r.H⟩=some (e,st')->(if b then x' else y')=z->(Code.region id ops d).wp P (Exit.then ((Code.cond c' x' y').wp P Q) Q) a w:=by
    intro b z rz hv hz TJ hbz;refine AV hE hn h1 h2 h hr hv id _ ?_;intro a' w' G' I' N' sU hs' hev;simp only [Exit.then];refine wp_cond hev ?_;rw [hbz];refine hz _ e st' a' w' G' I' N' TJ sU Q ?_;intro a2 w2 G2 I2 N2 mQ hs2;exact hQ a2 w2 G2 I2 N2 mQ (hs'.trans hs2)
   cases hv:I5 r.T r.L c with
   |d v =>
    cases v with
    |bool b =>
     rw [hv] at hrun;cases b with
     |true=>exact both true x' _ hv ix hrun rfl
     |false=>exact both false y' _ hv iy hrun rfl
    |_=>rw [hv] at hrun;cases hrun
   |_=>rw [hv] at hrun;cases hrun
 ·
  rename_i i ops d' c' x' y' z' j9 d c x y k;simp only [Bool.and_eq_true] at hc;simp only [q9.seq.sizeOf_spec] at hsz;rw [zL,zL,Cg];exact vJ (ih (.region j9 d) _ (by omega) hc.1.1) (vJ (ih (.cond c x y) _ (by omega) hc.1.2) (ih k z' (by omega) hc.2))
 ·
  rename_i x' y' x y _ _ _;simp only [Bool.and_eq_true] at hc;simp only [q9.seq.sizeOf_spec] at hsz;rw [zL];exact vJ (ih x x' (by omega) hc.1) (ih y y' (by omega) hc.2)
 ·
  rename_i c' x' y' c x y;simp only [Bool.and_eq_true] at hc;simp only [q9.cond.sizeOf_spec] at hsz;intro st e st' a w G I N hrun h Q hQ;simp only [exec] at hrun;split at hrun
  .rename_i hv
   exact wp_cond_true (zw h hc.1.1 hv) (ih x x' (by omega) hc.1.2 st e st' a w G I N hrun h Q hQ)
  .rename_i hv
   exact wp_cond_false (zw h hc.1.1 hv) (ih y y' (by omega) hc.2 st e st' a w G I N hrun h Q hQ)
  .cases hrun
 ·
  rename_i id' b' id b;simp only [Bool.and_eq_true,beq_iff_eq] at hc;obtain ⟨rfl,hc⟩:=hc;simp only [q9.block.sizeOf_spec] at hsz;have ib:=ih b b' (by omega) hc;intro st e st' a w G I N hrun h Q hQ;simp only [exec] at hrun;refine wp_block ?_;split at hrun
  .rename_i i1 st1 h1
   refine ib st (.exit i1) st1 a w G I N h1 h _ ?_;intro a' w' G' I' N' sU hs';simp only [F7.Bm,Exit.inBlock];split at hrun
   .rename_i he
    cases hrun;rw [if_pos he];exact hQ a' w' G' I' N' sU hs'
   .rename_i he
    cases hrun;rw [if_neg he];exact hQ a' w' G' I' N' sU hs'
  .rename_i hne
   refine ib st e st' a w G I N hrun h _ ?_;intro a' w' G' I' N' sU hs';have:=hQ a' w' G' I' N' sU hs';cases e with
   |normal=>exact this
   |exit i=>exact absurd hrun (hne i st')
   |ret=>exact this
 ·
  rename_i b' mask b;simp only [q9.loop.sizeOf_spec] at hsz;exact MM (ih b b' (by omega) hc) mask lim
 ·
  rename_i id' id;intro st e st' a w G I N hrun h Q hQ;simp only [beq_iff_eq] at hc;subst hc;simp only [exec] at hrun;cases hrun;exact wp_exit (hQ a w G I N h (CE.refl _ _ _ _ _ _))
 ·
  intro st e st' a w G I N hrun h Q hQ;simp only [exec] at hrun;cases hrun;exact wp_ret (hQ a w G I N h (CE.refl _ _ _ _ _ _))
 ·
  intro st e st' a w G I N hrun h Q hQ;simp only [exec] at hrun;cases hrun
end
end Go.x9
namespace Go.x9
variable [D9]
def freeze (G:Gh)(n:Nat):Gh:=fun b =>
 match G b with
 | .obj id=>if n<=id then .kg else .obj id
 |x=>x
section
variable {P:Program} {G:Gh} {I:R3} {N:Nat->Prop} {w:World} {n:Nat}
def Lp {b o:Nat}(h:gX G b o):gX (freeze G n) b o:=by
 grind [gX,freeze]
def rF:Ext G w (freeze G n) w where
 os:=rfl
 tape:=rfl
 output:=rfl
 drawn _:=o5 _
 size:=o5 _
 kg b o h:=⟨Lp h,rfl⟩
 still b h:=⟨by grind [freeze],rfl⟩
 shape _ c _ _ h:=⟨c,h,rfl⟩
def mb (q:Place):bz q G w (freeze G n) w:=fun b m hb=>⟨by simp [freeze,hb],rfl⟩
def zU {b id:Nat}(h:id<n)(hb:G b= .obj id):freeze G n b= .obj id:=by simp_all [freeze,if_neg]
def QF (h:WF G w):WF (freeze G n) w:=fun b hb=>by simp [freeze,h b hb]
theorem CX {pl:Place}{a:c8}{x:Value}(h:VR G I N w pl a x):VR (freeze G n) I N w pl a x :=
 VR.mono rF.sub (fun _ _=>rfl) (fun _ h=>h) _ _ _ (Or.inr (mb pl)) h
theorem XM {pl:Place}{a:c8}{d:Data}{x:Value}(h:a.data? =some d)(hv:VR G I N w pl a x):DR G w d x:=by
 unfold c8.data? at h;split at h
 .simp_all [VR]
 .have:=hv.J2 (wW := .none)
  simp_all [c8.J2,VR]
 .have:=hv.J2 (wW := .none)
  simp_all [c8.J2,VR]
 .cases h
theorem pG:∀ (cs:List c8) (xs:List Data),M6 cs=some xs->xs.length=cs.length/\∀ (i:Nat) x,xs[i]? =some x->∃ a,cs[i]? =some a/\a.data? =some x
 |[],xs,h=>by simp_all [M6]
 |c::cs,xs,h=>by
  unfold M6 at h;split at h
  .split at h
   .rename_i ys hys
    obtain ⟨g1,g2⟩:=pG cs ys hys
    grind
   .cases h
  .cases h
theorem pM {H:o9}(hH:HR G I N w H):∀ (fuel:Nat) (as bs:List c8),bF H n fuel as=some bs->bs.length=as.length/\∀ (i:Nat) a pl x,as[i]? =some a->VR G I N w pl a x->∃ b,bs[i]? =some b/\VR (freeze G n) I N w pl b x
 |0,as,bs,h=>by simp [bF] at h
 |fuel+1,[],bs,h=>by
  simp_all [bF]
 |fuel+1,v::vs,bs,h=>by
  simp [bF] at h;split at h
  .cases h
  .rename_i ws hws
   obtain ⟨l1,l2⟩:=pM hH fuel vs ws hws;have fin:∀ (u:c8),(∀ pl x,VR G I N w pl v x->VR (freeze G n) I N w pl u x)->bs=u::ws->bs.length=(v::vs).length/\∀ (i:Nat) a pl x,(v::vs)[i]? =some a->VR G I N w pl a x->∃ b,bs[i]? =some b/\VR (freeze G n) I N w pl b x:=by
    grind
   have bM7:∀ (l l' :List c8),bF H n fuel l=some l' ->∀ xs,J5 G I N w l xs->J5 (freeze G n) I N w l' xs:=by
    intro l l' hl xs hx;obtain ⟨m1,m2⟩:=pM hH fuel l l' hl;have hlen:=J5.length _ _ hx
    grind [R6,u7,l6,J5.get]
   split at h
   .rename_i id sz lo len
    split at h
    .grind [CX]
    .split at h
     .rename_i us Xq
      split at h
      .rename_i us' bh9
       split at h
       .rename_i xs hxs
        cases h;refine fin _ (fun pl x hv=> ?_) rfl;simp only [VR] at hv ⊢;obtain ⟨hN,cap,rfl,hcap,c,e,f,hc,hsz⟩:=hv;refine Or.inr ⟨(I id).1,(I id).2+lo,cap,rfl,hcap,?_⟩;obtain ⟨d1,d2⟩:=pG us' xs hxs;obtain ⟨m1,m2⟩:=pM hH fuel us us' bh9;refine yO _ xs fun i y hi=> ?_
        have hpos:0<len * sz:=by
         all_goals grind [rd,u7]
        obtain ⟨_,zs,g1,g2,g3,g4⟩:=hH.rd Xq hpos;have wJ:i<len * sz:=by grind
        have QL:G (I id).1= .obj id:=by
         unfold rd at Xq;split at Xq
         .rename_i l0 hl0
          have:=hH id _ hl0
          grind [OR]
         .cases Xq
        refine ⟨?_,?_⟩
        .simp_all [freeze,if_pos,gX]
        .have hz:zs[i]? =some zs[i]:=l6 (by omega)
         have hu:us[i]? =some us[i]:=l6 (by omega)
         grind [XM]
       .cases h
      .cases h
     .cases h
   .grind [VR]
   all_goals grind [VR,CX]
end
def ee (P:Program)(names:List Tmp):List ResultVar->List Cc->Bool
 |[],[]=>true
 | .tmp t::r,.slot s::q=>names[s]? ==some t&&ee P names r q
 | .cell a t::r,.cell s n::q=>names[s]? ==some a&&rN P t n&&ee P names r q
 |_,_=>false
def rP (tmps:Array Value):ResultVar->Sem Value
 | .tmp t=>pure (tmps.getD t undef)
 | .cell a t=>do loadVar t (<- asAddr (tmps.getD a undef))
section
variable {P:Program} {names:List Tmp} {E:Env} {nt:Nat} {st:St} {a:Act} {w:World} {G:Gh} {I:R3} {N:Nat->Prop}
def Zc (h:Cd P names E nt st a w G I N){rv:ResultVar}{ar:Cc}(hc:ee P names [rv] [ar]=true){v:c8}(hv:jT st.T st.H ar=some v):∃ x s,(rP a.tmps rv).run P w= .ok x w/\VR G I N w (.slot s) v x:=by
 cases rv with
 |tmp t =>
  cases ar with
  |slot s =>
   simp only [ee,Bool.and_eq_true,beq_iff_eq] at hc;simp [jT] at hv;have:=h.T s t hc.1;simp_all [rP]<;>grind
  |cell s n=>simp [ee] at hc
 |cell t ty =>
  cases ar with
  |slot s=>simp [ee] at hc
  |cell s n =>
   simp only [ee,Bool.and_eq_true,beq_iff_eq] at hc;obtain ⟨⟨h1,h2⟩,_⟩:=hc;cases n with
   |none =>
    simp [jT] at hv;split at hv
    .rename_i id off hT
     split at hv
     .rename_i u hu
      cases hv;have hp:=h.T s t h1;rw [aM hT] at hp;simp [VR] at hp;obtain ⟨_,xs,g1,_,g3,g4⟩:=h.H.rd hu (by omega);obtain ⟨z,rfl⟩:∃ z,xs=[z]:=List.length_eq_one_iff.1 g1;have hz:=g3 0 z rfl;have hvz:=g4 0 u z rfl rfl;have ha:dc P ty=some false:=by simp_all [rN]
      refine ⟨z,s,?_,hvz.J2⟩;simp_all [rP,asAddr,loadVar,bV]
     .cases hv
    .cases hv
   |some n =>
    simp [jT] at hv;split at hv
    .rename_i id off hT
     split at hv
     .rename_i us hu
      cases hv;have hp:=h.T s t h1;rw [aM hT] at hp;simp [VR] at hp;have ha:dc P ty=some true/\P.cellsOf ty=n/\0<n:=by simp_all [rN,and_assoc]
      obtain ⟨_,xs,g1,g2,g3,g4⟩:=h.H.rd hu ha.2.2;have hs:(sizeOf ty).run P w= .ok n w:=by
       grind [run_sizeOf,dc,info_of_underlying]
      have hl:=run_loadCells_list (P:=P) w (ad (I id).1 ((I id).2+off)) xs (fun j v hj=>by simp_all [aK]);refine ⟨.agg xs.toArray,s,?_,?_⟩
      .simp_all [rP,asAddr,loadVar,bV]
      .refine ⟨_,rfl,R6 _ _ (by simp [g1,g2]) fun j b v hj hv=> ?_⟩
       simp at hj hv;obtain ⟨b',hb',rfl⟩:=hj;exact (g4 j b' v hb' hv).J2
     .cases hv
    .cases hv
theorem Oh (h:Cd P names E nt st a w G I N):∀ (rvs:List ResultVar) (XC:List Cc) (vs:List c8),ee P names rvs XC=true->aN st.T st.H XC=some vs ->
  ∃ xs:List Value,(rvs.mapM (rP a.tmps)).run P w= .ok xs w/\xs.length=vs.length/\∀ (i:Nat) v x,vs[i]? =some v->xs[i]? =some x->∃ s,VR G I N w (.slot s) v x
 |[],XC,vs,hc,hv=>by
  cases XC with
  |cons _ _=>simp [ee] at hc
  |nil =>
   simp_all [aN]
 |rv::rvs,XC,vs,hc,hv=>by
  cases XC with
  |nil=>simp_all [ee]
  |cons ar XC =>
   have hc1:ee P names [rv] [ar]=true/\ee P names rvs XC=true:=by
    cases rv<;>cases ar<;>simp_all [ee]
   simp [aN] at hv;split at hv
   .rename_i v Xr
    split at hv
    .rename_i vs' hvs
     obtain ⟨x,s,h1,h2⟩:=Zc h hc1.1 Xr;obtain ⟨xs,h3,h4,h5⟩:=Oh h rvs XC vs' hc1.2 hvs;simp_all<;>grind
    .cases hv
   .cases hv
end
end Go.x9
namespace Go.x9
variable [D9]
structure fT (w w' :World):Prop where
 heap:w'.heap=w.heap
 os:w'.os=w.os
 tape:w'.tape=w.tape
 output:w'.output=w.output
 drawn:w.drawn<=w'.drawn
theorem fT.refl (w:World):fT w w:=⟨rfl,rfl,rfl,rfl,o5 _⟩
theorem fT.trans {w w1 w2:World}(h:fT w w1)(k:fT w1 w2):fT w w2:=⟨k.heap.trans h.heap,k.os.trans h.os,k.tape.trans h.tape,k.output.trans h.output,B6 h.drawn k.drawn⟩
def fT.ext {G:Gh}{w w' :World}(h:fT w w'):Ext G w G w' where
 os:=h.os
 tape:=h.tape
 output:=h.output
 drawn _:=h.drawn
 size:=by rw [h.heap];exact o5 _
 kg b o hi:=⟨hi,kA h.heap _⟩
 still b _:=⟨rfl,by rw [h.heap]⟩
 shape b c e f hc:=⟨c,by rw [h.heap];exact hc,rfl⟩
def fT.keeps {G:Gh}{w w' :World}(h:fT w w')(q:Place):bz q G w G w' :=fun b n hb=>⟨hb,by rw [h.heap]⟩
def Idle (P:Program)(f:FuncId):Prop :=
 S0 P f=true/\∀ args w,CallsD P f args .returning w fun e u' w' =>(∃ v,e= .returned v)/\u' = .returning/\fT w w'
section
variable {P:Program} {names:List Tmp} {E:Env} {nt:Nat} {st:St} {a:Act} {w w' :World} {G:Gh} {I:R3} {N:Nat->Prop}
def Cd.same (h:Cd P names E nt st a w G I N)(hw:fT w w'):Cd P names E nt st a w' G I N where
 T s t ht:=VR.mono hw.ext.sub (fun _ _=>rfl) (fun _ h=>h) _ _ _ (Or.inr (hw.keeps _)) (h.T s t ht)
 H id o ho:=OR.mono hw.ext.sub (fun _ _=>rfl) (fun _ h=>h) id o (fun h=>⟨h,by rw [hw.heap]⟩) (fun _=>hw.keeps _) (h.H id o ho)
 wf b hb:=h.wf b (by rw [<- hw.heap];exact hb)
 V4:=h.V4
 V5:=h.V5
 bt:=h.bt
 Lk:=h.Lk
 size:=h.size
 idle:=h.idle
def aj.same {H0 H:o9}{w0:World}{G0:Gh}{I0:R3}{N0:Nat->Prop}(h:aj E H0 w0 G0 I0 N0 H w G I N)(hw:fT w w'):aj E H0 w0 G0 I0 N0 H w' G I N :=
 h.trans ⟨hw.ext,fun id _=>⟨fun b hb=>⟨hb,by rw [hw.heap]⟩,fun _=>hw.keeps _⟩,fun _ _ _=>rfl,fun _ _ h=>h,fun _ _ h=>h,fun _ o _ ho=>Or.inr ⟨o,ho,o5 _⟩⟩
theorem wR {idle:FuncId->Bool}(CZ:∀ f,idle f=true->Idle P f){fn:Func}{tmps:Array Value}{R:Ending->World->Prop}:∀ (ds:List Deferred) (w:World),(∀ d,d ∈ ds->GK P idle d) ->
  (∀ w',fT w w' ->∃ v,(results fn tmps).run P w' = .ok v w' /\R (.returned v) w')->Leaves P fn tmps R ds .returning w
 |[],w,_,h=>h w (fT.refl w)
 |d::ds,w,hd,h=>by
  obtain ⟨f,cap,h1,h2⟩:=hd d (by simp);obtain ⟨hcan,hD⟩:=CZ f h2;obtain ⟨tgt,dargs⟩:=d;subst h1;refine leaves_cons (f:=f) (args:=dargs++cap) (by simp) (by simp_all [invoke,tG]) ?_;refine CallsD.mono (hD _ w) ?_;rintro e u' w' ⟨⟨v,rfl⟩,rfl,hw⟩;exact wR CZ ds w' (fun d hd' =>hd d (by simp [hd'])) (fun w'' hw' =>h w'' (hw.trans hw'))
def Jl {fn:Func}{tmps:Array Value}{xs:List Value}(h:(fn.results.toList.mapM (rP tmps)).run P w= .ok xs w) :
  (results fn tmps).run P w= .ok (if h:xs.length=1 then xs[0]'(by omega) else .tuple xs.toArray) w:=by
 have e:results fn tmps=(fn.results.mapM (rP tmps) >>= fun vs=>pure (if h:vs.size=1 then vs[0] else .tuple vs)):=by
  rfl
 grind [Array.mapM_eq_mapM_toList,map_eq_pure_bind,Sem.run_bind,Result.andThen_ok,Sem.run_pure,List.size_toArray]
def ar5 {vs:List c8}{xs:List Value}(hl:xs.length=vs.length)(h:∀ (i:Nat) v x,vs[i]? =some v->xs[i]? =some x->∃ s,VR G I N w (.slot s) v x) :
  ∃ pl G2,jq pl G w G2/\(∀ id off,pl≠ .cell id off)/\VR G2 I N w .ret (j7 vs) (if h:xs.length=1 then xs[0]'(by omega) else .tuple xs.toArray):=by
 by_cases h1:xs.length=1
 .obtain ⟨x,rfl⟩:=List.length_eq_one_iff.1 h1
  obtain ⟨v,rfl⟩:=List.length_eq_one_iff.1 (hl.symm.trans h1);obtain ⟨s,hv⟩:=h 0 v x rfl rfl;simp [j7]
  by_cases ho:∃ z n c,v= .own z n c
  .obtain ⟨z,n,c,rfl⟩:=ho
   obtain ⟨G2,hm,hv2⟩:=iT (wW := .ret) (by simp) hv
   grind
  .exact ⟨.slot s,G,jq.refl _ _ _,by simp,by simpa using hv.GN (fun z n c e=>ho ⟨z,n,c,e⟩)⟩
 .refine ⟨.ret,G,jq.refl _ _ _,by simp,?_⟩
  rw [dif_neg h1];have e:j7 vs= .tuple (vs.map c8.J2):=by
   simp_all [j7]<;>grind
  rw [e];refine ⟨_,rfl,R6 _ _ (by simp [hl]) fun j b v hj hv=> ?_⟩;simp at hj hv;obtain ⟨b',hb',rfl⟩:=hj;obtain ⟨s,hs⟩:=h j b' v hb' hv;exact hs.J2
end
def gT (P:Program)(fn:Func)(af:s6):Bool :=
 match fn.body with
 |some c=>jB af.names&&decide (af.nparams<=af.names.length)&&(af.names.take af.nparams==List.range af.nparams)&&decide (af.nparams<=fn.ntmps) &&
   Y4 P af.names fn.ntmps c af.body && ee P af.names fn.results.toList af.results && fn.name != "runtime.NumGoroutine"
 |none=>false
def LA {P:Program}{A:Prog}(CZ:∀ f,A.idle f=true->Idle P f){cf:rZ}{n:Nat}(NG:nx P cf A.prom)(hcan:∀ f args H lm r,cf f args H lm=some r->S0 P f=true)
  {f:FuncId} {fn:Func} {af:s6} (hf:P.funcs[f]? =some fn) (HO:gT P fn af=true) {args:List c8} {H:o9} {l:F2} {v:c8} {H1:o9} (hrun:fW A cf n af args H l=some (v,H1))
  {w:World} {G:Gh} {I:R3} {N:Nat->Prop} {G6:Array Value} (hpre:yM l H w G I N args G6) (hbase:af.bC=false->l.base=H.length) :
  Calls P f G6 w fun e w' =>∃ x G' I' N',e= .returned x/\ki l H w G I N v H1 x w' G' I' N' :=by
 unfold gT at HO;cases hbody:fn.body with
 |none=>rw [hbody] at HO;cases HO
 |some c =>
  rw [hbody] at HO;simp only [Bool.and_eq_true,decide_eq_true_eq,beq_iff_eq] at HO;obtain ⟨⟨⟨⟨⟨⟨al3,hnp⟩,aD4⟩,hnt⟩,aA9⟩,hres⟩,_⟩:=HO;unfold fW at hrun;split at hrun
  .rename_i hlen
   have hvl:G6.size=args.length:=by simpa using J5.length _ _ hpre.args
   have hstart:Cd P af.names ⟨cf,A.prom,A.mode,A.idle,l,H.length⟩ fn.ntmps ⟨args++c9 (af.names.length - args.length) .any,H⟩ { tmps:=G6++Array.replicate (fn.ntmps - G6.size) undef,defers:=[] } w G I N:=by
    refine ⟨fun s t ht=> ?_,hpre.hr,hpre.wf,hpre.V4,?_,hpre.bt,o5 _,?_,by simp⟩
    .simp only
     by_cases hs:s<args.length
     .have hst:t=s:=by
       have h1:(af.names.take af.nparams)[s]? =some t:=by rw [List.getElem?_take_of_lt (by omega)];exact ht
       rw [aD4,List.getElem?_range (by omega)] at h1;cases h1;rfl
      subst hst;obtain ⟨x,g1,g2⟩:=J5.get _ _ hpre.args t args[t] (l6 hs);have e1:(args++c9 (af.names.length - args.length) c8.any).getD t .any=args[t]:=by
       rw [List.getD,A7 hs,l6 hs];rfl
      have e2:(G6++Array.replicate (fn.ntmps - G6.size) undef).getD t undef=x:=by
       have hv:G6[t]? =some x:=by simpa using g1
       have hlt:t<G6.size:=Nat.lt_of_lt_of_eq hs hvl.symm;simp [Array.getElem?_append_left hlt,hv]
      rw [e1,e2];exact g2.place
     .have e1:(args++c9 (af.names.length - args.length) c8.any).getD s .any= .any:=by
       rw [List.getD,s5 (by omega)]
       rcases y4 (s - args.length) (af.names.length - args.length) with h|h
       .simp [h]
       .rw [List.getElem?_eq_none (by simpa using h)];rfl
      rw [e1];simp [VR]
    .simp;omega
    .simp;omega
   have hE:Nk P ⟨cf,A.prom,A.mode,A.idle,l,H.length⟩:=⟨NG,hcan,hpre.strict,hpre.base⟩;refine calls_of_wp_defers hf hbody ?_;have fin:∀ (st:St) (vs:List c8),aN st.T st.H af.results=some vs->finish af.bC H.length vs st.H=some (v,H1)->∀ a' w' G' I' N',Cd P af.names ⟨cf,A.prom,A.mode,A.idle,l,H.length⟩ fn.ntmps st a' w' G' I' N' ->
     aj ⟨cf,A.prom,A.mode,A.idle,l,H.length⟩ H w G I N st.H w' G' I' N' ->Leaves P fn a'.tmps (fun e w' =>∃ x G' I' N',e= .returned x/\ki l H w G I N v H1 x w' G' I' N') a'.defers .returning w' :=by
    intro st vs hvs rG a' w' G' I' N' hc hs;refine wR CZ a'.defers w' hc.idle ?_;intro w'' aD5;have mQ:=hc.same aD5;have hs2:=hs.same aD5;obtain ⟨xs,h1,h2,h3⟩:=Oh mQ fn.results.toList af.results vs hres hvs;refine ⟨_,Jl h1,(if h:xs.length=1 then xs[0]'(by omega) else .tuple xs.toArray),?_⟩;obtain ⟨pl,G2,hm,HY,hv⟩:=ar5 (w:=w'') (G:=G') (I:=I') (N:=N') h2 h3;have LY:Ext G w G2 w'' :=hs2.ext.trans hm.ext;have ab8:kj l G w G2 w'' :=hs2.ez.trans fun id _=>⟨fun b hb=>⟨hm.obj b id hb,rfl⟩,fun off=>hm.keeps _ (fun e=>HY id off e.symm)⟩
    have hhr:HR G2 I' N' w'' st.H:=mQ.H.Iy hm HY;unfold finish at rG;split at rG
    .cases rG
     refine ⟨G2,I',N',rfl,hv,hhr,hm.wf mQ.wf,LY,ab8,fun id hid hN=>hs2.inj id hid hN,fun id hN=>hs2.mono id (hpre.bt id hN) hN,fun id hid hN=>hs2.old id hid hN,mQ.bt,hs2.hle,mQ.V4⟩
    .rename_i wL
     have wL:af.bC=false:=by simpa using wL
     have hb:=hbase wL;split at rG
     .rename_i u hu
      split at rG
      .rename_i uS
       cases rG;obtain ⟨_,hfz⟩:=pM (n:=H.length) hhr 1000000 _ _ hu;obtain ⟨b,e1,e2⟩:=hfz 0 _ .ret _ rfl hv;simp at e1;subst e1;have TA:=VR.low H.length _ _ _ uS e2;have hlt:∀ (id:Nat) o,(st.H.take H.length)[id]? =some o->id<H.length/\st.H[id]? =some o:=by
        intro id o ho;have:id<H.length:=by have:=u7 ho;simp at this;omega
        rw [List.getElem?_take_of_lt this] at ho;exact ⟨this,ho⟩
       refine ⟨freeze G2 H.length,I',fun i=>N' i/\i<H.length,rfl,TA,fun id o ho=> ?_,QF (hm.wf mQ.wf),LY.trans rF,fun id hid=> ?_,fun id hid hN=>hs2.inj id hid hN,fun id hN=>⟨hs2.mono id (hpre.bt id hN) hN,hpre.bt id hN⟩,
        fun id hid hN=>hs2.old id hid hN.1,fun id hN=> ?_,fun id o' hid ho=> ?_,fun id o ho=> ?_⟩
       .obtain ⟨h4,h5⟩:=hlt id o ho
        have pN:=(mQ.V4 id o h5).2 (by simp only;omega);simp only at pN;exact OR.mono rF.sub (fun _ _=>rfl) (fun _ h=>h) id o (fun hb=>⟨zU h4 hb,rfl⟩) (fun _=>mb _) (OR.low h4 o (by omega) (hhr id o h5))
       .obtain ⟨p1,p2⟩:=ab8 id hid
        refine ⟨fun b hb=> ?_,fun off b m hb=> ?_⟩
        .obtain ⟨q1,q2⟩:=p1 b hb
         exact ⟨zU (hpre.kI b id hb) q1,q2⟩
        .obtain ⟨q1,q2⟩:=p2 off b m hb
         obtain ⟨q3,_⟩:=mb (w:=w'') (n:=H.length) (.cell id off) b m q1;exact ⟨q3,q2⟩
       .have:=mQ.bt id hN.1;simp;omega
       .obtain ⟨h4,h5⟩:=hlt id o' ho
        exact hs2.hle id o' hid h5
       .obtain ⟨h4,h5⟩:=hlt id o ho
        exact mQ.V4 id o h5
      .cases rG
     .cases rG
   split at hrun
   .cases hrun
   .rename_i x st hne hex
    split at hrun
    .rename_i vs hvs
     refine LQ hE al3 n _ af.body c (Nat.lt_succ_self _) aA9 _ x st _ w G I N hex hstart _ ?_;intro a' w' G' I' N' hc hs;have:=fin st vs hvs hrun a' w' G' I' N' hc (hs H w G I N hpre.bj2 (aj.refl _ _ _ _ _ _));cases x with
     |normal=>exact this
     |ret=>exact this
     |exit id=>exact absurd rfl (hne id)
    .cases hrun
   .cases hrun
  .cases hrun
def bp (P:Program)(prom:FuncId->Bool)(f:FuncId)(p:List c8->o9->F2->Option (c8×o9)):Prop :=
 S0 P f=true/\∀ args H l v H1,p args H l=some (v,H1)->∀ w G I N G6,yM l H w G I N args G6->(prom f=false->l.base=H.length) ->
  Calls P f G6 w fun e w' =>∃ x G' I' N',e= .returned x/\ki l H w G I N v H1 x w' G' I' N'
structure nA (P:Program)(A:Prog):Prop where
 idle:∀ f,A.idle f=true->Idle P f
 cw:∀ f p,A.cw f=some p->bp P A.prom f p
 fn:∀ f af,A.cw f=none->A.fn f=some af->∃ fn,P.funcs[f]? =some fn/\gT P fn af=true
def LD {P:Program}{f:FuncId}{fn:Func}{af:s6}(hf:P.funcs[f]? =some fn)(h:gT P fn af=true):S0 P f=true:=by
 grind [gT,S0]
theorem lN {P:Program}{A:Prog}(h:nA P A):∀ n,nx P (call A n) A.prom/\∀ f args H lm r,call A n f args H lm=some r->S0 P f=true
 |0=>⟨fun f args H l v H1 hc=>by simp [call] at hc,fun f args H lm r hc=>by simp [call] at hc⟩
 |n+1=>by
  obtain ⟨ih1,ih2⟩:=lN h n;refine ⟨fun f args H l v H1 hc w G I N G6 hpre hb=> ?_,fun f args H lm r hc=> ?_⟩
  .simp [call] at hc
   split at hc
   .rename_i p hp
    exact (h.cw f p hp).2 args H l v H1 hc w G I N G6 hpre hb
   .rename_i hp
    split at hc
    .rename_i af haf
     obtain ⟨fn,h1,h2⟩:=h.fn f af hp haf;exact LA h.idle ih1 ih2 h1 h2 hc hpre (fun gj=>hb (by simp_all [Prog.prom]))
    .cases hc
  .simp [call] at hc
   split at hc
   .rename_i p hp
    exact (h.cw f p hp).1
   .rename_i hp
    split at hc
    .rename_i af haf
     obtain ⟨fn,h1,h2⟩:=h.fn f af hp haf;exact LD h1 h2
    .cases hc
end Go.x9
namespace Go.x9
variable [D9]
def ic (o:Oper):Bool:=match o.op with
 | .call ⟨.builtin .recover,args,_⟩=>args.isEmpty&&o.guard.isNone
 |_=>false
def Fx (P:Program)(d:Option Tmp)(o:Oper):Bool:=match o.op with
 | .binOp .neq t (.tmp x) (.const .nilIface) _=>d==some x&&o.guard.isNone&&(match P.underlying t with
  |some (.interface _)=>true
  |_=>false)
 |_=>false
def cR (P:Program)(fn:Func):Bool :=
 fn.name != "runtime.NumGoroutine" && fn.results.isEmpty && (match fn.body with
 |some (.region _ ops false)=>(match ops.toList with
  |[o]=>ic o
  |_=>false)
 |some (.seq (.region _ ops false) (.cond (.tmp c) _ .skip))=>(match ops.toList with
  |[o1,o2]=>ic o1&&Fx P o1.dst o2&&o2.dst==some c&&(match o1.dst with
   |some d=>decide (d<fn.ntmps)&&decide (c<fn.ntmps)
   |none=>false)
  |_=>false)
 |_=>false)
def wY {P:Program}{o:Oper}(h:ic o=true)(a:Act)(w:World):(execOp a.eval o).run P w= .ok .recover w:=by
 unfold ic at h;split at h
 .rename_i args argTypes hop
  obtain ⟨dst,dW,ty,pos,after,guard⟩:=o;simp only at hop;subst hop;simp [execOp,resolve,invoke,builtin]
 .cases h
def oy {o:Oper}(h:ic o=true)(y:Nat->Option Bool):Region.wanted o y=true:=by
 unfold ic at h;split at h
 .simp only [Bool.and_eq_true] at h
  have:o.guard=none:=by simpa using h.2
  simp [Region.wanted,this]
 .cases h
def VW {P:Program}{o:Oper}{d:Option Tmp}(h:Fx P d o=true)(a:Act)(w:World)(ha:∀ x,d=some x->a.tmps.getD x undef= .nilIface):(execOp a.eval o).run P w= .ok (.value (.bool false)) w:=by
 unfold Fx at h;split at h
 .rename_i t x yt hop
  simp only [Bool.and_eq_true,beq_iff_eq] at h;obtain ⟨⟨h1,h2⟩,h3⟩:=h;obtain ⟨dst,dW,ty,pos,after,guard⟩:=o;simp only at hop;subst hop;have hx:a.eval (.tmp x)= .nilIface:=by simp only [Act.eval];exact ha x h1
  split at h3
  .rename_i ms hu
   have h1:(execOp a.eval (⟨dst,.binOp .neq t (.tmp x) (.const .nilIface) yt,ty,pos,after,guard⟩:Oper)).run P w= .ok (.value (.bool false)) w:=by
    simp only [execOp,hx];have hc:a.eval (.const .nilIface)= .nilIface:=rfl;rw [hc];simp only [eqGuard,binOp];simp [Co hu]
   exact h1
  .cases h3
 .cases h
def Z4 {P:Program}{f:FuncId}{fn:Func}(hf:P.funcs[f]? =some fn)(h:cR P fn=true):Idle P f:=by
 unfold cR at h;simp only [Bool.and_eq_true] at h;obtain ⟨⟨hname,hres⟩,h⟩:=h;have aC9 :fn.results= #[]:=by simpa using hres
 have hrun:∀ tmps w,(results fn tmps).run P w= .ok (.tuple #[]) w:=by
  intro tmps w;simp [results,aC9]
 have ab4:∀ (c₀:Frame) (cs:List Frame),c₀.mode= .returning->recoverD (c₀::cs)=none:=by
  intro c₀ cs hm;simp [recoverD,hm]
 split at h
 .rename_i id ops hb
  refine ⟨by simp only [S0,hf,hb];simpa using hname,fun args w=> ?_⟩;refine callsD_of_wpS hf hb ?_;intro c₀ cs hm;split at h
  .rename_i o ho
   have TF:ops= #[o]:=by apply Array.toList_inj.1;simpa using ho
   subst TF;refine wpS_region ?_;have HP:(#[o]:Array Oper)[0]? =some o:=rfl;show wpOpsS P #[o] _ [0] _ _ _
   simp only [wpOpsS,HP,oy h,if_true,wY h,ab4 c₀ cs hm];refine ⟨by rw [lQ],.returning,?_,.tuple #[],hrun _ _,⟨_,rfl⟩,rfl,fT.refl _⟩;cases c₀;simp only at hm;subst hm;rfl
  .cases h
 .rename_i id ops c thn hb
  refine ⟨by simp only [S0,hf,hb];simpa using hname,fun args w=> ?_⟩;refine callsD_of_wpS hf hb ?_;intro c₀ cs hm;split at h
  .rename_i o1 o2 ho
   have TF:ops= #[o1,o2]:=by apply Array.toList_inj.1;simpa using ho
   subst TF;simp only [Bool.and_eq_true,beq_iff_eq] at h;obtain ⟨⟨⟨h1,h2⟩,h3⟩,h4⟩:=h;cases hd:o1.dst with
   |none=>rw [hd] at h4;cases h4
   |some d =>
    rw [hd] at h4;simp only [Bool.and_eq_true,decide_eq_true_eq] at h4;refine wpS_seq (wpS_region ?_);have hg0:(#[o1,o2]:Array Oper)[0]? =some o1:=rfl;have hg1:(#[o1,o2]:Array Oper)[1]? =some o2:=rfl;show wpOpsS P #[o1,o2] _ [0,1] _ _ _
    simp only [wpOpsS,hg0,hg1,oy h1,if_true,wY h1,ab4 c₀ cs hm];have Xs:∀ y,Region.wanted o2 y=true:=by
     intro y;unfold Fx at h2;split at h2
     .simp only [Bool.and_eq_true] at h2
      have:o2.guard=none:=by simpa using h2.1.2
      simp [Region.wanted,this]
     .cases h2
    have hlt:d<(args++Array.replicate (fn.ntmps - args.size) undef).size:=Nat.lt_of_lt_of_le h4.1 (by simp;omega);have hlt2:c<(args++Array.replicate (fn.ntmps - args.size) undef).size:=Nat.lt_of_lt_of_le h4.2 (by simp;omega);have Xo:=fun a hh=>VW (P:=P) h2 a w hh
    simp only [Xs,if_true];rw [Xo _ (by
     intro x hx;rw [hd] at hx;cases hx;rw [hd];exact bf hlt)]
    simp only [Oper.upon,Exit.thenS];refine wpS_cond (t:=false) ?_ ?_
    .rw [h3]
     simp only [Act.eval];exact bf (by rw [size_put];exact hlt2)
    .refine wpS_of_wp (wp_skip ?_)
     refine ⟨by rw [lQ,lQ],.returning,?_,.tuple #[],hrun _ _,⟨_,rfl⟩,rfl,fT.refl _⟩;cases c₀;simp only at hm;subst hm;rfl
  .cases h
 .cases h
end Go.x9
namespace Go.x9
open Go
def aa1 (P:Program)(g:FuncId->Option s6)(f:Nat):Bool:=match g f with
 |none=>true
 |some af=>match P.funcs[f]? with
  |some fn=>gT P fn af
  |none=>false
def upTo (n:Nat)(g:FuncId->Option s6)(f:FuncId):Option s6:=match Nat.blt f n with
 |true=>g f
 |false=>none
def gI (P:Program)(g:FuncId->Option s6)(k:Nat):Bool:=(List.range' (32 * k) 32).all (aa1 P g)
def ZH {P:Program}{g:FuncId->Option s6}{n:Nat}(h:∀ k,k<n->gI P g k=true)(f:FuncId)(af:s6)(hf:upTo (32 * n) g f=some af):∃ fn,P.funcs[f]? =some fn/\gT P fn af=true:=by
 unfold upTo at hf;split at hf
 .rename_i hb
  have hb:Nat.lt f (32 * n):=j5 hb;have hb: @LT.lt Nat _ f (32 * n):=hb;have h1:=L9.1 (h (f / 32) (Nat.div_lt_of_lt_mul hb)) f (List.mem_range'_1.2 ⟨Nat.mul_div_le f 32,Nat.lt_mul_div_succ f (by decide)⟩);unfold aa1 at h1;rw [hf] at h1;simp only at h1;split at h1
  .rename_i fn hfn
   exact ⟨fn,hfn,h1⟩
  .cases h1
 .cases hf
end Go.x9
namespace Go.x9
variable [D9]
mutual
def Fe:Data->Data->Bool
 | .bool a,.bool b=>a==b
 | .int k a,.int k' b=>k==k' &&a==b
 | .str a,.str b=>a==b
 | .slice n xs,.slice m ys=>n==m&&uO xs ys
 | .br,.br=>true
 | .N9,.N9=>true
 | .cu,.cu=>true
 | .nilIface,.nilIface=>true
 |_,_=>false
def uO:List Data->List Data->Bool
 |[],[]=>true
 |x::xs,y::ys=>Fe x y&&uO xs ys
 |_,_=>false
end
mutual
theorem CU:∀ (a b:Data),Fe a b=true->a=b
 | .slice n xs,b,h=>by
  cases b<;>simp only [Fe,Bool.and_eq_true,beq_iff_eq,j3] at h;rw [h.1,zH _ _ h.2]
 | .bool _,b,h| .int _ _,b,h| .str _,b,h| .br,b,h| .N9,b,h| .cu,b,h| .nilIface,b,h=>by cases b<;>simp_all [Fe]
theorem zH:∀ (a b:List Data),uO a b=true->a=b
 |[],[],_=>rfl
 |x::xs,y::ys,h=>by
  simp only [uO,Bool.and_eq_true] at h;rw [CU x y h.1,zH xs ys h.2]
 |[],_::_,h=>by simp [uO] at h
 |_::_,[],h=>by simp [uO] at h
end
def eqC:c8->c8->Bool
 | .d x,.d y=>Fe x y
 |_,_=>false
def QC:List c8->List c8->Bool
 |[],[]=>true
 |x::xs,y::ys=>eqC x y&&QC xs ys
 |_,_=>false
def eqA:c8->c8->Bool
 | .agg l,.agg m=>QC l m
 |a,b=>eqC a b
def QB:List c8->List c8->Bool
 |[],[]=>true
 |x::xs,y::ys=>eqA x y&&QB xs ys
 |_,_=>false
def CR {a b:c8}(h:eqC a b=true):a=b:=by
 unfold eqC at h;split at h
 .rw [CU _ _ h]
 .cases h
theorem zG:∀ (a b:List c8),QC a b=true->a=b
 |[],[],_=>rfl
 |x::xs,y::ys,h=>by
  simp only [QC,Bool.and_eq_true] at h;rw [CR h.1,zG xs ys h.2]
 |[],_::_,h=>by simp [QC] at h
 |_::_,[],h=>by simp [QC] at h
def QA {a b:c8}(h:eqA a b=true):a=b:=by
 unfold eqA at h;split at h
 .rw [zG _ _ h]
 .exact CR h
theorem zD:∀ (a b:List c8),QB a b=true->a=b
 |[],[],_=>rfl
 |x::xs,y::ys,h=>by
  simp only [QB,Bool.and_eq_true] at h;rw [QA h.1,zD xs ys h.2]
 |[],_::_,h=>by simp [QB] at h
 |_::_,[],h=>by simp [QB] at h
structure yP where
 f:FuncId
 args:List c8
 res:c8
def S8:F2:=⟨0,0,0,0⟩
def F2.isZero (l:F2):Bool:=l.Tm==0&&l.Ti==0&&l.base==0&&l.strict==0
def Fy {l:F2}(h:l.isZero=true):l=S8:=by
 obtain ⟨a,b,c,d⟩:=l;simp [F2.isZero] at h;obtain ⟨⟨⟨rfl,rfl⟩,rfl⟩,rfl⟩:=h;rfl
def look (f:FuncId)(args:List c8):List yP->Option c8
 |[]=>none
 |e::es=>if e.f==f&&QB e.args args then some e.res else look f args es
theorem Ae {f:FuncId}{args:List c8}{v:c8}:∀ (es:List yP),look f args es=some v->∃ e,e ∈ es/\e.f=f/\e.args=args/\e.res=v
 |[],h=>by simp [look] at h
 |e::es,h=>by
  unfold look at h;split at h
  .rename_i hc
   simp only [Bool.and_eq_true,beq_iff_eq] at hc;cases h;exact ⟨e,by simp,hc.1,zD _ _ hc.2,rfl⟩
  .obtain ⟨e',h1,h2⟩:=Ae es h
   exact ⟨e',by simp [h1],h2⟩
def memo (A:Prog)(es:List yP):Prog :=
 ⟨A.fn,A.idle,A.mode,fun f=>if es.any (fun e=>e.f==f) then some (fun args H l=>if H.isEmpty&&l.isZero then (match look f args es with
  |some v=>some (v,[])
  |none=>none) else none) else A.cw f⟩
end Go.x9
namespace Go.x9
variable [D9]
structure Kept (w w' :World):Prop where
 os:w'.os=w.os
 output:w'.output=w.output
 size:w.heap.size<=w'.heap.size
 old:∀ b:Nat,b<w.heap.size->w'.heap[b]? =w.heap[b]?
def Kept.but {w w' :World}(h:Kept w w')(may:MemPlace->Prop):w.keptBut w' may:=by
 refine ⟨h.os,h.output,fun i hi=> ?_⟩;rw [h.old i hi];split
 .rename_i nU jl
  rw [nU] at jl;cases jl;exact ⟨rfl,rfl,rfl,fun _ _=>rfl⟩
 .rename_i nU jl
  rw [nU] at jl;cases jl;exact Or.inr ⟨rfl,rfl⟩
 .rfl
theorem Kept.frozen {w w' :World}(h:Kept w w'){a:Addr}(ha:a.block<w.heap.size):w'.frozen? a=w.frozen? a:=by
 simp only [World.frozen?,h.old a.block ha]
def G0 (w:World):Gh:=fun b=>if b<w.heap.size then .kg else .free
def QY {P:Program}{A:Prog}(h:nA P A){n:Nat}{f:FuncId}{args:List c8}{G6:Array Value}{w:World}(hc:call A n f args [] S8=some (.d (.bool true),[]))
  (hargs:J5 (G0 w) (fun _=>(0,0)) (fun _=>False) w args G6.toList):Calls P f G6 w fun e w' =>e= .returned (.bool true)/\Kept w w' :=by
 have hpre:yM S8 [] w (G0 w) (fun _=>(0,0)) (fun _=>False) args G6:=by
  refine ⟨hargs,?_,?_,?_,?_,o5 _,o5 _,?_,fun _ b n pl hb=>by simp only [G0] at hb;split at hb<;>cases hb⟩
  .intro id o ho;simp at ho
  .intro b hb;simp only [G0];rw [if_neg (by omega)]
  .intro id hid;exact hid.elim
  .intro id o ho;simp at ho
  .intro b id hb
   simp only [G0] at hb;split at hb<;>cases hb
 refine Calls.mono ((lN h n).1 f args [] S8 _ _ hc w _ _ _ G6 hpre (fun _=>rfl)) ?_;rintro e w' ⟨x,G',I',N',rfl,hp⟩;have hx:=hp.val;simp only [VR,DR] at hx;subst hx;refine ⟨rfl,hp.ext.os,hp.ext.output,hp.ext.size,fun b hb=> ?_⟩;refine (hp.ext.still b (Or.inl ?_)).2;simp only [G0];rw [if_pos hb]
def ES {A:Prog}{n:Nat}{f:FuncId}{af:s6}{args:List c8}{H:o9}{l:F2}(hp:A.cw f=none)(hf:A.fn f=some af):call A (n+1) f args H l=fW A (call A n) n af args H l:=by
 simp only [call,hp,hf]
def iK (af:s6)(n:Nat)(o:Option (F7×St)):Option (c8×o9):=match o with
 |some (.exit _,_)=>none
 |some (_,st)=>(match aN st.T st.H af.results with
  |some vs=>finish af.bC n vs st.H
  |none=>none)
 |none=>none
def sA {A:Prog}{cf:rZ}{n:Nat}{af:s6}{args:List c8}{H:o9}{l:F2}(h:args.length=af.nparams) :
  fW A cf n af args H l=iK af H.length (exec ⟨cf,A.prom,A.mode,A.idle,l,H.length⟩ n af.body ⟨args++c9 (af.names.length - args.length) .any,H⟩):=by
 unfold fW iK;rw [if_pos h];rfl
section
variable {H:Type} {enc:TypeId×Value->H} {P:Program}
open Go.ChangeShapes Go.WideShapes
def Rk {f:Func}{s:ChangeSpec}{apart fresh handsOn again:Bool}{W W' :World}{args:Array Value}{v:Value}{ds gs:List (DataW H)}{before pa pv:List MemPlace}
  (hW:DataW.Whole enc P f.params.toList s.vars apart W args.toList ds gs before) (hK:Kept W W')
  (hres:∀ (b:Nat) (sp:Nat->Bool) (hd:Bool),DataW.TrodAll enc P W' b sp hd f.resultTypes.toList (v.resultList f.resultTypes.size) (s.fn H (ds++gs)).results [])
  (hargs:∀ sp:Nat->Bool,(∀ p ∈ before,sp p.block=true)->DataW.TrodAll enc P W' 0 sp true f.params.toList args.toList (s.fn H (ds++gs)).args pa)
  (hvars:∀ sp:Nat->Bool,(∀ p ∈ before,sp p.block=true)->DataW.TrodVars enc P W' sp s.vars (s.fn H (ds++gs)).vars pv)
  (hps:before=pa++pv)
  (hok:∀ (j:Nat) (t:TypeId) (r:Value),f.resultTypes[j]? =some t->(v.resultList f.resultTypes.size)[j]? =some r->Value.okWide P W' .any 0 t r) :
  s.post enc P f apart fresh handsOn again W args v W' :=by
 have hlt:=hW.lt;have hin:∀ p,p ∈ pa++pv->p ∈ before:=fun p hp=>by rw [hps];exact hp
 refine ⟨ds,gs,before,[],pa,pv,hW,hres _ _ _,hargs _ (fun p hp=>by simpa using hlt p hp),hvars _ (fun p hp=>by simpa using hlt p hp),World.keptBut_mono (fun p hp=>⟨hp,?_⟩) (hK.but _),fun _=> ?_⟩
 .rw [hps,M4] at hp
  exact Or.inr hp
 .obtain ⟨_,_,_,_,_,hz,hn⟩:=hW
  refine ⟨hok,_,_,([]++pa)++pv,⟨[]++pa,pv,trodAll_append (hargs _ (fun _ _=>rfl)) (hres _ _ _),hvars _ (fun _ _=>rfl),rfl,fun b off hp=> ?_,fun ha=> ?_⟩,fun p hp _=> ?_⟩
  .have hb:=hin _ (by simpa using hp)
   rw [hK.frozen (hlt _ hb)];exact hz b off hb
  .have:=hn ha
   rw [hps] at this;simpa using this
  .exact hin p (by simpa using hp)
end
end Go.x9
namespace Go.x9
instance:D9:=⟨False⟩
inductive CT where
 |bool
 |int (k:IntKind)
 |str
 |slice (e:List CT)
mutual
def Fits:CT->Data->Prop
 | .bool,d=>∃ b,d= .bool b
 | .int k,d=>∃ n,d= .int k n/\(Lit.int k n).wf=true
 | .str,d=>∃ s:List UInt8,d= .str s/\s.length<=maxLen
 | .slice e,d=>∃ rows:List (List Data),d= .slice rows.length rows.flatten/\rows.length<=maxLen/\∀ r,r ∈ rows->X7 e r
def X7:List CT->List Data->Prop
 |[],ds=>ds=[]
 |c::cs,ds=>∃ d r,ds=d::r/\Fits c d/\X7 cs r
end
theorem X7.length:∀ (l:List CT) (ds:List Data),X7 l ds->ds.length=l.length
 |[],ds,h=>by simp_all [X7]
 |c::cs,ds,h=>by
  obtain ⟨d,r,rfl,_,h3⟩:=h;simp [X7.length cs r h3]
theorem lH:∀ {l m:List CT} {ds es:List Data},X7 l ds->X7 m es->X7 (l++m) (ds++es)
 |[],m,ds,es,h,k=>by simp_all [X7]
 |c::cs,m,ds,es,h,k=>by
  obtain ⟨d,r,rfl,h2,h3⟩:=h;exact ⟨d,r++es,rfl,h2,lH h3 k⟩
def Ss (a:Addr)(m n:Nat):a.add (m+n)=(a.add m).add n:=by
 grind [Addr.add,Nat.add_assoc]
def Lq (P:Program)(lay:TypeId->List CT->Bool):List Field->Nat->List CT->Bool
 |[],_,l=>l.isEmpty
 |f::fs,o,l=>f.offset==o&&decide (P.cellsOf f.type<=l.length)&&lay f.type (l.take (P.cellsOf f.type))&&Lq P lay fs (o+P.cellsOf f.type) (l.drop (P.cellsOf f.type))
def Qf (lay:List CT->Bool)(c:Nat):Nat->List CT->Bool
 |0,l=>l.isEmpty
 |m+1,l=>decide (c<=l.length)&&lay (l.take c)&&Qf lay c m (l.drop c)
def Lay (P:Program):Nat->TypeId->List CT->Bool
 |0,_,_=>false
 |n+1,t,l=>match P.underlying t with
  |some .bool=>(match l with
   |[.bool]=>true
   |_=>false)
  |some (.int k)=>(match l with
   |[.int k']=>k==k'
   |_=>false)
  |some .string=>(match l with
   |[.str]=>true
   |_=>false)
  |some (.slice e)=>(match l with
   |[.slice le]=>Lay P n e le&&P.cellsOf e==le.length&&decide (0<le.length)
   |_=>false)
  |some (.struct fs)=>P.cellsOf t==l.length&&Lq P (Lay P n) fs.toList 0 l
  |some (.array m e)=>P.cellsOf t==l.length&&Qf (Lay P n e) (P.cellsOf e) m l
  |_=>false
abbrev I0:R3:=fun _=>(0,0)
abbrev N0:Nat->Prop:=fun _=>False
theorem Kept.cell {w w' :World}(h:Kept w w'){a:Addr}{v:Value}(hv:w.cell? a=some v):w'.cell? a=some v:=by
 have:a.block<w.heap.size:=by
  grind [y4,World.cell?,Array.getElem?_eq_none]
 have e:w'.cell? a=w.cell? a:=by
  unfold World.cell?;rw [h.old _ this]
 simp_all
theorem ig {α β:Type}{f g:α->Option β}:∀ {l:List α} {ys:List β},(∀ x y,x ∈ l->y ∈ ys->f x=some y->g x=some y)->l.mapM f=some ys->l.mapM g=some ys
 |[],ys,_,h=>by simpa using h
 |x::xs,ys,hfg,h=>by
  rw [List.mapM_cons] at h ⊢;cases hf:f x with
  |none=>simp_all
  |some y =>
   rw [hf] at h;cases hr:xs.mapM f with
   |none=>simp_all
   |some r =>
    simp [hr] at h;subst h;rw [hfg x y (by simp) (by simp) hf,ig (fun a b ha hb=>hfg a b (by simp [ha]) (by simp [hb])) hr];rfl
theorem gU {α β:Type}{f:α->Option β}:∀ {l:List α} {ys:List β},l.mapM f=some ys->ys.length=l.length/\∀ (i:Nat) x,l[i]? =some x->∃ y,ys[i]? =some y/\f x=some y
 |[],ys,h=>by simp_all
 |x::xs,ys,h=>by
  rw [List.mapM_cons] at h;cases hf:f x with
  |none=>simp_all
  |some y =>
   rw [hf] at h;cases hr:xs.mapM f with
   |none=>simp_all
   |some r =>
    simp  at h;obtain ⟨h1,h2⟩:=gU hr
    grind
theorem Kept.cells {w w' :World}(h:Kept w w'){base:Nat}{a:Addr}{n:Nat}{cs:List Value}(hc:w.cells? base a n=some cs):w'.cells? base a n=some cs:=by
 unfold World.cells? at hc ⊢;split at hc
 .rename_i hb
  rw [if_pos hb];exact ig (fun x y _ _ hx=>h.cell hx) hc
 .cases hc
section
variable {H:Type} {enc:TypeId×Value->H} {P:Program} {w:World} {base:Nat} {spare:Nat->Bool} {held:Bool}
theorem trod_bool {t:TypeId}{fuel:Nat}{cs:List Value}{x:DataW H×List MemPlace}(hu:P.underlying t=some .bool)(h:DataW.trod enc P w base spare held (fuel+1) t cs=some x):∃ b,cs=[.bool b]/\x=(.lit (.bool b),[]):=by
 unfold DataW.trod at h
 grind
theorem trod_int {t:TypeId}{k:IntKind}{fuel:Nat}{cs:List Value}{x:DataW H×List MemPlace}(hu:P.underlying t=some (.int k))(h:DataW.trod enc P w base spare held (fuel+1) t cs=some x):∃ n,cs=[.int k n]/\(Lit.int k n).wf=true/\x=(.lit (.int k n),[]):=by
 unfold DataW.trod at h
 grind
theorem Br {t:TypeId}{fuel:Nat}{cs:List Value}{x:DataW H×List MemPlace}(hu:P.underlying t=some .string)(h:DataW.trod enc P w base spare held (fuel+1) t cs=some x):∃ s:ByteArray,cs=[.string s]/\s.size<=maxLen/\x=(.lit (.string s.data.toList),[]):=by
 unfold DataW.trod at h
 grind
def trod_slice {t e:TypeId}{fuel:Nat}{cs:List Value}{x:DataW H×List MemPlace}(hu:P.underlying t=some (.slice e))(h:DataW.trod enc P w base spare held (fuel+1) t cs=some x) :
  (cs=[.slice none 0 0]/\x=(.nil,[]))\/∃ a len cap,cs=[.slice (some a) len cap]/\base<=a.block/\len<=cap/\cap<=maxLen /\
   (∃ elems,((List.range len).mapM fun i=>(w.cells? base (a.add (i * P.cellsOf e)) (P.cellsOf e)).bind (DataW.trod enc P w base spare held fuel e))=some elems) /\
   (spare a.block=true->∃ rest,((List.range (cap - len)).mapM fun j=>(w.cells? base (a.add ((len+j) * P.cellsOf e)) (P.cellsOf e)).bind (DataW.trod enc P w base spare held fuel e))=some rest):=by
 unfold DataW.trod at h;rw [hu] at h
 match cs,h with
 |[],h=>cases h
 |[v],h =>
  cases v<;>try (cases h)
  rename_i o len cap;cases o with
  |none =>
   cases len with
   |zero =>
    cases cap with
    |zero=>simp_all
    |succ c=>cases h
   |succ n=>cases h
  |some a =>
   simp only at h;split at h
   .rename_i hc
    refine Or.inr ⟨a,len,cap,rfl,hc.1,hc.2.1,hc.2.2,?_⟩;cases hm:(List.range len).mapM fun i=>(w.cells? base (a.add (i * P.cellsOf e)) (P.cellsOf e)).bind (DataW.trod enc P w base spare held fuel e) with
    |none=>simp_all
    |some elems =>
     refine ⟨⟨elems,rfl⟩,fun hs=> ?_⟩;cases hr:(List.range (cap - len)).mapM fun j=>(w.cells? base (a.add ((len+j) * P.cellsOf e)) (P.cellsOf e)).bind (DataW.trod enc P w base spare held fuel e) with
     |none=>simp_all
     |some rest=>simp_all
   .cases h
 |v::_::_,h=>simp_all
def trod_array {t e:TypeId}{m:Nat}{fuel:Nat}{cs:List Value}{x:DataW H×List MemPlace}(hu:P.underlying t=some (.array m e))(h:DataW.trod enc P w base spare held (fuel+1) t cs=some x) :
  cs.length=P.cellsOf t/\∃ xs,((List.range m).mapM fun i=>DataW.trod enc P w base spare held fuel e ((cs.drop (i * P.cellsOf e)).take (P.cellsOf e)))=some xs/\x=(.agg (xs.map (·.1)),xs.flatMap (·.2)):=by
 simp_all [DataW.trod]<;>grind
def trod_struct {t:TypeId}{fs:Array Field}{fuel:Nat}{cs:List Value}{x:DataW H×List MemPlace}(hu:P.underlying t=some (.struct fs))(h:DataW.trod enc P w base spare held (fuel+1) t cs=some x) :
  cs.length=P.cellsOf t/\∃ xs,(fs.toList.mapM fun f=>DataW.trod enc P w base spare held fuel f.type ((cs.drop f.offset).take (P.cellsOf f.type)))=some xs/\x=(.agg (xs.map (·.1)),xs.flatMap (·.2)):=by
 simp_all [DataW.trod]<;>grind
abbrev Cells (w:World)(ds:List Data)(cs:List Value):Prop:=J5 (G0 w) I0 N0 w (ds.map .d) cs
theorem Cells.append {ds es:List Data}{cs fs:List Value}(h:Cells w ds cs)(k:Cells w es fs):Cells w (ds++es) (cs++fs):=by
 simp_all [Cells,List.map_append,qU]
theorem ah4 {b o:Nat}{v:Value}(h:w.cell? (ad b o)=some v):gX (G0 w) b o:=by
 grind [y4,World.cell?,Array.getElem?_eq_none,gX,G0]
def Ve (hspare:∀ b,spare b=true):∀ (n:Nat) (t:TypeId) (l:List CT),Lay P n t l=true->∀ (fuel:Nat) (cs:List Value) (x:DataW H×List MemPlace),DataW.trod enc P w base spare held fuel t cs=some x->∃ ds,X7 l ds/\Cells w ds cs:=by
 intro n
 induction n with
 |zero=>simp_all [Lay]
 |succ n ih =>
  intro t l hL fuel cs x h;cases fuel with
  |zero=>simp [DataW.trod] at h
  |succ fuel =>
   unfold Lay at hL;split at hL
   .rename_i hu
    split at hL
    .obtain ⟨b,rfl,_⟩:=trod_bool hu h
     exact ⟨[.bool b],by simp [X7,Fits],by simp [Cells,J5,VR,DR]⟩
    .cases hL
   .rename_i k hu
    split at hL
    .rename_i k'
     have:k=k' :=by simp_all
     subst this;obtain ⟨m,rfl,hw,_⟩:=trod_int hu h;exact ⟨[.int k m],by simp_all [X7,Fits],by simp [Cells,J5,VR,DR]⟩
    .cases hL
   .rename_i hu
    split at hL
    .obtain ⟨s,rfl,hs,_⟩:=Br hu h
     refine ⟨[.str s.data.toList],?_,by simp [Cells,J5,VR,DR]⟩;simp_all [X7,Fits]
    .cases hL
   .rename_i e hu
    split at hL
    .rename_i le
     simp only [Bool.and_eq_true,beq_iff_eq,decide_eq_true_eq] at hL;obtain ⟨⟨hLe,hce⟩,hpos⟩:=hL
     rcases trod_slice hu h with ⟨rfl,_⟩|⟨a,len,cap,rfl,hb,hlc,hcm,⟨elems,hel⟩,sX⟩
     .refine ⟨[.slice 0 []],?_,by simp [Cells,J5,VR,DR]⟩
      simp only [X7,Fits];exact ⟨_,_,rfl,⟨[],rfl,by simp,by simp⟩,rfl⟩
     ·
      obtain ⟨NH,mY⟩:=gU hel;have rows:∀ m,m<=len->∃ rows:List (List Data),rows.length=m/\(∀ r,r ∈ rows->X7 le r)/\(∀ (j:Nat) d,rows.flatten[j]? =some d->∃ v,w.cell? (a.add j)=some v/\DR (G0 w) w d v):=by
       intro m
       induction m with
       |zero=>simp_all
       |succ m ihm =>
        intro hm;obtain ⟨rows,r1,r2,r3⟩:=ihm (by omega);obtain ⟨y,_,hy⟩:=mY m m (List.getElem?_range (by omega));cases hcell:w.cells? base (a.add (m * P.cellsOf e)) (P.cellsOf e) with
        |none=>simp_all
        |some ces =>
         rw [hcell] at hy;simp only [Option.bind_some] at hy;obtain ⟨ds,f1,f2⟩:=ih e le hLe fuel ces y hy;have hds:ds.length=le.length:=X7.length _ _ f1;have aa9:rows.flatten.length=m * le.length:=by
          rw [List.length_flatten];have:∀ q,q ∈ rows.map List.length->q=le.length:=by
           grind [X7.length]
          have bg8:rows.map List.length=c9 m le.length:=by
           rw [List.eq_replicate_iff]
           grind
          rw [bg8];simp
         refine ⟨rows++[ds],by simp [r1],?_,?_⟩
         .grind
         .intro j d hj
          rw [List.flatten_append] at hj;simp only [List.flatten_cons,List.flatten_nil,List.append_nil] at hj
          by_cases hjl:j<rows.flatten.length
          .grind
          .rw [s5 (by omega)] at hj
           have Cb:=u7 hj;unfold World.cells? at hcell;split at hcell
           .obtain ⟨c1,c2⟩:=gU hcell
            obtain ⟨v,v1,v2⟩:=c2 (j - rows.flatten.length) (j - rows.flatten.length) (List.getElem?_range (by omega));have bd9:(a.add (m * P.cellsOf e)).add (j - rows.flatten.length)=a.add j:=by
             rw [<- Ss];simp_all
            rw [bd9] at v2;obtain ⟨v',w1,w2⟩:=J5.get _ _ f2 (j - rows.flatten.length) (.d d) (by simp_all);simp_all [VR]
           .cases hcell
      obtain ⟨rows,r1,r2,r3⟩:=rows len (o5 _);refine ⟨[.slice rows.length rows.flatten],?_,?_⟩
      .grind [X7,Fits]
      .simp only [Cells,F4,List.map_nil,J5,VR]
       refine ⟨_,_,rfl,?_,rfl⟩;simp only [DR]
       by_cases hcap:cap=0
       .simp_all
       ·
        have ak5:∃ ces,w.cells? base (a.add 0) (P.cellsOf e)=some ces:=by
         by_cases hl0:len=0
         .obtain ⟨rest,hr⟩:=sX (hspare _)
          obtain ⟨_,c2⟩:=gU hr;obtain ⟨y,_,hy⟩:=c2 0 0 (by grind);rw [hl0] at hy;simp only [Nat.zero_add,Nat.zero_mul] at hy;cases QJ:w.cells? base (a.add 0) (P.cellsOf e) with
          |none=>simp_all
          |some ces=>simp_all
         .obtain ⟨y,_,hy⟩:=mY 0 0 (by grind)
          simp only [Nat.zero_mul] at hy;cases QJ:w.cells? base (a.add 0) (P.cellsOf e) with
          |none=>simp_all
          |some ces=>simp_all
        obtain ⟨ces,Yj⟩:=ak5;have hcell:∃ v,w.cell? a=some v:=by
         unfold World.cells? at Yj;split at Yj
         .obtain ⟨_,c2⟩:=gU Yj
          obtain ⟨v,_,hv⟩:=c2 0 0 (by simp_all);simp_all [Addr.add]
         .cases Yj
        obtain ⟨v,hv⟩:=hcell;have ha:a=ad a.block a.off:=by
         obtain ⟨b,o,sp⟩:=a;cases sp with
         |none=>rfl
         |some q =>
          grind [World.cell?]
        grind [yO,aK,ah4]
    .cases hL
   .rename_i fs hu
    simp only [Bool.and_eq_true,beq_iff_eq] at hL;obtain ⟨hlen,xs,hxs,_⟩:=trod_struct hu h;have fields:∀ (fl:List Field) (o:Nat) (l:List CT) (ys:List (DataW H×List MemPlace)),Lq P (Lay P n) fl o l=true->(fl.mapM fun f=>DataW.trod enc P w base spare held fuel f.type ((cs.drop f.offset).take (P.cellsOf f.type)))=some ys->(cs.drop o).length=l.length ->
      ∃ ds,X7 l ds/\Cells w ds (cs.drop o):=by
     intro fl
     induction fl with
     |nil =>
      simp_all [Lq,X7,Cells,J5]<;>omega
     |cons f fl ihf =>
      intro o l ys hl hm hlen;simp only [Lq,Bool.and_eq_true,beq_iff_eq,decide_eq_true_eq] at hl;obtain ⟨⟨⟨ho,hle⟩,QN⟩,sX⟩:=hl;rw [List.mapM_cons] at hm;cases hf:DataW.trod enc P w base spare held fuel f.type ((cs.drop f.offset).take (P.cellsOf f.type)) with
      |none=>simp_all
      |some y =>
       rw [hf] at hm;cases hr:fl.mapM fun f=>DataW.trod enc P w base spare held fuel f.type ((cs.drop f.offset).take (P.cellsOf f.type)) with
       |none=>simp_all
       |some r =>
        rw [ho] at hf;obtain ⟨d1,a1,a2⟩:=ih f.type _ QN fuel _ y hf;obtain ⟨d2,b1,b2⟩:=ihf (o+P.cellsOf f.type) (l.drop (P.cellsOf f.type)) r sX hr (by grind);refine ⟨d1++d2,?_,?_⟩
        .grind [List.take_append_drop,lH]
        .have:cs.drop o=(cs.drop o).take (P.cellsOf f.type)++cs.drop (o+P.cellsOf f.type):=by
          rw [<- List.drop_drop,List.take_append_drop]
         rw [this];exact a2.append b2
    grind
   .rename_i m e hu
    simp only [Bool.and_eq_true,beq_iff_eq] at hL;obtain ⟨hlen,xs,hxs,_⟩:=trod_array hu h;obtain ⟨_,hat⟩:=gU hxs;have elems:∀ (q k:Nat) (l:List CT),k+q=m->Qf (Lay P n e) (P.cellsOf e) q l=true->(cs.drop (k * P.cellsOf e)).length=l.length->∃ ds,X7 l ds/\Cells w ds (cs.drop (k * P.cellsOf e)):=by
     intro q
     induction q with
     |zero =>
      simp_all [Qf,X7,Cells,J5]<;>omega
     |succ q ihq =>
      intro k l hkq hl hlen;simp only [Qf,Bool.and_eq_true,decide_eq_true_eq] at hl;obtain ⟨⟨hle,QN⟩,sX⟩:=hl;obtain ⟨y,_,hy⟩:=hat k k (by grind);obtain ⟨d1,a1,a2⟩:=ih e _ QN fuel _ y hy;obtain ⟨d2,b1,b2⟩:=ihq (k+1) (l.drop (P.cellsOf e)) (by omega) sX (by grind);refine ⟨d1++d2,?_,?_⟩
      .grind [List.take_append_drop,lH]
      .have:cs.drop (k * P.cellsOf e)=(cs.drop (k * P.cellsOf e)).take (P.cellsOf e)++cs.drop ((k+1) * P.cellsOf e):=by
        rw [Nat.succ_mul,<- List.drop_drop,List.take_append_drop]
       rw [this];exact a2.append b2
    have:=elems m 0 l (by omega) hL.2 (by simp_all);simp_all
   .cases hL
def RM {w' :World}(hK:Kept w w'){sp:Nat->Bool}:∀ (n:Nat) (t:TypeId) (l:List CT),Lay P n t l=true->∀ (fuel:Nat) (cs:List Value) (x:DataW H×List MemPlace),(∀ p,p ∈ x.2->sp p.block=true) ->
  DataW.trod enc P w base (fun _=>true) held fuel t cs=some x->DataW.trod enc P w' base sp held fuel t cs=some x:=by
 intro n
 induction n with
 |zero=>simp_all [Lay]
 |succ n ih =>
  intro t l hL fuel cs x hsp h;cases fuel with
  |zero=>simp [DataW.trod] at h
  |succ fuel =>
   unfold Lay at hL;split at hL
   .rename_i hu
    obtain ⟨b,rfl,rfl⟩:=trod_bool hu h;simp [DataW.trod,hu]
   .rename_i k hu
    obtain ⟨m,rfl,hw,rfl⟩:=trod_int hu h;simp [DataW.trod,hu,hw]
   .rename_i hu
    obtain ⟨s,rfl,hs,rfl⟩:=Br hu h;simp [DataW.trod,hu,hs]
   .rename_i e hu
    split at hL
    .rename_i le
     simp only [Bool.and_eq_true,beq_iff_eq,decide_eq_true_eq] at hL;obtain ⟨⟨hLe,hce⟩,hpos⟩:=hL;have hel:∀ (a:Addr) (y:DataW H×List MemPlace),(∀ p,p ∈ y.2->sp p.block=true)->(w.cells? base a (P.cellsOf e)).bind (DataW.trod enc P w base (fun _=>true) held fuel e)=some y->(w'.cells? base a (P.cellsOf e)).bind (DataW.trod enc P w' base sp held fuel e)=some y:=by
      intro a y hy1 hy;cases hc:w.cells? base a (P.cellsOf e) with
      |none=>simp_all
      |some ces =>
       rw [hK.cells hc]
       grind
     rcases trod_slice hu h with ⟨rfl,rfl⟩|⟨a,len,cap,rfl,hb,hlc,hcm,⟨elems,aB4⟩,sX⟩
     .simp [DataW.trod,hu]
     .obtain ⟨rest,hr⟩:=sX rfl
      have hx:x=(.slice (elems.map (·.1)) (rest.map (·.1)),MemPlace.row a ((elems.length+rest.length) * P.cellsOf e)++(elems++rest).flatMap (·.2)):=by
       simp_all [DataW.trod,if_pos,Option.bind_some,if_true,L4,Option.some.injEq]
      subst hx;have hin:∀ y,y ∈ elems++rest->∀ p,p ∈ y.2->sp p.block=true:=by
       grind
      have hblk:cap - len=0\/sp a.block=true:=by
       by_cases hc0:cap=0
       .omega
       .right
        have h1:=(gU aB4).1;have h2:=(gU hr).1;simp only [List.length_range] at h1 h2;have:0<(elems.length+rest.length) * P.cellsOf e:=by
         rw [h1,h2,hce];exact Nat.mul_pos (by omega) hpos
        refine hsp (.cell a.block (a.off+0)) (E0 _ ?_);exact F5.2 ⟨0,List.mem_range.2 this,rfl⟩
      unfold DataW.trod;rw [hu];simp only;rw [if_pos ⟨hb,hlc,hcm⟩,ig (fun i y _ hy' hy=>hel _ y (hin y (by simp [hy'])) hy) aB4];have hr' :=ig (g:=fun j=>(w'.cells? base (a.add ((len+j) * P.cellsOf e)) (P.cellsOf e)).bind (DataW.trod enc P w' base sp held fuel e)) (fun i y _ hy' hy=>hel _ y (hin y (by simp [hy'])) hy) hr
      grind
    .cases hL
   .rename_i fs hu
    obtain ⟨hlen,xs,hxs,rfl⟩:=trod_struct hu h;have fields:∀ (fl:List Field) (o:Nat) (l:List CT),Lq P (Lay P n) fl o l=true->∀ f,f ∈ fl->∃ l',Lay P n f.type l' =true:=by
     intro fl
     induction fl with
     |nil=>simp_all
     |cons g fl ihf =>
      grind [Lq]
    have:=ig (g:=fun f=>DataW.trod enc P w' base sp held fuel f.type ((cs.drop f.offset).take (P.cellsOf f.type))) (fun f y hf hy' hy=>by
     grind) hxs
    simp_all [DataW.trod,if_pos]
   .rename_i m e hu
    obtain ⟨hlen,xs,hxs,rfl⟩:=trod_array hu h;have QN:m=0\/∃ l',Lay P n e l' =true:=by
     cases m with
     |zero=>omega
     |succ m =>
      grind [Qf]
    have:=ig (g:=fun i=>DataW.trod enc P w' base sp held fuel e ((cs.drop (i * P.cellsOf e)).take (P.cellsOf e))) (fun i y hi hy' hy=>by
     grind) hxs
    simp_all [DataW.trod,if_pos]
   .cases hL
end
def isStr (P:Program)(t:TypeId):Bool:=match P.underlying t with
 |some (.struct _)=>true
 |_=>false
def asArg (agg:Bool)(ds:List Data):c8:=if agg then .agg (ds.map .d) else .d (ds.headD .br)
def jo (P:Program):List TypeId->List (List CT)->List c8->Prop
 |[],_,as=>as=[]
 |t::ts,ls,as=>∃ ds r,as=asArg (isStr P t) ds::r/\X7 (ls.headD []) ds/\jo P ts ls.tail r
def TT (P:Program)(t:TypeId):Bool:=match P.underlying t with
 |some (.array _ _)=>true
 |_=>false
def EI (P:Program):List TypeId->List (List CT)->Bool
 |[],_=>true
 |t::ts,ls=>(Lay P 20 t (ls.headD [])&& !TT P t)&&EI P ts ls.tail
section
variable {H:Type} {enc:TypeId×Value->H} {P:Program} {w:World} {held:Bool}
theorem yp {t:TypeId}{r:Reach}{b0:Nat}{v:Value}(hval:Value.okWide P w r b0 t v){td:TypeDesc}(hu:P.underlying t=some td)(htd:td= .bool\/(∃ k,td= .int k)\/td= .string\/∃ e,td= .slice e):∀ cs,v≠ .agg cs:=by
 simp_all [Value.okWide,Cell.okWide,Cell.ok]<;>grind
theorem cells_one {v u:Value}(hv:∀ cs,v≠ .agg cs)(h:v.cells.toList=[u]):u=v:=by
 simp_all [Value.cells,absurd]
def ah8 {t:TypeId}{l:List CT}(hL:Lay P 20 t l=true)(hna:TT P t=false){r:Reach}{b0:Nat}{v:Value}(hval:Value.okWide P w r b0 t v){d:DataW H}{ps:List MemPlace}(h:DataW.Trod enc P w 0 (fun _=>true) held t v d ps) :
  ∃ ds,X7 l ds/\VR (G0 w) I0 N0 w .none (asArg (isStr P t) ds) v:=by
 obtain ⟨fuel,h⟩:=h;obtain ⟨ds,h1,h2⟩:=Ve (fun _=>rfl) 20 t l hL fuel _ _ h;unfold isStr asArg;split
 .grind [Value.okWide,VR,Value.cells]
 .cases fuel with
  |zero=>simp [DataW.trod] at h
  |succ fuel =>
   have one:∀ u,v.cells.toList=[u]->u=v->VR (G0 w) I0 N0 w .none (.d (ds.headD .br)) v:=by
    rintro u hu rfl;rw [hu] at h2;cases ds with
    |nil=>simp [Cells,J5] at h2
    |cons d0 r =>
     simp_all [Cells,J5]<;>grind
   unfold Lay at hL;split at hL
   .grind [trod_bool,cells_one,yp]
   .grind [trod_int,cells_one,yp]
   .grind [Br,cells_one,yp]
   .rename_i e hu
    rcases trod_slice hu h with ⟨hb,_⟩|⟨a,len,cap,hb,_⟩
    all_goals grind [cells_one,yp]
   all_goals simp_all [absurd,TT]
theorem Np {r:Reach}{b0:Nat}:∀ (ts:List TypeId) (ls:List (List CT)) (vs:List Value) (ds:List (DataW H)) (ps:List MemPlace),EI P ts ls=true->(∀ (j:Nat) t v,ts[j]? =some t->vs[j]? =some v->Value.okWide P w r b0 t v) ->
  DataW.TrodAll enc P w 0 (fun _=>true) held ts vs ds ps ->
  (∃ as,jo P ts ls as/\J5 (G0 w) I0 N0 w as vs)/\∀ w',Kept w w' ->∀ sp:Nat->Bool,(∀ p,p ∈ ps->sp p.block=true)->DataW.TrodAll enc P w' 0 sp held ts vs ds ps
 |[],ls,vs,ds,ps,_,_,h=>by
  obtain ⟨rfl,rfl,rfl⟩:=Go.ChangeShapes.trodAll_nil h;exact ⟨⟨[],by rfl,by simp [J5]⟩,fun _ _ _ _=>rfl⟩
 |t::ts,ls,vs,ds,ps,hL,hval,h=>by
  simp [EI,Bool.and_eq_true,Bool.not_eq_true'] at hL;obtain ⟨v,vs1,d,ds1,a,b,rfl,rfl,rfl,h1,h2⟩:=Go.ChangeShapes.trodAll_cons h;obtain ⟨⟨as,g1,g2⟩,g3⟩:=Np ts ls.tail vs1 ds1 b hL.2 (fun j t' v' ht hv=>hval (j+1) t' v' (by simp_all) (by simp_all)) h2;obtain ⟨dd,e1,e2⟩:=ah8 hL.1.1 hL.1.2 (hval 0 t v rfl rfl) h1;refine ⟨⟨asArg (isStr P t) dd::as,?_,?_⟩,fun w' hK sp hsp=> ?_⟩
  .grind [jo]
  .grind [J5]
  .obtain ⟨fuel,hf⟩:=h1
   exact ⟨a,b,⟨fuel,RM hK 20 t _ hL.1.1 fuel _ _ (fun p hp=>hsp p (by simp_all)) hf⟩,g3 w' hK sp (fun p hp=>hsp p (by simp [hp])),rfl⟩
end
open Go.ChangeShapes Go.WideShapes Go.ChangeAt Go.RowKit
end Go.x9
namespace Go.x9
def K8 (A:Prog)(n:Nat)(l:F2)(b:Nat):Env:=⟨call A n,A.prom,A.mode,A.idle,l,b⟩
def Ex (A:Prog)(l:F2)(b:Nat)(c:q9)(st:St)(Q:F7->St->Prop):Prop :=
 ∃ x s N,Q x s/\∀ n,N<=n->exec (K8 A n l b) n c st=some (x,s)
def Rn (A:Prog)(l:F2)(b:Nat)(ops:List p6)(draw:Bool)(T:List c8)(H:o9)(Q:List c8->o9->List c8->Prop):Prop :=
 ∃ r N,Q r.T r.H r.L/\∀ n,N<=n->Q4 (K8 A n l b) ops draw T H=some r
section
variable {A:Prog} {l:F2} {b:Nat}
theorem Ex.mono {c:q9}{st:St}{Q R:F7->St->Prop}(h:Ex A l b c st Q)(k:∀ x s,Q x s->R x s):Ex A l b c st R:=by
 obtain ⟨x,s,N,hq,h⟩:=h;exact ⟨x,s,N,k x s hq,h⟩
theorem Ex.skip {st:St}{Q:F7->St->Prop}(h:Q .normal st):Ex A l b .skip st Q:=⟨_,_,0,h,fun _ _=>rfl⟩
theorem Ex.exit {id:Nat}{st:St}{Q:F7->St->Prop}(h:Q (.exit id) st):Ex A l b (.exit id) st Q:=⟨_,_,0,h,fun _ _=>rfl⟩
theorem Ex.ret {st:St}{Q:F7->St->Prop}(h:Q .ret st):Ex A l b .ret st Q:=⟨_,_,0,h,fun _ _=>rfl⟩
theorem Ex.region {ops:List p6}{draw:Bool}{T:List c8}{H:o9}{Q:F7->St->Prop}(h:Rn A l b ops draw T H fun T' H' _=>Q .normal ⟨T',H'⟩):Ex A l b (.region ops draw) ⟨T,H⟩ Q:=by
 obtain ⟨r,N,hq,h⟩:=h;refine ⟨_,_,N,hq,fun n hn=> ?_⟩;simp_all [exec]
def zV (Q:F7->St->Prop)(go:St->Prop):F7->St->Prop
 | .normal,s=>go s
 | .exit i,s=>Q (.exit i) s
 | .ret,s=>Q .ret s
theorem Ex.seq {c d:q9}{st:St}{Q:F7->St->Prop}(h:Ex A l b c st (zV Q fun s=>Ex A l b d s Q)):Ex A l b (.seq c d) st Q:=by
 obtain ⟨x,s,N,hq,h⟩:=h;cases x with
 |normal =>
  obtain ⟨x2,s2,N2,hq2,h2⟩:=hq;refine ⟨x2,s2,max N N2,hq2,fun n hn=> ?_⟩
  grind [exec]
 |exit i=>exact ⟨_,_,N,hq,fun n hn=>by simp_all [exec]⟩
 |ret=>exact ⟨_,_,N,hq,fun n hn=>by simp_all [exec]⟩
def Gu (id:Nat)(Q:F7->St->Prop):F7->St->Prop
 | .exit i,s=>if i=id then Q .normal s else Q (.exit i) s
 | .normal,s=>Q .normal s
 | .ret,s=>Q .ret s
theorem Ex.block {id:Nat}{c:q9}{st:St}{Q:F7->St->Prop}(h:Ex A l b c st (Gu id Q)):Ex A l b (.block id c) st Q:=by
 obtain ⟨x,s,N,hq,h⟩:=h;cases x with
 |normal=>exact ⟨_,_,N,hq,fun n hn=>by simp_all [exec]⟩
 |ret=>exact ⟨_,_,N,hq,fun n hn=>by simp_all [exec]⟩
 |exit i =>
  simp [Gu] at hq;split at hq
  .exact ⟨_,_,N,hq,fun n hn=>by simp_all [exec,if_pos]⟩
  .exact ⟨_,_,N,hq,fun n hn=>by simp_all [exec,if_neg]⟩
theorem Ex.test {ops:List p6}{draw:Bool}{c:y6}{d e:q9}{T:List c8}{H:o9}{Q:F7->St->Prop}
  (h:Rn A l b ops draw T H fun T' H' L=>∃ t,I5 T' L c= .d (.bool t)/\(t=true->Ex A l b d ⟨T',H'⟩ Q)/\(t=false->Ex A l b e ⟨T',H'⟩ Q)):Ex A l b (.test ops draw c d e) ⟨T,H⟩ Q:=by
 obtain ⟨r,N,⟨t,h1,h2,h3⟩,h⟩:=h;cases t with
 |true =>
  obtain ⟨x,s,N2,hq,k⟩:=h2 rfl;exact ⟨x,s,max N N2,hq,fun n hn=>by grind [exec]⟩
 |false =>
  obtain ⟨x,s,N2,hq,k⟩:=h3 rfl;exact ⟨x,s,max N N2,hq,fun n hn=>by grind [exec]⟩
theorem Ex.cond {c:y6}{d e:q9}{st:St}{t:Bool}{Q:F7->St->Prop}(h1:I5 st.T [] c= .d (.bool t))
  (h2:t=true->Ex A l b d st Q) (h3:t=false->Ex A l b e st Q):Ex A l b (.cond c d e) st Q:=by
 cases t with
 |true =>
  obtain ⟨x,s,N2,hq,k⟩:=h2 rfl;exact ⟨x,s,N2,hq,fun n hn=>by simp_all [exec]⟩
 |false =>
  obtain ⟨x,s,N2,hq,k⟩:=h3 rfl;exact ⟨x,s,N2,hq,fun n hn=>by simp_all [exec]⟩
theorem Ex.loop {mask:List Bool}{body:q9}{st:St}{Q:F7->St->Prop}(Inv:Nat->St->Prop)
  (hb:∀ k s,Inv k s->Ex A l b body (clean mask l.strict st.H.length s) (zV Q fun s' =>∃ k',k' <k/\Inv k' s')) {k:Nat} (h:Inv k st):Ex A l b (.loop mask body) st Q:=by
 have main:∀ k s,Inv k s->∃ x s2 N,Q x s2/\∀ n,N<=n->∀ j,N<=j->gl (exec (K8 A n l b) n body) mask l.strict st.H.length j s=some (x,s2):=by
  intro k
  induction k using Nat.strongRecOn with
  |_ k ih =>
   intro s hs;obtain ⟨x,s1,N,hq,h1⟩:=hb k s hs;cases x with
   |normal =>
    obtain ⟨k',hk,hi⟩:=hq;obtain ⟨x,s2,N2,hq2,h2⟩:=ih k' hk s1 hi;refine ⟨x,s2,max N N2+1,hq2,fun n hn j hj=> ?_⟩;obtain ⟨j,rfl⟩:∃ j',j=j' +1:=⟨j - 1,by omega⟩
    grind [gl]
   |exit i =>
    refine ⟨_,_,N+1,hq,fun n hn j hj=> ?_⟩;obtain ⟨j,rfl⟩:∃ j',j=j' +1:=⟨j - 1,by omega⟩
    grind [gl]
   |ret =>
    refine ⟨_,_,N+1,hq,fun n hn j hj=> ?_⟩;obtain ⟨j,rfl⟩:∃ j',j=j' +1:=⟨j - 1,by omega⟩
    grind [gl]
 obtain ⟨x,s2,N,hq,h⟩:=main k st h;exact ⟨x,s2,N,hq,fun n hn=>by exact h n hn n hn⟩
def Pf (A:Prog)(f:FuncId)(args:List c8)(v:c8):Prop :=
 ∃ N,∀ n,N<=n->call A n f args [] S8=some (v,[])
def Pf.aF9 {f:FuncId}{af:s6}{args:List c8}{v:c8}(T:List c8)(hp:A.cw f=none)(hf:A.fn f=some af)(hn:args.length=af.nparams)
  (hT:args++c9 (af.names.length - args.length) .any=T) (h:Ex A S8 0 af.body ⟨T,[]⟩ fun x s=>iK af 0 (some (x,s))=some (v,[])):Pf A f args v:=by
 obtain ⟨x,s,N,hq,h⟩:=h;refine ⟨N+1,fun n hn' => ?_⟩;obtain ⟨n,rfl⟩:∃ j,n=j+1:=⟨n - 1,by omega⟩;simp_all [ES,sA,K8,List.length_nil]
def Hj (H:o9)(strict k:Nat):E9 H strict k 0=0:=by
 cases k<;>simp [E9]
def fM {E:Env}{k:Nat}{f:FuncId}{args:List c8}{st:G4}{v:c8}(gj:E.prom f=false)(hm:E.mode f=1)(hb:A4 args=0)
  (hc:E.cf f args [] S8=some (v,[])):C6 E k f args st=some (put st k v):=by
 simp [C6,hb,Hj];have h0:C9 st.H E.lim.strict 0=0:=by rfl
 have h1:E.cf f args [] ⟨0,0,0,0⟩=some (v,[]):=hc
 grind [L8]
def rj (ops:List p6):Bool:=ops.all fun i=> !i.op.z7&&i.aX.all fun e=>decide (e<ops.length)
end
theorem wrap_small {n:Int}(h: -9223372036854775808<=n)(h2:n<9223372036854775808):IntKind.wrap .i64 n=n:=by
 grind [IntKind.wrap,IntKind.signed,IntKind.bits]
section
variable {A:Prog} {l:F2} {b:Nat}
def z6.Sf:z6->Bool
 | .load _ _=>true
 | .lookup .. =>true
 |_=>false
def uF:List p6->Nat
 |[]=>0
 |i::is=>max (if i.op.Sf then (i.aX.map (·+1)).foldl max 0 else 0) (uF is)
theorem Mz {ρ:y6->c8}{H:o9}{op:z6}{v:c8}{rs:List Nat}(h:n9 ρ H op=some (v,rs))(hr:op.Sf=false):rs=[]:=by
 cases op<;>simp [z6.Sf] at hr<;>simp [n9] at h<;>repeat' split at h
 all_goals simp_all
theorem rR {E:Env}{j9:List p6}{y9:Option Nat}{k:Nat}{i:p6}{st st' :G4}{rs:List Nat}(h:u9 E j9 y9 k i st=some (st',rs))(hr:i.op.Sf=false):rs=[]:=by
 simp [u9] at h;split at h
 .split at h
  .rename_i st1 rs1 h1
   split at h
   .simp [D6] at h1
    split at h1
    .grind
    grind [Option.some.injEq,Prod.mk.injEq,Mz]
   .cases h
  .cases h
 all_goals grind
theorem sR:∀ (l:List Nat) (a:Nat),a<=l.foldl max a
 |[],_=>o5 _
 |x::l,a=>B6 (Nat.le_max_left a x) (sR l (max a x))
theorem qA:∀ (l:List Nat) (a x:Nat),x ∈ l->x<=l.foldl max a
 |y::l,a,x,h=>by
  rcases B4.1 h with rfl|h
  .grind [B6,Nat.le_max_right,sR]
  .exact qA l _ x h
theorem yX:∀ {j9:List p6} {i:p6} {e:Nat},i ∈ j9->i.op.Sf=true->e ∈ i.aX->e<uF j9
 |j::j9,i,e,h,hr,he=>by
  simp only [uF]
  rcases B4.1 h with rfl|h
  .have:=qA (i.aX.map (·+1)) 0 (e+1) (F5.2 ⟨e,he,rfl⟩)
   rw [hr,if_pos rfl];omega
  .have:=yX h hr he
   omega
def Rx (A:Prog)(l:F2)(b:Nat)(dr:Bool)(j9 ops:List p6)(T:List c8)(H:o9)(pre:List c8)(o7:List Touch)(Q:List c8->o9->List c8->Prop):Prop :=
 ∃ r N,Q r.T r.H r.L/\∀ n,N<=n->if dr=true then ∀ na,∃ lg:List jj,P6 (K8 A n l b) j9 ops pre.length na ⟨T,H,pre++c9 ops.length .any,o7⟩=some (r,lg)/\lg.length=ops.length/\∀ k e,lg[k]? =some e->(pre.length+k<uF j9->∀ rs,G9 e.Fs rs=false)/\∀ i,ops[k]? =some i->i.op.Sf=false->e.reads=[]
  else eA (K8 A n l b) j9 ops pre.length ⟨T,H,pre++c9 ops.length .any,o7⟩=some r
variable {dr:Bool} {j9 ops:List p6} {T:List c8} {H:o9} {pre:List c8} {o7:List Touch} {Q:List c8->o9->List c8->Prop}
def Rx.nil (h:Q T H pre):Rx A l b dr j9 [] T H pre o7 Q:=by
 refine ⟨⟨T,H,pre,o7⟩,0,h,fun n _=> ?_⟩;simp_all [eA,P6]
def Rx.JB {i:p6}{T' pre' :List c8}{H' :o9}{v:c8}{bK :List Touch}{rs:List Nat}{N1:Nat}(hl:pre'.length=pre.length)
  (hk:F1 ⟨T,H,pre++ .any::c9 ops.length .any,o7⟩ i.op=false) (ha:i.op.z7=false)
  (h:∀ n,N1<=n->u9 (K8 A n l b) j9 none pre.length i ⟨T,H,pre++ .any::c9 ops.length .any,o7⟩=some (⟨T',H',pre' ++v::c9 ops.length .any,bK⟩,rs))
  (ht:pre.length<uF j9->∀ rs,G9 (bK.take (bK.length - o7.length)) rs=false) (h2:Rx A l b dr j9 ops T' H' (pre' ++[v]) bK Q):Rx A l b dr j9 (i::ops) T H pre o7 Q:=by
 obtain ⟨r,N,hq,h2⟩:=h2;refine ⟨r,max N N1,hq,fun n hn=> ?_⟩;have h3:=h2 n (by omega);have h4:=h n (by omega);cases dr with
 |false =>
  simp_all [j3,if_false,List.length_cons,List.replicate_succ,eA]
 |true =>
  simp [List.length_cons,List.replicate_succ] at h3 ⊢;intro na;obtain ⟨lg,e1,e2,e3⟩:=h3 na;refine ⟨cK (K8 A n l b) i none ⟨T,H,pre++ .any::c9 ops.length .any,o7⟩ ⟨T',H',pre' ++v::c9 ops.length .any,bK⟩ rs::lg,?_,by simp [e2],?_⟩
  .simp_all [P6,iY,Bool.false_and,j3,if_false]
  .intro k e he
   cases k with
   |zero =>
    grind [List.getElem?_cons_zero,Option.some.injEq,cK,fD,rR]
   |succ k =>
    grind
def Rx.stepG {i:p6}{T' pre' :List c8}{H' :o9}{v:c8}{bK :List Touch}{rs:List Nat}{N1:Nat}(hl:pre'.length=pre.length)
  (hk:F1 ⟨T,H,pre++ .any::c9 ops.length .any,o7⟩ i.op=false) (ha:i.op.z7=false)
  (h:∀ n,N1<=n->u9 (K8 A n l b) j9 none pre.length i ⟨T,H,pre++ .any::c9 ops.length .any,o7⟩=some (⟨T',H',pre' ++v::c9 ops.length .any,bK⟩,rs))
  (ht:∀ rs,G9 (bK.take (bK.length - o7.length)) rs=false) (h2:Rx A l b dr j9 ops T' H' (pre' ++[v]) bK Q):Rx A l b dr j9 (i::ops) T H pre o7 Q :=
 Rx.JB hl hk ha h (fun _=>ht) h2
def Rx.step {i:p6}{T' :List c8}{H' :o9}{v:c8}{bK :List Touch}{rs:List Nat}{N1:Nat}(hk:F1 ⟨T,H,pre++ .any::c9 ops.length .any,o7⟩ i.op=false)(ha:i.op.z7=false)
  (h:∀ n,N1<=n->u9 (K8 A n l b) j9 none pre.length i ⟨T,H,pre++ .any::c9 ops.length .any,o7⟩=some (⟨T',H',pre++v::c9 ops.length .any,bK⟩,rs))
  (ht:∀ rs,G9 (bK.take (bK.length - o7.length)) rs=false) (h2:Rx A l b dr j9 ops T' H' (pre++[v]) bK Q):Rx A l b dr j9 (i::ops) T H pre o7 Q :=
 Rx.stepG rfl hk ha h ht h2
def opv (T pre:List c8):y6->Option c8
 | .slot s=>T[s]?
 | .loc j=>pre[j]?
 | .const v=>some v
def Op (T pre:List c8)(x:y6)(v:c8):Prop:=opv T pre x=some v/\v.J2=v
theorem Op.I5 {x:y6}{v:c8}(h:Op T pre x v)(m:Nat):I5 T (pre++ .any::c9 m .any) x=v:=by
 obtain ⟨h1,h2⟩:=h;cases x with
 |slot s=>simp_all [opv,x9.I5]
 |loc j =>
  grind [opv,y4,List.getElem?_eq_none,x9.I5,A7]
 |const u=>simp_all [opv,Option.some.injEq,x9.I5,SN]
theorem K6 (pre:List c8)(a v:c8)(r:List c8):(pre++a::r).set pre.length v=pre++v::r:=by
 simp
def Rx.pure {op:z6}{u:List Nat}{v:c8}{rs:List Nat}(hE:op.C8=false)(hp:∀ m,n9 (x9.I5 T (pre++ .any::c9 m .any)) H op=some (v,rs))
  (h2:Rx A l b dr j9 ops T H (pre++[v]) o7 Q):Rx A l b dr j9 (⟨op,none,none,u⟩::ops) T H pre o7 Q:=by
 have hm:∀ x,op≠ .Q3 x:=by
  rintro x rfl;simp_all [n9]
 refine Rx.step (N1:=0) (rs:=rs) ?_ ?_ ?_ ?_ h2
 .cases op<;>first|rfl|grind [z6.C8]
 .cases op<;>first|rfl|(simp [z6.C8] at hE)|skip
  rename_i ob;cases ob
  .rfl
  simp_all
 .intro n _
  have h3:D6 (K8 A n l b) j9 none pre.length op ⟨T,H,pre++ .any::c9 ops.length .any,o7⟩=some (⟨T,H,pre++v::c9 ops.length .any,o7⟩,rs):=by
   simp_all [absurd,D6,j3,if_false,put,K6,z6.C8]
  grind [u9,u5,r9,E5]
 simp_all [G9]
theorem Op.E1 {x:y6}{v:c8}(h:Op T pre x v)(m:Nat):x9.E1 ⟨T,H,pre++ .any::c9 m .any,o7⟩ x=(v,⟨T,H,pre++ .any::c9 m .any,o7⟩):=by
 have hr:=h.I5 m;cases x with
 |slot s=>grind [x9.E1]
 |loc j =>
  obtain ⟨h1,h2⟩:=h
  grind [opv,y4,List.getElem?_eq_none,x9.E1,A7,c8.J2]
 |const u =>
  obtain ⟨h1,h2⟩:=h;simp [opv,Option.some.injEq] at h1;subst h1;rfl
theorem Rx.Q3 {x:y6}{u:List Nat}{v:c8}(hx:Op T pre x v)(h2:Rx A l b dr j9 ops T H (pre++[v]) o7 Q):Rx A l b dr j9 (⟨.Q3 x,none,none,u⟩::ops) T H pre o7 Q:=by
 refine Rx.step (N1:=0) (rs:=[]) rfl rfl (fun n _=> ?_) (fun rs=>by simp [G9]) h2;simp [u9,u5,D6,z6.C8,j3,if_false,hx.E1,put,K6,r9,E5]
def Rx.aF0 {x:y6}{u:List Nat}{v:c8}{s:Nat}(hx:Op T pre x v)(hs:T[s]?.isSome=true)(h2:Rx A l b dr j9 ops (T.set s v) H (pre++[v]) (.slot s::o7) Q) :
  Rx A l b dr j9 (⟨.Q3 x,some s,none,u⟩::ops) T H pre o7 Q:=by
 refine Rx.step (N1:=0) (rs:=[]) rfl rfl (fun n _=> ?_) (fun rs=> ?_) h2
 .have hv:=hx.2
  have hs:s<T.length:=by
   simp_all
  simp only [u9,u5,D6,z6.C8,j3,if_false,hx.E1,put,K6,r9,E5,hs,if_true];have h3:x9.E1 ⟨T,H,pre++v::c9 ops.length .any,o7⟩ (.loc pre.length)=(v,⟨T,H,pre++v::c9 ops.length .any,o7⟩):=by
   grind [x9.E1,c8.J2,x9.I5]
  rw [h3]
 simp_all [G9,Touch.K0]
def Rx.an1 {s:Nat}{u:List Nat}{z n:Nat}{cs:List Data}(hx:T[s]? =some (.own z n cs))(h2:Rx A l b dr j9 ops T H (pre++[.d (.slice n cs)]) o7 Q):Rx A l b dr j9 (⟨.Q3 (.slot s),none,none,u⟩::ops) T H pre o7 Q:=by
 refine Rx.step (N1:=0) (rs:=[]) rfl rfl (fun n _=> ?_) (fun rs=>by simp [G9]) h2;simp_all [u9,u5,D6,z6.C8,j3,if_false,x9.E1,put,K6,r9,E5,x9.I5,c8.J2]
def dJ (s:Nat)(o7:List Touch)(rs:List Nat):G9 ((Touch.slot s::o7).take ((Touch.slot s::o7).length - o7.length)) rs=false:=by
 simp_all [G9,Touch.K0]
theorem Rx.append {j s sz bytes:Nat}{y:y6}{u u' :List Nat}{d' :Option Nat}{g' :Option (Nat×Bool)}{n' len m:Nat}{cs' cells new:List Data}{vy:c8}{cs:List c8}
  (hj:pre[j]? =some (.d (.slice n' cs'))) (ha:j9[j]? =some ⟨.Q3 (.slot s),d',g',u'⟩) (ht:o7.any (Touch.S4 s)=false) (hT:T[s]? =some (.own sz len cells))
  (hy:∀ m,x9.I5 T (pre++ .any::c9 m .any) y=vy) (hc:N4 H sz vy=some (m,cs)) (hd:M6 cs=some new) (hr:roomFor (len+m) bytes=true) (h0:0<sz)
  (h2:Rx A l b dr j9 ops (T.set s (.d (.slice len cells))) H (pre++[.own sz (len+m) (cells++new)]) (.slot s::o7) Q):Rx A l b dr j9 (⟨.append sz bytes false (.loc j) y,none,none,u⟩::ops) T H pre o7 Q:=by
 have hjl:j<pre.length:=by
  grind
 have hL:∀ r:List c8,(pre++ .any::r)[j]? =some (.d (.slice n' cs')):=fun r=>by grind
 have al7:x9.I5 T (pre++ .any::c9 ops.length .any) (.loc j)= .d (.slice n' cs'):=by simp [x9.I5,hL,c8.J2]
 refine Rx.step (N1:=0) (rs:=[]) (by simp_all [F1]) rfl (fun n _=> ?_) (dJ s o7) h2;simp_all [u9,u5,D6,z6.C8,E6,M8,O8,W8,put,r9,E5]<;>grind
def Rx.Un {j s:Nat}{u:List Nat}{z n0:Nat}{cs:List Data}(hj:pre[j]? =some (.own z n0 cs))(hs:T[s]?.isSome=true)
  (h2:Rx A l b dr j9 ops (T.set s (.own z n0 cs)) H (pre.set j (.d (.slice n0 cs))++[.d (.slice n0 cs)]) (.slot s::o7) Q):Rx A l b dr j9 (⟨.Q3 (.loc j),some s,none,u⟩::ops) T H pre o7 Q:=by
 have hjl:j<pre.length:=by
  grind
 have hs:s<T.length:=by
  simp_all
 refine Rx.stepG (N1:=0) (rs:=[]) (by simp) rfl rfl (fun n _=> ?_) (dJ s o7) h2;have hL:∀ r:List c8,(pre++ .any::r)[j]? =some (.own z n0 cs):=fun r=>by grind
 have h4:∀ (a v:c8) (r:List c8),(pre.set j (.d (.slice n0 cs))++a::r).set pre.length v=pre.set j (.d (.slice n0 cs))++v::r:=fun a v r=>by simp_all
 simp_all [u9,u5,D6,z6.C8,j3,if_false,x9.E1,put,r9,E5,if_true]
def Rn.YM {T:List c8}{H:o9}(h:Rx A l b false ops ops T H [] [] Q):Rn A l b ops false T H Q:=by
 obtain ⟨r,N,hq,h⟩:=h;exact ⟨r,N,hq,fun n hn=>by simp_all [Q4]⟩
def Rn.YL {T:List c8}{H:o9}(hp:rj ops=true)(h:Rx A l b true ops ops T H [] [] Q):Rn A l b ops true T H Q:=by
 obtain ⟨r,N,hq,h⟩:=h;refine ⟨r,N,hq,fun n hn=> ?_⟩;have h1:=h n hn;obtain ⟨lg,e1,e2,e3⟩:=h1 H.length;simp only [rj,L9,Bool.and_eq_true,Bool.not_eq_true',decide_eq_true_eq] at hp;have zW:Y9 ops=[]:=by
  simp_all [Y9,List.map_eq_nil_iff,List.filter_eq_nil_iff,Bool.not_eq_true]
 have wM:slotsOf ops=[]:=by
  simp_all [slotsOf,List.filterMap_eq_nil_iff]
 have al2:qH ops lg=true:=by
  simp only [qH,L9];rintro ⟨i,le⟩ wJ e he;obtain ⟨j,hj,hji⟩:=List.getElem_of_mem wJ;simp [List.length_zip] at hj;have hj1:j<ops.length:=by omega
  have hj2:j<lg.length:=by omega
  simp [List.getElem_zip] at hji;obtain ⟨rfl,rfl⟩:=hji;have hi:ops[j] ∈ ops:=List.getElem_mem hj1;have hlt:=(hp _ hi).2 e he;have this:e<lg.length:=by omega
  have hmk:ops[j].op.makes=false:=by
   have:=(hp _ hi).1;cases ho:ops[j].op<;>rw [ho] at this<;>first|rfl|exact this
  cases hr:ops[j].op.Sf with
  |true =>
   have h5:=(e3 e _ (l6 this)).1 (by simpa using yX hi hr he);simp_all
  |false =>
   have h5:=(e3 j _ (l6 hj2)).2 _ (l6 hj1) hr
   grind [G9]
 simp_all [List.length_nil,List.nil_append,Q4,if_true,List.append_nil]
theorem Rx.call {f:FuncId}{xs:List y6}{u:List Nat}{v:c8}{args:List c8}(gj:A.prom f=false)(hm:A.mode f=1)(ha:∀ m,xs.map (x9.I5 T (pre++ .any::c9 m .any))=args)
  (hb:A4 args=0) (hc:Pf A f args v) (h2:Rx A l b dr j9 ops T H (pre++[v]) o7 Q):Rx A l b dr j9 (⟨.call f xs,none,none,u⟩::ops) T H pre o7 Q:=by
 obtain ⟨M,hc⟩:=hc;refine Rx.step (N1:=M) (rs:=[]) rfl rfl (fun n hn=> ?_) (fun rs=>by simp [G9]) h2;have h3:C6 (K8 A n l b) pre.length f args ⟨T,H,pre++ .any::c9 ops.length .any,o7⟩=some (put ⟨T,H,pre++ .any::c9 ops.length .any,o7⟩ pre.length v) :=
  fM gj hm hb (hc n hn)
 simp_all [u9,u5,D6,z6.C8,if_true,E6,r9,E5,put,K6]
def EN {o:BinOp}{c d e:Int}(h:o= .add/\c+d=e\/o= .sub/\c - d=e)(h0: -9223372036854775808<=e)(h1:e<9223372036854775808):J8 o (.int .i64 c) (.int .i64 d)=some (.int .i64 e):=by
 grind [J8,U6,ak,wrap_small]
end
abbrev L3:=List UInt8
def z8 {α:Type}(f:α->List Data)(l:List α):Data:= .slice l.length (l.flatMap f)
def num (n:Int):Data:= .int .i64 n
structure Y6 where
 op:Int
 kind:Int
 int:Int
 text:L3
 col:Int
def Y6.enc (t:Y6):List Data:=[num t.op,num t.kind,num t.int,.str t.text,num t.col]
structure aG where
 name:L3
 type:Int
 space:L3
 refs:L3
 F8:List Int
 eX:Int
 jk:Int
def aG.enc (c:aG):List Data:=[.str c.name,num c.type,.str c.space,.str c.refs,z8 (fun n=>[num n]) c.F8,num c.eX,num c.jk]
structure mO where
 name:L3
 p8:List aG
 erase:Int
 aA:Int
def mO.enc (t:mO):List Data:=[.str t.name,z8 aG.enc t.p8,num t.erase,num t.aA]
structure GL where
 name:L3
 expr:List Y6
def GL.enc (x:GL):List Data:=[.str x.name,z8 Y6.enc x.expr]
structure Ce where
 name:L3
 func:Int
 expr:List Y6
def Ce.enc (x:Ce):List Data:=[.str x.name,num x.func,z8 Y6.enc x.expr]
structure Vw where
 name:L3
 kind:Int
 left:L3
 right:L3
 on:List (Int×Int)
 wh:List Y6
 items:List GL
 distinct:Bool
 D4:List Ce
def Vw.enc (v:Vw):List Data:=[.str v.name,num v.kind,.str v.left,.str v.right,z8 (fun p=>[num p.1,num p.2]) v.on,z8 Y6.enc v.wh,z8 GL.enc v.items,.bool v.distinct,z8 Ce.enc v.D4]
structure Qd where
 name:L3
 source:L3
 col:Int
def Qd.enc (x:Qd):List Data:=[.str x.name,.str x.source,num x.col]
structure Qi where
 name:L3
 source:L3
 col:Int
 kind:Int
 width:Int
 depth:Int
def Qi.enc (x:Qi):List Data:=[.str x.name,.str x.source,num x.col,num x.kind,num x.width,num x.depth]
structure Qb where
 name:L3
 source:L3
 col:Int
 ttl:Int
def Qb.enc (x:Qb):List Data:=[.str x.name,.str x.source,num x.col,num x.ttl]
structure Qh where
 name:L3
 source:L3
 thr:Int
def Qh.enc (x:Qh):List Data:=[.str x.name,.str x.source,num x.thr]
structure Qj where
 name:L3
 table:L3
def Qj.enc (x:Qj):List Data:=[.str x.name,.str x.table]
structure PZ where
 name:L3
 tables:List L3
 keep:Int
def PZ.enc (x:PZ):List Data:=[.str x.name,z8 (fun s=>[.str s]) x.tables,num x.keep]
structure y5 where
 k9:List mO
 views:List Vw
 idxs:List Qd
 qn:List Qi
 qh:List Qb
 qm:List Qh
 qo:List Qj
 qg:List PZ
def y5.enc (c:y5):List Data:=[z8 mO.enc c.k9,z8 Vw.enc c.views,z8 Qd.enc c.idxs,z8 Qi.enc c.qn,z8 Qb.enc c.qh,z8 Qh.enc c.qm,z8 Qj.enc c.qo,z8 PZ.enc c.qg]
def ctI:CT:= .int .i64
def xX (n:Int):Prop:= -9223372036854775808<=n/\n<9223372036854775808
def zP {α:Type}{e:List CT}{enc:α->List Data}{ok:α->Prop}(hr:∀ r,X7 e r->∃ a,r=enc a/\ok a){d:Data}(h:Fits (.slice e) d) :
  ∃ l:List α,d=z8 enc l/\l.length<=maxLen/\∀ a,a ∈ l->ok a:=by
 simp only [Fits] at h;obtain ⟨rows,rfl,hl,hall⟩:=h;have:∀ rows:List (List Data),(∀ r,r ∈ rows->X7 e r)->∃ l:List α,l.length=rows.length/\rows.flatten=l.flatMap enc/\∀ a,a ∈ l->ok a:=by
  intro rows
  induction rows with
  |nil=>intro _;exact ⟨[],rfl,rfl,by simp⟩
  |cons r rs ih =>
   intro h;obtain ⟨a,ha,hok⟩:=hr r (h r (by simp));obtain ⟨l,h1,h2,h3⟩:=ih (fun r hr' =>h r (by simp [hr']));refine ⟨a::l,by simp [h1],by simp [h2,ha],?_⟩;intro b hb
   rcases B4.1 hb with rfl|hb
   .exact hok
   .exact h3 b hb
 obtain ⟨l,h1,h2,h3⟩:=this rows hall;exact ⟨l,by rw [z8,h1,h2],by omega,h3⟩
def HA {d:Data}(h:Fits ctI d):∃ n,d=num n/\xX n:=by
 simp only [ctI,Fits] at h;obtain ⟨n,rfl,hw⟩:=h;refine ⟨n,rfl,?_⟩;simp [Lit.wf] at hw;have hm:IntKind.i64.min= -9223372036854775808:=rfl;rw [hm] at hw;unfold xX;omega
structure Y6.ok (x:Y6):Prop where
 op:xX x.op
 kind:xX x.kind
 int:xX x.int
 text:x.text.length<=maxLen
 col:xX x.col
structure aG.ok (x:aG):Prop where
 name:x.name.length<=maxLen
 type:xX x.type
 space:x.space.length<=maxLen
 refs:x.refs.length<=maxLen
 F8:x.F8.length<=maxLen/\∀ a,a ∈ x.F8->xX a
 eX:xX x.eX
 jk:xX x.jk
structure mO.ok (x:mO):Prop where
 name:x.name.length<=maxLen
 p8:x.p8.length<=maxLen/\∀ a,a ∈ x.p8->a.ok
 erase:xX x.erase
 aA:xX x.aA
structure GL.ok (x:GL):Prop where
 name:x.name.length<=maxLen
 expr:x.expr.length<=maxLen/\∀ a,a ∈ x.expr->a.ok
structure Ce.ok (x:Ce):Prop where
 name:x.name.length<=maxLen
 func:xX x.func
 expr:x.expr.length<=maxLen/\∀ a,a ∈ x.expr->a.ok
structure Vw.ok (x:Vw):Prop where
 name:x.name.length<=maxLen
 kind:xX x.kind
 left:x.left.length<=maxLen
 right:x.right.length<=maxLen
 on:x.on.length<=maxLen/\∀ a,a ∈ x.on->xX a.1/\xX a.2
 wh:x.wh.length<=maxLen/\∀ a,a ∈ x.wh->a.ok
 items:x.items.length<=maxLen/\∀ a,a ∈ x.items->a.ok
 distinct:True
 D4:x.D4.length<=maxLen/\∀ a,a ∈ x.D4->a.ok
structure Qd.ok (x:Qd):Prop where
 name:x.name.length<=maxLen
 source:x.source.length<=maxLen
 col:xX x.col
structure Qi.ok (x:Qi):Prop where
 name:x.name.length<=maxLen
 source:x.source.length<=maxLen
 col:xX x.col
 kind:xX x.kind
 width:xX x.width
 depth:xX x.depth
structure Qb.ok (x:Qb):Prop where
 name:x.name.length<=maxLen
 source:x.source.length<=maxLen
 col:xX x.col
 ttl:xX x.ttl
structure Qh.ok (x:Qh):Prop where
 name:x.name.length<=maxLen
 source:x.source.length<=maxLen
 thr:xX x.thr
structure Qj.ok (x:Qj):Prop where
 name:x.name.length<=maxLen
 table:x.table.length<=maxLen
structure PZ.ok (x:PZ):Prop where
 name:x.name.length<=maxLen
 tables:x.tables.length<=maxLen/\∀ a,a ∈ x.tables->a.length<=maxLen
 keep:xX x.keep
structure y5.ok (x:y5):Prop where
 k9:x.k9.length<=maxLen/\∀ a,a ∈ x.k9->a.ok
 views:x.views.length<=maxLen/\∀ a,a ∈ x.views->a.ok
 idxs:x.idxs.length<=maxLen/\∀ a,a ∈ x.idxs->a.ok
 qn:x.qn.length<=maxLen/\∀ a,a ∈ x.qn->a.ok
 qh:x.qh.length<=maxLen/\∀ a,a ∈ x.qh->a.ok
 qm:x.qm.length<=maxLen/\∀ a,a ∈ x.qm->a.ok
 qo:x.qo.length<=maxLen/\∀ a,a ∈ x.qo->a.ok
 qg:x.qg.length<=maxLen/\∀ a,a ∈ x.qg->a.ok
section
variable {A:Prog} {l:F2} {b:Nat}
variable {dr:Bool} {j9 ops:List p6} {T:List c8} {H:o9} {pre:List c8} {o7:List Touch} {Q:List c8->o9->List c8->Prop}
theorem ve {j:Nat}{v:c8}(h:pre[j]? =some v)(r:List c8):(pre++r)[j]? =some v:=by
 grind
def Rx.Zu {op:z6}{j:Nat}{want w:Bool}{u:List Nat}(h:pre[j]? =some (.d (.bool w)))(hw:(w==want)=false)(hk:F1 ⟨T,H,pre++ .any::c9 ops.length .any,o7⟩ op=false)(ha:op.z7=false)
  (h2:Rx A l b dr j9 ops T H (pre++[.tuple []]) o7 Q):Rx A l b dr j9 (⟨op,none,some (j,want),u⟩::ops) T H pre o7 Q:=by
 refine Rx.step (N1:=0) (rs:=[]) hk ha (fun n _=> ?_) (fun rs=>by simp [G9]) h2
 grind [u9,u5,ve,put,K6,r9,E5]
theorem CJ {mask:List Bool}{strict n:Nat}(h:H.length=n):clean mask strict n ⟨T,H⟩=⟨U9 mask T,H⟩:=by
 grind [clean]
def Gm {E:Env}{y9:Option Nat}{k j:Nat}{op:z6}{dst:Option Nat}{want w:Bool}{u:List Nat}{st:G4}(h:st.L[j]? =some (.d (.bool w)))(hw:(w==want)=true) :
  u9 E j9 y9 k ⟨op,dst,some (j,want),u⟩ st=u9 E j9 y9 k ⟨op,dst,none,u⟩ st:=by
 simp_all [u9,u5]
def Rx.wanted {op:z6}{dst:Option Nat}{j:Nat}{want w:Bool}{u:List Nat}(h:pre[j]? =some (.d (.bool w)))(hw:(w==want)=true)
  (h2:Rx A l b dr j9 (⟨op,dst,none,u⟩::ops) T H pre o7 Q):Rx A l b dr j9 (⟨op,dst,some (j,want),u⟩::ops) T H pre o7 Q:=by
 obtain ⟨r,N,hq,hr⟩:=h2;refine ⟨r,N,hq,fun n hn=> ?_⟩;have h3:=hr n hn;have h4:∀ E y9,u9 E j9 y9 pre.length ⟨op,dst,some (j,want),u⟩ ⟨T,H,pre++c9 (ops.length+1) .any,o7⟩=u9 E j9 y9 pre.length ⟨op,dst,none,u⟩ ⟨T,H,pre++c9 (ops.length+1) .any,o7⟩ :=
  fun E y9=>Gm (ve h _) hw
 cases dr with
 |false =>
  simp_all [j3,if_false,List.length_cons,eA]
 |true =>
  simp [List.length_cons,P6,iY] at h3 ⊢;intro na;rw [h4];obtain ⟨lg,e1,e2,e3⟩:=h3 na;refine ⟨lg,e1,e2,fun k e he=>⟨(e3 k e he).1,fun i hi hr=> ?_⟩⟩
  grind
def Rx.stepT {i:p6}{T' pre' :List c8}{H' :o9}{v:c8}{bK :List Touch}{rs:List Nat}{N1:Nat}(hl:pre'.length=pre.length)
  (h:∀ n,N1<=n->u9 (K8 A n l b) j9 none pre.length i ⟨T,H,pre++ .any::c9 ops.length .any,o7⟩=some (⟨T',H',pre' ++v::c9 ops.length .any,bK⟩,rs))
  (h2:Rx A l b false j9 ops T' H' (pre' ++[v]) bK Q):Rx A l b false j9 (i::ops) T H pre o7 Q:=by
 obtain ⟨r,N,hq,h2⟩:=h2;refine ⟨r,max N N1,hq,fun n hn=> ?_⟩
 grind [eA]
def Rx.ay7 {x:y6}{u:List Nat}{v:c8}{cs:List c8}{s:Nat}(hx:Op T pre x v)(hc:v.cells? =some cs)(hs:T[s]?.isSome=true)
  (h2:Rx A l b false j9 ops (T.set s (.ptr H.length 0)) (H++[.cells cs]) (pre++[.ptr H.length 0]) (.slot s::o7) Q):Rx A l b false j9 (⟨.box x,some s,none,u⟩::ops) T H pre o7 Q:=by
 have hs:s<T.length:=by
  simp_all
 refine Rx.stepT (N1:=0) (rs:=[]) rfl (fun n _=> ?_) h2;have h3:∀ r:List c8,(pre++ .ptr H.length 0::r)[pre.length]? =some (.ptr H.length 0):=fun r=>by simp
 simp [u9,u5,D6,z6.C8,if_true,E6,hx.I5,hc,L7,newId,put,r9,E5,hs,x9.E1];simp [x9.I5,c8.J2]
def Rx.aG1 {s z n0:Nat}{cs:List Data}{u:List Nat}(hs:T[s]?.isSome=true)(h2:Rx A l b dr j9 ops (T.set s (.own z n0 cs)) H (pre++[.d (.slice n0 cs)]) (.slot s::o7) Q) :
  Rx A l b dr j9 (⟨.Q3 (.const (.own z n0 cs)),some s,none,u⟩::ops) T H pre o7 Q:=by
 have hs:s<T.length:=by
  simp_all
 refine Rx.step (N1:=0) (rs:=[]) rfl rfl (fun n _=> ?_) (dJ s o7) h2;simp_all [u9,u5,D6,z6.C8,j3,if_false,x9.E1,put,K6,r9,E5,if_true]
def Ex.M5 {mask:List Bool}{body:q9}{R:F7->St->Prop}(Inv:Nat->List c8->o9->Prop)(hl:∀ k T' H',Inv k T' H' ->H'.length=H.length)
  (hb:∀ k T' H',Inv k T' H' ->Ex A l b body ⟨U9 mask T',H'⟩ (zV R fun s=>∃ k',k' <k/\Inv k' s.T s.H)) {k:Nat} (h:Inv k T H):Ex A l b (.loop mask body) ⟨T,H⟩ R:=by
 refine Ex.loop (fun k s=>Inv k s.T s.H) (fun k s hs=> ?_) (k:=k) h;obtain ⟨T',H'⟩:=s
 grind [CJ]
end
theorem lY {α:Type}{enc:α->List Data}{sz:Nat}(hs:∀ a,(enc a).length=sz):∀ (l:List α) (i:Nat) (h:i<l.length),(l.flatMap enc).drop (i * sz)=enc l[i]++(l.drop (i+1)).flatMap enc
 |a::l,0,h=>by simp
 |a::l,i+1,h=>by
  have h1:=lY hs l i (by simpa using h);rw [List.flatMap_cons,Nat.succ_mul,Nat.add_comm,<- List.drop_drop];rw [show (enc a++l.flatMap enc).drop sz=l.flatMap enc by rw [<- hs a,List.drop_left]];simpa using h1
def Te {α:Type}{enc:α->List Data}{sz:Nat}(hs:∀ a,(enc a).length=sz)(l:List α)(i:Nat)(h:i<l.length) :
  (l.flatMap enc).drop ((i:Int).toNat * sz)=enc l[i]++(l.drop (i+1)).flatMap enc:=by
 rw [Int.toNat_natCast];exact lY hs l i h
def y5.names (c:y5):List L3:=c.k9.map mO.name++c.views.map Vw.name++c.idxs.map Qd.name++c.qn.map Qi.name++c.qh.map Qb.name++c.qm.map Qh.name++c.qo.map Qj.name++c.qg.map PZ.name
def cat (c:y5):c8:= .agg (c.enc.map .d)
def y5.qy (c:y5):Prop:=c.k9.length<=1000/\c.views.length<=1000/\c.idxs.length=0/\c.qn.length=0/\c.qh.length=0/\c.qm.length=0/\c.qo.length=0/\c.qg.length=0
def ji {α:Type}(a b:Option α):Prop:=∀ r,a=some r->b=some r
theorem ji.refl {α:Type}(a:Option α):ji a a:=fun _ h=>h
def ji.no {α:Type}(b:Option α):ji none b:=fun _ h=>by cases h
def LeC (c c' :rZ):Prop:=∀ f args H l,ji (c f args H l) (c' f args H l)
section
variable {cf RV :rZ} (hc:LeC cf RV) {p:FuncId->Bool} {md:FuncId->Nat} {rW:FuncId->Bool} {l:F2} {e:Nat}
include hc
def zf (k:Nat)(f:FuncId)(args:List c8)(st:G4):ji (C6 ⟨cf,p,md,rW,l,e⟩ k f args st) (C6 ⟨RV,p,md,rW,l,e⟩ k f args st):=by
 unfold C6;simp only;split
 .cases h:cf f args st.H l with
  |none=>exact ji.no _
  |some r=>rw [hc _ _ _ _ _ h];exact ji.refl _
 .split
  .split
   .cases h:cf f args (List.take (E9 st.H l.strict 8 (A4 args)) st.H) { l with base:=E9 st.H l.strict 8 (A4 args),strict:=C9 st.H l.strict (E9 st.H l.strict 8 (A4 args)) } with
    |none=>exact ji.no _
    |some r=>rw [hc _ _ _ _ _ h];exact ji.refl _
   .cases h:cf f args (List.take (E9 st.H l.strict 8 (A4 args)) st.H) ⟨0,E9 st.H l.strict 8 (A4 args),E9 st.H l.strict 8 (A4 args),C9 st.H l.strict (E9 st.H l.strict 8 (A4 args))⟩ with
    |none=>exact ji.no _
    |some r=>rw [hc _ _ _ _ _ h];exact ji.refl _
   .cases h:cf f args (List.take (E9 st.H l.strict 8 (A4 args)) st.H) (l.nP (args.headD .any).K5 (E9 st.H l.strict 8 (A4 args)) (E9 st.H l.strict 8 (A4 args)) (C9 st.H l.strict (E9 st.H l.strict 8 (A4 args)))) with
    |none=>exact ji.no _
    |some r=>rw [hc _ _ _ _ _ h];exact ji.refl _
  .exact ji.no _
def Tc (j9:List p6)(y9:Option Nat)(k:Nat)(st:G4)(op:z6):ji (E6 ⟨cf,p,md,rW,l,e⟩ j9 y9 k st op) (E6 ⟨RV,p,md,rW,l,e⟩ j9 y9 k st op):=by
 cases op
 case call f xs=>exact zf hc k f _ st
 case A2 sz len z ps b=>cases b<;>exact ji.refl _
 case an x xs =>
  simp [E6];split
  all_goals simp_all [zf,ji.no]
 all_goals exact ji.refl _
def VL (j9:List p6)(y9:Option Nat)(k:Nat)(op:z6)(st:G4):ji (D6 ⟨cf,p,md,rW,l,e⟩ j9 y9 k op st) (D6 ⟨RV,p,md,rW,l,e⟩ j9 y9 k op st):=by
 unfold D6;split
 .intro r hr
  cases hx:E6 ⟨cf,p,md,rW,l,e⟩ j9 y9 k st op with
  |none=>simp_all
  |some x =>
   rw [hx] at hr;rw [Tc hc j9 y9 k st op _ hx];exact hr
 .exact ji.refl _
def Jz (j9:List p6)(y9:Option Nat)(k:Nat)(i:p6)(st:G4):ji (u9 ⟨cf,p,md,rW,l,e⟩ j9 y9 k i st) (u9 ⟨RV,p,md,rW,l,e⟩ j9 y9 k i st):=by
 unfold u9;split
 .intro r hr
  cases hx:D6 ⟨cf,p,md,rW,l,e⟩ j9 y9 k i.op st with
  |none=>simp_all
  |some x =>
   rw [hx] at hr;rw [VL hc j9 y9 k i.op st _ hx];exact hr
 all_goals simp_all [ji.refl]
theorem DD (j9:List p6):∀ (is:List p6) (k:Nat) (st:G4),ji (eA ⟨cf,p,md,rW,l,e⟩ j9 is k st) (eA ⟨RV,p,md,rW,l,e⟩ j9 is k st)
 |[],_,_=>ji.refl _
 |i::is,k,st=>by
  unfold eA;intro r hr;cases hx:u9 ⟨cf,p,md,rW,l,e⟩ j9 none k i st with
  |none=>simp_all
  |some x =>
   rw [hx] at hr;rw [Jz hc j9 none k i st _ hx];exact DD j9 is (k+1) x.1 r hr
def VK (j9:List p6)(y9:Option Nat)(k:Nat)(i:p6)(st:G4):ji (iY ⟨cf,p,md,rW,l,e⟩ j9 y9 k i st) (iY ⟨RV,p,md,rW,l,e⟩ j9 y9 k i st):=by
 unfold iY;split
 .exact ji.refl _
 .intro r hr
  cases hx:u9 ⟨cf,p,md,rW,l,e⟩ j9 y9 k i st with
  |none=>simp_all
  |some x =>
   rw [hx] at hr;rw [Jz hc j9 y9 k i st _ hx];exact hr
theorem AK (j9:List p6):∀ (is:List p6) (k na:Nat) (st:G4),ji (P6 ⟨cf,p,md,rW,l,e⟩ j9 is k na st) (P6 ⟨RV,p,md,rW,l,e⟩ j9 is k na st)
 |[],_,_,_=>ji.refl _
 |i::is,k,na,st=>by
  unfold P6;intro r hr;cases hx:iY ⟨cf,p,md,rW,l,e⟩ j9 (if i.op.z7 then some na else none) k i st with
  |none=>simp_all
  |some x =>
   rw [hx] at hr;rw [VK hc j9 _ k i st _ hx];simp at hr ⊢;cases hy:P6 ⟨cf,p,md,rW,l,e⟩ j9 is (k+1) (if i.op.z7 then na+1 else na) x.1 with
   |none=>simp_all
   |some y =>
    rw [hy] at hr;rw [AK j9 is (k+1) _ x.1 _ hy];exact hr
def tF (j9:List p6)(draw:Bool)(T:List c8)(H:o9):ji (Q4 ⟨cf,p,md,rW,l,e⟩ j9 draw T H) (Q4 ⟨RV,p,md,rW,l,e⟩ j9 draw T H):=by
 unfold Q4;split
 .intro r hr
  cases hx:P6 ⟨cf,p,md,rW,l,e⟩ j9 j9 0 H.length ⟨T,H++Y9 j9,c9 j9.length .any,slotsOf j9⟩ with
  |none=>simp_all
  |some x =>
   rw [hx] at hr;rw [AK hc j9 j9 0 _ _ _ hx];exact hr
 simp_all [DD]
end
theorem Im {body body' :St->Option (F7×St)}(hb:∀ st,ji (body st) (body' st))(mask:List Bool)(strict n:Nat):∀ (k k' :Nat) (_:k<=k') (st:St),ji (gl body mask strict n k st) (gl body' mask strict n k' st)
 |0,_,_,_=>ji.no _
 |k+1,0,h,_=>by omega
 |k+1,k' +1,h,st=>by
  unfold gl;intro r hr;cases hx:body (clean mask strict n st) with
  |none=>simp_all
  |some x =>
   rw [hx] at hr;rw [hb _ _ hx];obtain ⟨x1,x2⟩:=x;cases x1 with
   |normal=>exact Im hb mask strict n k k' (by omega) x2 r hr
   |exit i=>exact hr
   |ret=>exact hr
theorem fP {cf RV :rZ}(hc:LeC cf RV){p:FuncId->Bool}{md:FuncId->Nat}{rW:FuncId->Bool}{l:F2}{e n n' :Nat}(hn:n<=n'):∀ (c:q9) (st:St),ji (exec ⟨cf,p,md,rW,l,e⟩ n c st) (exec ⟨RV,p,md,rW,l,e⟩ n' c st)
 | .skip,_=>ji.refl _
 | .exit _,_=>ji.refl _
 | .ret,_=>ji.refl _
 | .bad,_=>ji.refl _
 | .fz _,_=>ji.refl _
 | .region ops draw,st=>by
  unfold exec;intro r hr;cases hx:Q4 ⟨cf,p,md,rW,l,e⟩ ops draw st.T st.H with
  |none=>simp_all
  |some x =>
   rw [hx] at hr;rw [tF hc ops draw st.T st.H _ hx];exact hr
 | .seq a b,st=>by
  unfold exec;intro r hr;cases hx:exec ⟨cf,p,md,rW,l,e⟩ n a st with
  |none=>simp_all
  |some x =>
   rw [hx] at hr;rw [fP hc hn a st _ hx];obtain ⟨x1,x2⟩:=x;cases x1 with
   |normal=>exact fP hc hn b x2 r hr
   |exit i=>exact hr
   |ret=>exact hr
 | .cond c a b,st=>by
  unfold exec;split
  .exact fP hc hn a st
  .exact fP hc hn b st
  .exact ji.refl _
 | .test ops draw c a b,st=>by
  unfold exec;intro r hr;cases hx:Q4 ⟨cf,p,md,rW,l,e⟩ ops draw st.T st.H with
  |none=>simp_all
  |some x =>
   rw [hx] at hr;rw [tF hc ops draw st.T st.H _ hx];simp at hr ⊢;split at hr
   .exact fP hc hn a _ r hr
   .exact fP hc hn b _ r hr
   .cases hr
 | .block id body,st=>by
  unfold exec;intro r hr;cases hx:exec ⟨cf,p,md,rW,l,e⟩ n body st with
  |none=>simp_all
  |some x =>
   rw [hx] at hr;rw [fP hc hn body st _ hx];exact hr
 | .loop mask body,st=>by
  exact Im (fun st=>fP hc hn body st) mask _ _ n n' hn st
theorem ET (A:Prog):∀ (n n' :Nat),n<=n' ->LeC (call A n) (call A n')
 |0,_,_=>fun _ _ _ _=>ji.no _
 |n+1,0,h=>by omega
 |n+1,n' +1,h=>fun f args H l=>by
  unfold call;split
  .exact ji.refl _
  .split
   .rename_i af _
    unfold fW;split
    .intro r hr
     cases hx:exec ⟨call A n,A.prom,A.mode,A.idle,l,H.length⟩ n af.body ⟨args++c9 (af.names.length - args.length) .any,H⟩ with
     |none=>simp_all
     |some x =>
      rw [hx] at hr;rw [fP (ET A n n' (by omega)) (by omega) _ _ _ hx];exact hr
    .exact ji.no _
   .exact ji.refl _
def Pf.NY {A:Prog}{n:Nat}{f:FuncId}{args:List c8}{v:c8}(h:call A n f args [] S8=some (v,[])):Pf A f args v :=
 ⟨n,fun m hm=>ET A n m hm f args [] S8 _ h⟩
open Go.ChangeShapes Go.WideShapes Go.ChangeAt Go.RowKit
section
variable {H:Type} {enc:TypeId×Value->H} {P:Program} {w:World} {held:Bool} {base:Nat} {spare:Nat->Bool}
def VX {t e:TypeId}{fuel:Nat}{a:Addr}{len cap:Nat}{x:DataW H×List MemPlace}(hu:P.underlying t=some (.slice e))(h:DataW.trod enc P w base spare held fuel t [.slice (some a) len cap]=some x):∃ elems rest,x.1= .slice elems rest/\elems.length=len:=by
 cases fuel with
 |zero=>simp [DataW.trod] at h
 |succ fuel =>
  unfold DataW.trod at h;rw [hu] at h;simp only at h;split at h
  .simp only [Option.bind_eq_some_iff,Option.map_eq_some_iff] at h
   obtain ⟨elems,hm,rest,_,rfl⟩:=h;exact ⟨_,_,rfl,by rw [List.length_map,(gU hm).1,List.length_range]⟩
  .cases h
def Szd (P:Program)(ts:List TypeId)(as:List c8):Prop:=∀ (j:Nat) (t e:TypeId) (n:Nat) (cells:List Data),ts[j]? =some t->P.underlying t=some (.slice e)->as[j]? =some (.d (.slice n cells))->n * P.bytesOf e<=reachBytes
theorem VM:∀ (ts:List TypeId) (vs:List Value) (ds:List (DataW H)) (ps:List MemPlace) (as:List c8),DataW.TrodAll enc P w base spare held ts vs ds ps->J5 (G0 w) I0 N0 w as vs->(DataW.weightsEach P ts ds).all (·<=reachBytes)=true->Szd P ts as
 |[],_,_,_,_,_,_,_=>fun j t e n cells ht=>by simp at ht
 |t::ts,vs,ds,ps,as,h,hv,hs=>fun j t' e n cells ht hu ha=>by
  obtain ⟨v,vs1,d,ds1,a,b,rfl,rfl,rfl,h1,h2⟩:=Go.ChangeShapes.trodAll_cons h;cases as with
  |nil=>simp at ha
  |cons a0 as =>
   simp only [J5] at hv;obtain ⟨v',xs,e1,Xr,hv2⟩:=hv;cases e1;simp only [DataW.weightsEach,List.all_append,Bool.and_eq_true] at hs;cases j with
   |succ j=>exact VM ts _ _ _ as h2 hv2 hs.2 j t' e n cells (by simpa using ht) hu (by simpa using ha)
   |zero =>
    simp only [List.getElem?_cons_zero,Option.some.injEq] at ht ha;subst ht ha;simp only [VR,DR] at Xr
    rcases Xr with ⟨_,rfl,_⟩|⟨bb,o,cap,rfl,_,_⟩
    .simp
    .obtain ⟨fuel,hf⟩:=h1
     obtain ⟨elems,rest,e2,e3⟩:=VX hu hf;simp only at e2;subst e2;have:=sized_slice (ts:=[t]) (ds:=[.slice elems rest]) (by simp only [DataW.weightsEach,List.all_append,Bool.and_eq_true];exact ⟨hs.1,rfl⟩) (j:=0) rfl rfl hu;rw [e3] at this;exact B6 (Nat.mul_le_mul_right _ (Nat.le_add_right _ _)) this
end
def qC {H:Type}{enc:TypeId×Value->H}{P:Program}{A:Prog}(hok:nA P A){fid:FuncId}{f:Func}{s:ChangeSpec}(hvars:s.vars=[]){tb:TypeId}(hrt:f.resultTypes= #[tb])(htb:P.underlying tb=some .bool)
  {ls:List (List CT)} (QN:EI P f.params.toList ls=true) {W:World} {base:Nat} {args:Array Value} {ds gs:List (DataW H)} {before:List MemPlace} {r:Reach}
  (hfn:s.fn H ds={ results:=[.lit (.bool true)],args:=ds })
  (hval:∀ (j:Nat) t v,f.params[j]? =some t->args[j]? =some v->Value.okWide P W r base t v) (hW:DataW.Whole enc P f.params.toList s.vars false W args.toList ds gs before)
  (hsz:(DataW.weightsEach P (f.params.toList++s.plain.varTypes P) (ds++gs)).all (·<=reachBytes)=true)
  (aD6:∀ as,jo P f.params.toList ls as->Szd P f.params.toList as->∃ n,call A n fid as [] S8=some (.d (.bool true),[])) :
  Calls P fid args W fun e W' =>∃ v,e= .returned v/\s.post enc P f false true false false W args v W' :=by
 have hW' :=hW;obtain ⟨p,q,hA,hV,rfl,hfz,hnd⟩:=hW;rw [hvars] at hV;obtain ⟨rfl,rfl⟩:=trodVars_none hV;have bh2 :(DataW.weightsEach P f.params.toList ds).all (·<=reachBytes)=true:=by
  have e:s.plain.varTypes P=[]:=by simp [ChangeSpec.plain,DataSpec.varTypes,hvars]
  rwa [e,List.append_nil,List.append_nil] at hsz
 obtain ⟨⟨as,a1,a2⟩,a3⟩:=Np f.params.toList ls args.toList ds p QN (fun j t v ht hv=>hval j t v (by simpa using ht) (by simpa using hv)) hA;obtain ⟨n,hn⟩:=aD6 as a1 (VM _ _ _ _ _ hA a2 bh2);refine (QY hok hn a2).mono ?_;rintro e W' ⟨rfl,hK⟩;have ak6 :s.fn H (ds++[])={ results:=[.lit (.bool true)],args:=ds }:=by rw [List.append_nil];exact hfn
 refine ⟨_,rfl,Rk (pa:=p) (pv:=[]) hW' hK (fun b sp hd=> ?_) (fun sp hsp=> ?_) (fun sp _=> ?_) rfl (fun j t v ht hv=> ?_)⟩
 .rw [ak6,hrt]
  exact trodAll_cons_mk (shut_bool htb _) trodAll_mk0
 .rw [ak6]
  exact a3 W' hK sp (fun p' hp=>hsp p' (by simpa using hp))
 .rw [ak6,hvars]
  rfl
 .rw [hrt] at ht hv
  cases j with
  |zero =>
   simp at ht;simp [Value.resultList] at hv;subst ht;subst hv;exact okWide_bool_mk htb _
  |succ j=>simp at ht
end Go.x9


/-
  Code.; Functions: results, and what is handed back.; Functions and programs: a run of the abstract machine is a run of the model.; Deferred functions that do nothing where the function returns: 'recover()', and 'if recover() != nil { .. }'.; Results that are known, as primitives: a run cut into pieces.; A law: from a run of the abstract machine to the model's calls; what is asked behind a call that has left all old blocks alone.
  (Put together by a small program out of several texts; blanks left out to keep the folder small.)
-/
import Derived.Test.YtjnkccpijofgiaaGreatB3
import Derived.Defers
import Derived.Recover
import Derived.ChangeSame
import Derived.ProofKit
set_option linter.unusedVariables false
set_option linter.unusedSimpArgs false
namespace Go.Abs
def AExit.toExit:AExit→Exit
 | .normal=> .normal
 | .exit id=> .exit id
 | .ret=> .ret
def ckTest (P:Program)(names:List Tmp)(ops:Array Oper)(n:Nat)(c' :Operand)(c:Opd):Bool:=Cx.ck ⟨P,names,ops⟩ (fun j=>decide (j<n)) c' c
def chkCode (P:Program)(names:List Tmp)(nt:Nat):Code→ACode→Bool
 |c,.seq (.fz _) k=>chkCode P names nt c k
 | .skip,.skip=>true
 | .region _ ops d',.region ais d=>d==d' &&chkRegion P names nt ops ais d
 | .seq (.region _ ops d') (.seq (.cond c' x' y') z'),.seq (.test ais d c x y) k =>
  d==d' &&chkRegion P names nt ops ais d&&ckTest P names ops ais.length c' c&&chkCode P names nt x' x&&chkCode P names nt y' y&&chkCode P names nt z' k
 | .seq (.region _ ops d') (.cond c' x' y'),.test ais d c x y =>
  d==d' &&chkRegion P names nt ops ais d&&ckTest P names ops ais.length c' c&&chkCode P names nt x' x&&chkCode P names nt y' y
 | .seq (.region i ops d') (.seq (.cond c' x' y') z'),.seq (.seq (.region ais d) (.cond c x y)) k =>
  chkCode P names nt (.region i ops d') (.region ais d)&&chkCode P names nt (.cond c' x' y') (.cond c x y)&&chkCode P names nt z' k
 | .seq x' y',.seq x y=>chkCode P names nt x' x&&chkCode P names nt y' y
 | .cond c' x' y',.cond c x y=>ckTest P names #[] 0 c' c&&chkCode P names nt x' x&&chkCode P names nt y' y
 | .block id' b',.block id b=>id' ==id&&chkCode P names nt b' b
 | .loop b',.loop _ b=>chkCode P names nt b' b
 | .exit id',.exit id=>id' ==id
 | .ret,.ret=>true
 |_,.bad=>true
 |_,_=>false
theorem maskT_get:∀ (m:List Bool) (T:List AVal) (s:Nat),(maskT m T).getD s .any=T.getD s .any∨(maskT m T).getD s .any= .any
 |[],[],s=>by simp [maskT]
 |[],v::vs,0=>by simp [maskT]
 |[],v::vs,s+1=>by simpa [maskT] using maskT_get [] vs s
 |b::m,[],s=>by cases b<;>simp [maskT]
 |true::m,v::vs,0=>by simp [maskT]
 |false::m,v::vs,0=>by simp [maskT]
 |true::m,v::vs,s+1=>by simpa [maskT] using maskT_get m vs s
 |false::m,v::vs,s+1=>by simpa [maskT] using maskT_get m vs s
theorem maskT_len:∀ (m:List Bool) (T:List AVal),(maskT m T).length=T.length
 |[],[]=>by simp [maskT]
 |[],v::vs=>by simpa [maskT] using maskT_len [] vs
 |b::m,[]=>by cases b<;>simp [maskT]
 |true::m,v::vs=>by simpa [maskT] using maskT_len m vs
 |false::m,v::vs=>by simpa [maskT] using maskT_len m vs
theorem least {p:Nat→Prop}(h:∃ m,p m):∃ m,p m∧∀ k,p k→m≤k:=by
 obtain ⟨m,hm⟩:=h
 induction m using Nat.strongRecOn with
 |_ m ih =>
  by_cases h:∃ k,k<m∧p k
  ·obtain ⟨k,hk,hp⟩:=h
   exact ih k hk hp
  ·refine ⟨m,hm,fun k hk=> ?_⟩
   rcases Nat.lt_or_ge k m with h' |h'
   ·exact absurd ⟨k,h',hk⟩ h
   ·exact h'
theorem leasts {α β:Type}(J:Nat→α→β→Prop):∃ μ:α→β→Nat,∀ a b,(∃ m,J m a b)→J (μ a b) a b∧∀ k,J k a b→μ a b≤k:=by
 have:∀ a b,∃ m,(∃ m,J m a b)→J m a b∧∀ k,J k a b→m≤k:=by
  intro a b
  by_cases h:∃ m,J m a b
  ·obtain ⟨m,hm⟩:=least h
   exact ⟨m,fun _=>hm⟩
  ·exact ⟨0,fun h' =>absurd h' h⟩
 exact ⟨fun a b=>Classical.choose (this a b),fun a b=>Classical.choose_spec (this a b)⟩
section
variable {P:Program} {names:List Tmp} {E:Env} {nt:Nat}
theorem clean_sound {st:St}{a:Act}{w:World}{G:Gh}{I:Inj}{N:Nat→Prop}(h:Cd P names E nt st a w G I N)(mask:List Bool){n:Nat}(hn:E.entry≤n) :
  ∃ N',Cd P names E nt (clean mask E.lim.strict n st) a w G I N' ∧Since E st.H w G I N (clean mask E.lim.strict n st).H w G I N' :=by
 have hT:∀ (s:Nat) t,names[s]? =some t→VR G I N w (.slot s) ((maskT mask st.T).getD s .any) (a.tmps.getD t undef):=by
  intro s t ht
  rcases maskT_get mask st.T s with e|e
  ·rw [e];exact h.T s t ht
  ·rw [e];simp [VR]
 unfold clean
 split
 ·rename_i hc
  refine ⟨fun i=>N i∧i<n,⟨fun s t ht=>VR.low n _ _ _ ?_ (hT s t ht),fun id o ho=> ?_,h.wf,fun id o ho=> ?_,?_,fun id hid=> ?_,?_,h.size,h.idle⟩,?_⟩
  ·cases hg:(maskT mask st.T)[s]? with
   |none=>simp [List.getD,hg,AVal.bnd]
   |some v =>
    have:=bndL_mem _ _ _ hg
    simp only [List.getD,hg,Option.getD_some]
    omega
  ·have hlt:id<n:=by have:=lt_of_getElem? ho;simp at this;omega
   simp only at ho
   rw [List.getElem?_take_of_lt hlt] at ho
   exact OR.low hlt o (shown_bnd h.disc hc.2 hlt ho) (h.H id o ho)
  ·have hlt:id<n:=by have:=lt_of_getElem? ho;simp at this;omega
   simp only at ho
   rw [List.getElem?_take_of_lt hlt] at ho
   exact h.disc id o ho
  ·simp only [maskT_len];exact h.lenT
  ·have:=h.nsub id hid.1
   simp;omega
  ·have:=h.ent
   simp;omega
  ·refine ⟨Ext.refl _ _,Pres.refl _ _ _,fun _ _ _=>rfl,fun id hid hN=>⟨hN,by omega⟩,fun id _ hN=>hN.1,fun id o' _ ho=> ?_⟩
   have hlt:id<n:=by have:=lt_of_getElem? ho;simp at this;omega
   simp only at ho
   rw [List.getElem?_take_of_lt hlt] at ho
   exact Or.inr ⟨o',ho,Nat.le_refl _⟩
 ·exact ⟨N,⟨hT,h.H,h.wf,h.disc,by simp only [maskT_len];exact h.lenT,h.nsub,h.ent,h.size,h.idle⟩,Since.refl _ _ _ _ _ _⟩
def Sound (P:Program)(names:List Tmp)(nt:Nat)(E:Env)(C:Code)(run:St→Option (AExit×St)):Prop :=
 ∀ st x st' a w G I N,run st=some (x,st')→Cd P names E nt st a w G I N→∀ Q:Exit→Act→World→Prop,
  (∀ a' w' G' I' N',Cd P names E nt st' a' w' G' I' N' →Since E st.H w G I N st'.H w' G' I' N' →Q x.toExit a' w')→C.wp P Q a w
theorem test_value {X:Cx}{ais:List AIns}{S:Nat→Prop}{r:RSt}{a:Act}{w:World}{G:Gh}{I:Inj}{N:Nat→Prop}{D:Nat→Bool}(h:Rg X ais E nt S r a w G I N)(hD:∀ j,D j=true→S j){c' :Operand}{c:Opd}(hc:X.ck D c' c=true){b:Bool}
  (hv:rho r.T r.L c= .d (.bool b)):a.eval c' = .bool b:=by
 have:=h.ri.opds hD c' c hc
 rw [hv] at this
 simpa [VR,DR] using this
theorem cond_value {st:St}{a:Act}{w:World}{G:Gh}{I:Inj}{N:Nat→Prop}(h:Cd P names E nt st a w G I N){c' :Operand}{c:Opd}(hc:ckTest P names #[] 0 c' c=true){b:Bool}(hv:rho st.T [] c= .d (.bool b)):a.eval c' = .bool b:=by
 have hR:Rg ⟨P,names,#[]⟩ [] E nt (fun _=>False) ⟨st.T,st.H,[],[]⟩ a w G I N:=h.start _ rfl (fun _ h=>h) [] (by simp) (by simp) rfl []
 exact test_value hR (D:=fun j=>decide (j<0)) (fun j hj=>by simp at hj) hc hv
def andThen (rx ry:St→Option (AExit×St)):St→Option (AExit×St):=fun st=>match rx st with
 |some (.normal,st')=>ry st'
 |r=>r
theorem sound_then {x y:Code}{rx ry:St→Option (AExit×St)}(hx:Sound P names nt E x rx)(hy:Sound P names nt E y ry)
  {st:St} {e:AExit} {st' :St} {a:Act} {w:World} {G:Gh} {I:Inj} {N:Nat→Prop} (hrun:andThen rx ry st=some (e,st')) (h:Cd P names E nt st a w G I N) (Q:Exit→Act→World→Prop)
  (hQ:∀ a' w' G' I' N',Cd P names E nt st' a' w' G' I' N' →Since E st.H w G I N st'.H w' G' I' N' →Q e.toExit a' w'):x.wp P (Exit.then (y.wp P Q) Q) a w:=by
 unfold andThen at hrun
 split at hrun
 ·rename_i st1 h1
  refine hx st .normal st1 a w G I N h1 h _ ?_
  intro a1 w1 G1 I1 N1 hc hs
  simp only [AExit.toExit,Exit.then]
  refine hy st1 e st' a1 w1 G1 I1 N1 hrun hc Q ?_
  intro a2 w2 G2 I2 N2 hc2 hs2
  exact hQ a2 w2 G2 I2 N2 hc2 (hs.trans hs2)
 ·rename_i hne
  refine hx st e st' a w G I N hrun h _ ?_
  intro a1 w1 G1 I1 N1 hc hs
  have:=hQ a1 w1 G1 I1 N1 hc hs
  cases e with
  |normal=>exact absurd hrun (hne st')
  |exit id=>exact this
  |ret=>exact this
theorem sound_seq {x y:Code}{rx ry:St→Option (AExit×St)}(hx:Sound P names nt E x rx)(hy:Sound P names nt E y ry) :
  Sound P names nt E (.seq x y) (andThen rx ry) :=
 fun _ _ _ _ _ _ _ _ hrun h Q hQ=>wp_seq (sound_then hx hy hrun h Q hQ)
theorem andThen_assoc (rx ry rz:St→Option (AExit×St)):andThen (andThen rx ry) rz=andThen rx (andThen ry rz):=by
 funext st
 unfold andThen
 cases rx st with
 |none=>rfl
 |some p =>
  obtain ⟨e,s⟩:=p
  cases e<;>rfl
theorem sound_test (hE:EnvOK P E)(hn:namesOK names=true){ops:Array Oper}{ais:List AIns}{d:Bool}{c:Opd}{c' :Operand}(hreg:chkRegion P names nt ops ais d=true)(hck:ckTest P names ops ais.length c' c=true)
  {st:St} {a:Act} {w:World} {G:Gh} {I:Inj} {N:Nat→Prop} (h:Cd P names E nt st a w G I N) {r:RSt} (hr:runRegion E ais d st.T st.H=some r) {b:Bool} (hv:rho r.T r.L c= .d (.bool b)) (id:Nat) (Q:Exit→Act→World→Prop)
  (hQ:∀ a' w' G' I' N',Cd P names E nt ⟨r.T,r.H⟩ a' w' G' I' N' →Since E st.H w G I N r.H w' G' I' N' →a'.eval c' = .bool b→Q .normal a' w'):(Code.region id ops d).wp P Q a w:=by
 refine region_sound hE hn hreg h hr id Q ?_
 intro a' w' G' I' N' hR hs
 exact hQ a' w' G' I' N' (Cd.done rfl hR) hs (test_value hR (D:=fun j=>decide (j<ais.length)) (fun j hj=>by simpa using hj) hck hv)
theorem sound_loop {c:Code}{body:St→Option (AExit×St)}(hb:Sound P names nt E c body)(mask:List Bool)(fuel:Nat) :
  Sound P names nt E (.loop c) (fun st=>loopN body mask E.lim.strict st.H.length fuel st):=by
 intro st e st' a w G I N hrun h Q hQ
 simp only at hrun
 generalize hn:st.H.length=n at hrun
 have hen:E.entry≤n:=by rw [← hn];exact h.ent
 let J:Nat→Act→World→Prop:=fun m a' w' =>∃ st1 G1 I1 N1,loopN body mask E.lim.strict n m st1=some (e,st')∧Cd P names E nt st1 a' w' G1 I1 N1∧Since E st.H w G I N st1.H w' G1 I1 N1
 obtain ⟨μ,hμs⟩:=leasts J
 refine wp_loop (I:=fun a' w' =>∃ m,J m a' w') (μ:=μ) ⟨fuel,st,G,I,N,hrun,h,Since.refl _ _ _ _ _ _⟩ ?_
 intro a1 w1 hJ
 obtain ⟨hm,hmin⟩:=hμs a1 w1 hJ
 generalize hμ:μ a1 w1=m at hm
 obtain ⟨st1,G1,I1,N1,hrun1,hc1,hs1⟩:=hm
 cases m with
 |zero=>simp [loopN] at hrun1
 |succ m =>
  simp only [loopN] at hrun1
  obtain ⟨N2,hc2,hs2⟩:=clean_sound hc1 mask hen
  split at hrun1
  ·rename_i st2 hb2
   refine hb _ .normal st2 a1 w1 G1 I1 N2 hb2 hc2 _ ?_
   intro a3 w3 G3 I3 N3 hc3 hs3
   simp only [AExit.toExit,Exit.then]
   have hJ3:J m a3 w3:=⟨st2,G3,I3,N3,hrun1,hc3,(hs1.trans hs2).trans hs3⟩
   refine ⟨⟨m,hJ3⟩,?_⟩
   exact Nat.lt_succ_of_le ((hμs a3 w3 ⟨m,hJ3⟩).2 m hJ3)
  ·rename_i hne
   refine hb _ e st' a1 w1 G1 I1 N2 hrun1 hc2 _ ?_
   intro a3 w3 G3 I3 N3 hc3 hs3
   have:=hQ a3 w3 G3 I3 N3 hc3 ((hs1.trans hs2).trans hs3)
   cases e with
   |normal=>exact absurd hrun1 (hne st')
   |exit id=>exact this
   |ret=>exact this
theorem exec_seq {lim:Nat}(x y:ACode):exec E lim (.seq x y)=andThen (exec E lim x) (exec E lim y):=by
 funext st
 simp only [exec,andThen]
 cases exec E lim x st with
 |none=>rfl
 |some p =>
  obtain ⟨e,s⟩:=p
  cases e<;>rfl
theorem exec_sound (hE:EnvOK P E)(hn:namesOK names=true)(lim:Nat):∀ (n:Nat) (c:ACode) (C:Code),SizeOf.sizeOf c<n→chkCode P names nt C c=true→Sound P names nt E C (exec E lim c):=by
 intro n
 induction n with
 |zero=>intro c C h;omega
 |succ n ih =>
 intro c C hsz hc
 unfold chkCode at hc
 split at hc
 all_goals (try (cases hc;done))
 ·
  rename_i s k
  simp only [ACode.seq.sizeOf_spec] at hsz
  have ik:=ih k C (by omega) hc
  intro st e st' a w G I N hrun h Q hQ
  simp only [exec] at hrun
  cases hf:fzAt E.lim E.entry s st with
  |none=>rw [hf] at hrun;cases hrun
  |some st1 =>
   rw [hf] at hrun
   obtain ⟨G1,N1,h1,s1⟩:=fz_sound h hf
   exact ik st1 e st' a w G1 I N1 hrun h1 Q (fun a' w' G' I' N' hc' hs' =>hQ a' w' G' I' N' hc' (s1.trans hs'))
 ·
  intro st e st' a w G I N hrun h Q hQ
  simp only [exec] at hrun
  cases hrun
  exact wp_skip (hQ a w G I N h (Since.refl _ _ _ _ _ _))
 ·
  rename_i id ops d' ais d
  simp only [Bool.and_eq_true,beq_iff_eq] at hc
  obtain ⟨rfl,hc⟩:=hc
  intro st e st' a w G I N hrun h Q hQ
  simp only [exec] at hrun
  split at hrun
  ·rename_i r hr
   cases hrun
   refine region_sound hE hn hc h hr id Q ?_
   intro a' w' G' I' N' hR hs
   exact hQ a' w' G' I' N' (Cd.done rfl hR) hs
  ·cases hrun
 ·
  rename_i id ops d' c' x' y' z' ais d c x y k
  simp only [Bool.and_eq_true,beq_iff_eq] at hc
  obtain ⟨⟨⟨⟨⟨rfl,h1⟩,h2⟩,h3⟩,h4⟩,h5⟩:=hc
  simp only [ACode.seq.sizeOf_spec,ACode.test.sizeOf_spec] at hsz
  have ix:=ih x x' (by omega) h3
  have iy:=ih y y' (by omega) h4
  have iz:=ih k z' (by omega) h5
  intro st e st' a w G I N hrun h Q hQ
  simp only [exec] at hrun
  refine wp_seq ?_
  cases hr:runRegion E ais d st.T st.H with
  |none=>rw [hr] at hrun;cases hrun
  |some r =>
   rw [hr] at hrun
   simp only at hrun
   have both:∀ (b:Bool) (z:Code) (rz:St→Option (AExit×St)),rho r.T r.L c= .d (.bool b)→Sound P names nt E z rz→andThen rz (exec E lim k) ⟨r.T,r.H⟩=some (e,st')→(if b then x' else y')=z→(Code.region id ops d).wp P (Exit.then ((Code.seq (.cond c' x' y') z').wp P Q) Q) a w:=by
    intro b z rz hv hz hrz hbz
    refine sound_test hE hn h1 h2 h hr hv id _ ?_
    intro a' w' G' I' N' hc' hs' hev
    simp only [Exit.then]
    refine wp_seq (wp_cond hev ?_)
    rw [hbz]
    refine sound_then hz iz hrz hc' Q ?_
    intro a2 w2 G2 I2 N2 hc2 hs2
    exact hQ a2 w2 G2 I2 N2 hc2 (hs'.trans hs2)
   cases hv:rho r.T r.L c with
   |d v =>
    cases v with
    |bool b =>
     rw [hv] at hrun
     cases b with
     |true=>exact both true x' _ hv ix hrun rfl
     |false=>exact both false y' _ hv iy hrun rfl
    |_=>rw [hv] at hrun;cases hrun
   |_=>rw [hv] at hrun;cases hrun
 ·
  rename_i id ops d' c' x' y' ais d c x y
  simp only [Bool.and_eq_true,beq_iff_eq] at hc
  obtain ⟨⟨⟨⟨rfl,h1⟩,h2⟩,h3⟩,h4⟩:=hc
  simp only [ACode.test.sizeOf_spec] at hsz
  have ix:=ih x x' (by omega) h3
  have iy:=ih y y' (by omega) h4
  intro st e st' a w G I N hrun h Q hQ
  simp only [exec] at hrun
  refine wp_seq ?_
  cases hr:runRegion E ais d st.T st.H with
  |none=>rw [hr] at hrun;cases hrun
  |some r =>
   rw [hr] at hrun
   simp only at hrun
   have both:∀ (b:Bool) (z:Code) (rz:St→Option (AExit×St)),rho r.T r.L c= .d (.bool b)→Sound P names nt E z rz→rz ⟨r.T,r.H⟩=some (e,st')→(if b then x' else y')=z→(Code.region id ops d).wp P (Exit.then ((Code.cond c' x' y').wp P Q) Q) a w:=by
    intro b z rz hv hz hrz hbz
    refine sound_test hE hn h1 h2 h hr hv id _ ?_
    intro a' w' G' I' N' hc' hs' hev
    simp only [Exit.then]
    refine wp_cond hev ?_
    rw [hbz]
    refine hz _ e st' a' w' G' I' N' hrz hc' Q ?_
    intro a2 w2 G2 I2 N2 hc2 hs2
    exact hQ a2 w2 G2 I2 N2 hc2 (hs'.trans hs2)
   cases hv:rho r.T r.L c with
   |d v =>
    cases v with
    |bool b =>
     rw [hv] at hrun
     cases b with
     |true=>exact both true x' _ hv ix hrun rfl
     |false=>exact both false y' _ hv iy hrun rfl
    |_=>rw [hv] at hrun;cases hrun
   |_=>rw [hv] at hrun;cases hrun
 ·
  rename_i i ops d' c' x' y' z' ais d c x y k
  simp only [Bool.and_eq_true] at hc
  simp only [ACode.seq.sizeOf_spec] at hsz
  rw [exec_seq,exec_seq,andThen_assoc]
  exact sound_seq (ih (.region ais d) _ (by omega) hc.1.1) (sound_seq (ih (.cond c x y) _ (by omega) hc.1.2) (ih k z' (by omega) hc.2))
 ·
  rename_i x' y' x y _ _ _
  simp only [Bool.and_eq_true] at hc
  simp only [ACode.seq.sizeOf_spec] at hsz
  rw [exec_seq]
  exact sound_seq (ih x x' (by omega) hc.1) (ih y y' (by omega) hc.2)
 ·
  rename_i c' x' y' c x y
  simp only [Bool.and_eq_true] at hc
  simp only [ACode.cond.sizeOf_spec] at hsz
  intro st e st' a w G I N hrun h Q hQ
  simp only [exec] at hrun
  split at hrun
  ·rename_i hv
   exact wp_cond_true (cond_value h hc.1.1 hv) (ih x x' (by omega) hc.1.2 st e st' a w G I N hrun h Q hQ)
  ·rename_i hv
   exact wp_cond_false (cond_value h hc.1.1 hv) (ih y y' (by omega) hc.2 st e st' a w G I N hrun h Q hQ)
  ·cases hrun
 ·
  rename_i id' b' id b
  simp only [Bool.and_eq_true,beq_iff_eq] at hc
  obtain ⟨rfl,hc⟩:=hc
  simp only [ACode.block.sizeOf_spec] at hsz
  have ib:=ih b b' (by omega) hc
  intro st e st' a w G I N hrun h Q hQ
  simp only [exec] at hrun
  refine wp_block ?_
  split at hrun
  ·rename_i i1 st1 h1
   refine ib st (.exit i1) st1 a w G I N h1 h _ ?_
   intro a' w' G' I' N' hc' hs'
   simp only [AExit.toExit,Exit.inBlock]
   split at hrun
   ·rename_i he
    cases hrun
    rw [if_pos he]
    exact hQ a' w' G' I' N' hc' hs'
   ·rename_i he
    cases hrun
    rw [if_neg he]
    exact hQ a' w' G' I' N' hc' hs'
  ·rename_i hne
   refine ib st e st' a w G I N hrun h _ ?_
   intro a' w' G' I' N' hc' hs'
   have:=hQ a' w' G' I' N' hc' hs'
   cases e with
   |normal=>exact this
   |exit i=>exact absurd hrun (hne i st')
   |ret=>exact this
 ·
  rename_i b' mask b
  simp only [ACode.loop.sizeOf_spec] at hsz
  exact sound_loop (ih b b' (by omega) hc) mask lim
 ·
  rename_i id' id
  intro st e st' a w G I N hrun h Q hQ
  simp only [beq_iff_eq] at hc
  subst hc
  simp only [exec] at hrun
  cases hrun
  exact wp_exit (hQ a w G I N h (Since.refl _ _ _ _ _ _))
 ·
  intro st e st' a w G I N hrun h Q hQ
  simp only [exec] at hrun
  cases hrun
  exact wp_ret (hQ a w G I N h (Since.refl _ _ _ _ _ _))
 ·
  intro st e st' a w G I N hrun h Q hQ
  simp only [exec] at hrun
  cases hrun
end
end Go.Abs
namespace Go.Abs
def freeze (G:Gh)(n:Nat):Gh:=fun b =>
 match G b with
 | .obj id=>if n≤id then .imm else .obj id
 |x=>x
section
variable {P:Program} {G:Gh} {I:Inj} {N:Nat→Prop} {w:World} {n:Nat}
theorem Imm_freeze {b o:Nat}(h:Imm G b o):Imm (freeze G n) b o:=by
 unfold Imm at h ⊢
 unfold freeze
 cases hg:G b with
 |obj id=>rw [hg] at h;simp at h
 |free=>rw [hg] at h;simp at h
 |imm=>simp
 |_=>rw [hg] at h;simpa using h
theorem freeze_ext:Ext G w (freeze G n) w where
 os:=rfl
 tape:=rfl
 output:=rfl
 size:=Nat.le_refl _
 imm b o h:=⟨Imm_freeze h,rfl⟩
 still b h:=⟨by rcases h with h|⟨m,h⟩<;>simp [freeze,h],rfl⟩
 shape _ c _ _ h:=⟨c,h,rfl⟩
theorem freeze_keeps (q:Place):Keeps q G w (freeze G n) w:=fun b m hb=>⟨by simp [freeze,hb],rfl⟩
theorem freeze_obj {b id:Nat}(h:id<n)(hb:G b= .obj id):freeze G n b= .obj id:=by simp only [freeze,hb];rw [if_neg (by omega)]
theorem freeze_wf (h:WF G w):WF (freeze G n) w:=fun b hb=>by simp [freeze,h b hb]
theorem freeze_vr {pl:Place}{a:AVal}{x:Value}(h:VR G I N w pl a x):VR (freeze G n) I N w pl a x :=
 VR.mono freeze_ext.sub (fun _ _=>rfl) (fun _ h=>h) _ _ _ (Or.inr (freeze_keeps pl)) h
theorem data_at {pl:Place}{a:AVal}{d:Data}{x:Value}(h:a.data? =some d)(hv:VR G I N w pl a x):DR G w d x:=by
 unfold AVal.data? at h
 split at h
 ·cases h;simpa [VR] using hv
 ·cases h
  have:=hv.asD (pl' := .none)
  simpa [AVal.asD,VR] using this
 ·cases h
  have:=hv.asD (pl' := .none)
  simpa [AVal.asD,VR] using this
 ·cases h
theorem datas_get:∀ (cs:List AVal) (xs:List Data),datas? cs=some xs→xs.length=cs.length∧∀ (i:Nat) x,xs[i]? =some x→∃ a,cs[i]? =some a∧a.data? =some x
 |[],xs,h=>by simp [datas?] at h;subst h;exact ⟨rfl,by simp⟩
 |c::cs,xs,h=>by
  unfold datas? at h
  split at h
  ·rename_i x hx
   split at h
   ·rename_i ys hys
    cases h
    obtain ⟨g1,g2⟩:=datas_get cs ys hys
    refine ⟨by simp [g1],fun i y hi=> ?_⟩
    cases i with
    |zero=>simp at hi;subst hi;exact ⟨c,rfl,hx⟩
    |succ i=>simpa using g2 i y (by simpa using hi)
   ·cases h
  ·cases h
theorem frz_sound {H:Heap}(hH:HR G I N w H):∀ (fuel:Nat) (as bs:List AVal),frzL H n fuel as=some bs→bs.length=as.length∧∀ (i:Nat) a pl x,as[i]? =some a→VR G I N w pl a x→∃ b,bs[i]? =some b∧VR (freeze G n) I N w pl b x
 |0,as,bs,h=>by simp [frzL] at h
 |fuel+1,[],bs,h=>by
  simp only [frzL] at h
  cases h
  exact ⟨rfl,by simp⟩
 |fuel+1,v::vs,bs,h=>by
  simp only [frzL] at h
  split at h
  ·cases h
  ·rename_i ws hws
   obtain ⟨l1,l2⟩:=frz_sound hH fuel vs ws hws
   have fin:∀ (u:AVal),(∀ pl x,VR G I N w pl v x→VR (freeze G n) I N w pl u x)→bs=u::ws→bs.length=(v::vs).length∧∀ (i:Nat) a pl x,(v::vs)[i]? =some a→VR G I N w pl a x→∃ b,bs[i]? =some b∧VR (freeze G n) I N w pl b x:=by
    rintro u hu rfl
    refine ⟨by simp [l1],fun i a pl x hi hv=> ?_⟩
    cases i with
    |zero=>simp at hi;subst hi;exact ⟨u,rfl,hu pl x hv⟩
    |succ i=>simpa using l2 i a pl x (by simpa using hi) hv
   have recs:∀ (l l' :List AVal),frzL H n fuel l=some l' →∀ xs,VRs G I N w l xs→VRs (freeze G n) I N w l' xs:=by
    intro l l' hl xs hx
    obtain ⟨m1,m2⟩:=frz_sound hH fuel l l' hl
    have hlen:=VRs.length _ _ hx
    refine VRs_of_pointwise _ _ (by omega) fun j b u hj hu=> ?_
    have hjl:j<l.length:=by have:=lt_of_getElem? hj;omega
    obtain ⟨b',e1,e2⟩:=m2 j l[j] .none u (List.getElem?_eq_getElem hjl) (by
     obtain ⟨u',e3,e4⟩:=VRs.get _ _ hx j l[j] (List.getElem?_eq_getElem hjl)
     rw [hu] at e3;cases e3;exact e4)
    rw [hj] at e1;cases e1
    exact e2
   split at h
   ·rename_i id sz lo len
    split at h
    ·cases h
     exact fin _ (fun pl x hv=>freeze_vr hv) rfl
    ·rename_i hid
     split at h
     ·rename_i us hus
      split at h
      ·rename_i us' hus'
       split at h
       ·rename_i xs hxs
        cases h
        refine fin _ (fun pl x hv=> ?_) rfl
        simp only [VR] at hv ⊢
        obtain ⟨hN,cap,rfl,hcap,c,e,f,hc,hsz⟩:=hv
        simp only [DR]
        refine Or.inr ⟨(I id).1,(I id).2+lo,cap,rfl,hcap,?_⟩
        obtain ⟨d1,d2⟩:=datas_get us' xs hxs
        obtain ⟨m1,m2⟩:=frz_sound hH fuel us us' hus'
        refine DRs_of _ xs fun i y hi=> ?_
        have hpos:0<len * sz:=by
         rcases Nat.eq_zero_or_pos (len * sz) with h0|h0
         ·have hul:us.length=0:=by
           unfold rd at hus
           split at hus
           ·split at hus
            ·cases hus;simp [h0]
            ·cases hus
           ·cases hus
          have:=lt_of_getElem? hi
          omega
         ·exact h0
        obtain ⟨_,zs,g1,g2,g3,g4⟩:=hH.rd hus hpos
        have hil:i<len * sz:=by have:=lt_of_getElem? hi;omega
        have hlab:G (I id).1= .obj id:=by
         unfold rd at hus
         split at hus
         ·rename_i l0 hl0
          have:=hH id _ hl0
          simp only [OR] at this
          obtain ⟨_,_,_,_,_,h2,_⟩:=this
          exact h2
         ·cases hus
        refine ⟨?_,?_⟩
        ·have:freeze G n (I id).1= .imm:=by simp only [freeze,hlab];rw [if_pos (by omega)]
         simp [Imm,this]
        ·have hz:zs[i]? =some zs[i]:=List.getElem?_eq_getElem (by omega)
         have hu:us[i]? =some us[i]:=List.getElem?_eq_getElem (by omega)
         refine ⟨zs[i],g3 i _ hz,?_⟩
         have hvr:=g4 i _ _ hu hz
         obtain ⟨b,e1,e2⟩:=m2 i us[i] _ _ hu hvr
         obtain ⟨a',e3,e4⟩:=d2 i y hi
         rw [e1] at e3;cases e3
         exact data_at e4 e2
       ·cases h
      ·cases h
     ·cases h
   ·rename_i l
    split at h
    ·rename_i l' hl
     cases h
     refine fin _ (fun pl x hv=> ?_) rfl
     simp only [VR] at hv ⊢
     obtain ⟨cs,h1,h2⟩:=hv
     exact ⟨cs,h1,recs l l' hl _ h2⟩
    ·cases h
   ·rename_i l
    split at h
    ·rename_i l' hl
     cases h
     refine fin _ (fun pl x hv=> ?_) rfl
     simp only [VR] at hv ⊢
     obtain ⟨cs,h1,h2⟩:=hv
     exact ⟨cs,h1,recs l l' hl _ h2⟩
    ·cases h
   ·cases h
    exact fin _ (fun pl x hv=>freeze_vr hv) rfl
end
def chkRes (P:Program)(names:List Tmp):List ResultVar→List ARes→Bool
 |[],[]=>true
 | .tmp t::r,.slot s::q=>names[s]? ==some t&&chkRes P names r q
 | .cell a t::r,.cell s n::q=>names[s]? ==some a&&loadOK P t n&&chkRes P names r q
 |_,_=>false
def resVar (tmps:Array Value):ResultVar→Sem Value
 | .tmp t=>pure (tmps.getD t undef)
 | .cell a t=>do loadVar t (← asAddr (tmps.getD a undef))
section
variable {P:Program} {names:List Tmp} {E:Env} {nt:Nat} {st:St} {a:Act} {w:World} {G:Gh} {I:Inj} {N:Nat→Prop}
theorem res_one (h:Cd P names E nt st a w G I N){rv:ResultVar}{ar:ARes}(hc:chkRes P names [rv] [ar]=true){v:AVal}(hv:resVal st.T st.H ar=some v):∃ x s,(resVar a.tmps rv).run P w= .ok x w∧VR G I N w (.slot s) v x:=by
 cases rv with
 |tmp t =>
  cases ar with
  |slot s =>
   simp only [chkRes,Bool.and_eq_true,beq_iff_eq] at hc
   simp only [resVal] at hv
   have:=h.T s t hc.1
   rw [getD_of hv] at this
   exact ⟨_,s,by simp [resVar],this⟩
  |cell s n=>simp [chkRes] at hc
 |cell t ty =>
  cases ar with
  |slot s=>simp [chkRes] at hc
  |cell s n =>
   simp only [chkRes,Bool.and_eq_true,beq_iff_eq] at hc
   obtain ⟨⟨h1,h2⟩,_⟩:=hc
   cases n with
   |none =>
    simp only [resVal] at hv
    split at hv
    ·rename_i id off hT
     split at hv
     ·rename_i u hu
      cases hv
      have hp:=h.T s t h1
      rw [getD_of hT] at hp
      simp only [VR] at hp
      obtain ⟨_,xs,g1,_,g3,g4⟩:=h.H.rd hu (by omega)
      obtain ⟨z,rfl⟩:∃ z,xs=[z]:=List.length_eq_one_iff.1 g1
      have hz:=g3 0 z rfl
      have hvz:=g4 0 u z rfl rfl
      have ha:isAggT P ty=some false:=by simpa [loadOK] using h2
      simp at hz
      refine ⟨z,s,?_,hvz.asD⟩
      simp [resVar,asAddr,hp.2,loadVar,run_isAgg ha,hz]
     ·cases hv
    ·cases hv
   |some n =>
    simp only [resVal] at hv
    split at hv
    ·rename_i id off hT
     split at hv
     ·rename_i us hu
      cases hv
      have hp:=h.T s t h1
      rw [getD_of hT] at hp
      simp only [VR] at hp
      have ha:isAggT P ty=some true∧P.cellsOf ty=n∧0<n:=by simpa [loadOK,and_assoc] using h2
      obtain ⟨_,xs,g1,g2,g3,g4⟩:=h.H.rd hu ha.2.2
      have hs:(sizeOf ty).run P w= .ok n w:=by
       rw [← ha.2.1];refine run_sizeOf ?_
       have:=ha.1;unfold isAggT at this
       cases hu:P.underlying ty with
       |none=>simp [hu] at this
       |some d=>exact info_of_underlying hu
      have hl:=run_loadCells_list (P:=P) w (ad (I id).1 ((I id).2+off)) xs (fun j v hj=>by rw [add_ad];exact g3 j v hj)
      rw [g1] at hl
      refine ⟨.agg xs.toArray,s,?_,?_⟩
      ·simp [resVar,asAddr,hp.2,loadVar,run_isAgg ha.1,hs,hl]
      ·simp only [VR]
       refine ⟨_,rfl,VRs_of_pointwise _ _ (by simp [g1,g2]) fun j b v hj hv=> ?_⟩
       simp at hj hv
       obtain ⟨b',hb',rfl⟩:=hj
       exact (g4 j b' v hb' hv).asD
     ·cases hv
    ·cases hv
theorem res_all (h:Cd P names E nt st a w G I N):∀ (rvs:List ResultVar) (ars:List ARes) (vs:List AVal),chkRes P names rvs ars=true→resVals st.T st.H ars=some vs →
  ∃ xs:List Value,(rvs.mapM (resVar a.tmps)).run P w= .ok xs w∧xs.length=vs.length∧∀ (i:Nat) v x,vs[i]? =some v→xs[i]? =some x→∃ s,VR G I N w (.slot s) v x
 |[],ars,vs,hc,hv=>by
  cases ars with
  |cons _ _=>simp [chkRes] at hc
  |nil =>
   simp only [resVals] at hv
   cases hv
   exact ⟨[],by simp,rfl,by simp⟩
 |rv::rvs,ars,vs,hc,hv=>by
  cases ars with
  |nil=>cases rv<;>simp [chkRes] at hc
  |cons ar ars =>
   have hc1:chkRes P names [rv] [ar]=true∧chkRes P names rvs ars=true:=by
    cases rv<;>cases ar<;>simp_all [chkRes]
   simp only [resVals] at hv
   split at hv
   ·rename_i v hv1
    split at hv
    ·rename_i vs' hvs
     cases hv
     obtain ⟨x,s,h1,h2⟩:=res_one h hc1.1 hv1
     obtain ⟨xs,h3,h4,h5⟩:=res_all h rvs ars vs' hc1.2 hvs
     refine ⟨x::xs,?_,by simp [h4],fun i u y hi hy=> ?_⟩
     ·simp [List.mapM_cons,h1,h3]
     ·cases i with
      |zero=>simp at hi hy;subst hi;subst hy;exact ⟨s,h2⟩
      |succ i=>exact h5 i u y (by simpa using hi) (by simpa using hy)
    ·cases hv
   ·cases hv
end
end Go.Abs
namespace Go.Abs
structure SameW (w w' :World):Prop where
 heap:w'.heap=w.heap
 os:w'.os=w.os
 tape:w'.tape=w.tape
 output:w'.output=w.output
theorem SameW.refl (w:World):SameW w w:=⟨rfl,rfl,rfl,rfl⟩
theorem SameW.trans {w w1 w2:World}(h:SameW w w1)(k:SameW w1 w2):SameW w w2:=⟨k.heap.trans h.heap,k.os.trans h.os,k.tape.trans h.tape,k.output.trans h.output⟩
theorem SameW.ext {G:Gh}{w w' :World}(h:SameW w w'):Ext G w G w' where
 os:=h.os
 tape:=h.tape
 output:=h.output
 size:=by rw [h.heap];exact Nat.le_refl _
 imm b o hi:=⟨hi,cell_heap h.heap _⟩
 still b _:=⟨rfl,by rw [h.heap]⟩
 shape b c e f hc:=⟨c,by rw [h.heap];exact hc,rfl⟩
theorem SameW.keeps {G:Gh}{w w' :World}(h:SameW w w')(q:Place):Keeps q G w G w' :=fun b n hb=>⟨hb,by rw [h.heap]⟩
def Idle (P:Program)(f:FuncId):Prop :=
 canCall P f=true∧∀ args w,CallsD P f args .returning w fun e u' w' =>(∃ v,e= .returned v)∧u' = .returning∧SameW w w'
section
variable {P:Program} {names:List Tmp} {E:Env} {nt:Nat} {st:St} {a:Act} {w w' :World} {G:Gh} {I:Inj} {N:Nat→Prop}
theorem Cd.same (h:Cd P names E nt st a w G I N)(hw:SameW w w'):Cd P names E nt st a w' G I N where
 T s t ht:=VR.mono hw.ext.sub (fun _ _=>rfl) (fun _ h=>h) _ _ _ (Or.inr (hw.keeps _)) (h.T s t ht)
 H id o ho:=OR.mono hw.ext.sub (fun _ _=>rfl) (fun _ h=>h) id o (fun h=>⟨h,by rw [hw.heap]⟩) (fun _=>hw.keeps _) (h.H id o ho)
 wf b hb:=h.wf b (by rw [← hw.heap];exact hb)
 disc:=h.disc
 lenT:=h.lenT
 nsub:=h.nsub
 ent:=h.ent
 size:=h.size
 idle:=h.idle
theorem Since.same {H0 H:Heap}{w0:World}{G0:Gh}{I0:Inj}{N0:Nat→Prop}(h:Since E H0 w0 G0 I0 N0 H w G I N)(hw:SameW w w'):Since E H0 w0 G0 I0 N0 H w' G I N :=
 h.trans ⟨hw.ext,fun id _=>⟨fun b hb=>⟨hb,by rw [hw.heap]⟩,fun _=>hw.keeps _⟩,fun _ _ _=>rfl,fun _ _ h=>h,fun _ _ h=>h,fun _ o _ ho=>Or.inr ⟨o,ho,Nat.le_refl _⟩⟩
theorem leaves_idle {idle:FuncId→Bool}(hidle:∀ f,idle f=true→Idle P f){fn:Func}{tmps:Array Value}{R:Ending→World→Prop}:∀ (ds:List Deferred) (w:World),(∀ d,d ∈ ds→IdleD P idle d) →
  (∀ w',SameW w w' →∃ v,(results fn tmps).run P w' = .ok v w' ∧R (.returned v) w')→Leaves P fn tmps R ds .returning w
 |[],w,_,h=>h w (SameW.refl w)
 |d::ds,w,hd,h=>by
  obtain ⟨f,cap,h1,h2⟩:=hd d (by simp)
  obtain ⟨hcan,hD⟩:=hidle f h2
  obtain ⟨tgt,dargs⟩:=d
  simp only at h1
  subst h1
  refine leaves_cons (f:=f) (args:=dargs++cap) (by simp) (by simp only [invoke];exact run_callFunc hcan _) ?_
  refine CallsD.mono (hD _ w) ?_
  rintro e u' w' ⟨⟨v,rfl⟩,rfl,hw⟩
  exact leaves_idle hidle ds w' (fun d hd' =>hd d (by simp [hd'])) (fun w'' hw' =>h w'' (hw.trans hw'))
theorem results_run {fn:Func}{tmps:Array Value}{xs:List Value}(h:(fn.results.toList.mapM (resVar tmps)).run P w= .ok xs w) :
  (results fn tmps).run P w= .ok (if h:xs.length=1 then xs[0]'(by omega) else .tuple xs.toArray) w:=by
 have e:results fn tmps=(fn.results.mapM (resVar tmps) >>= fun vs=>pure (if h:vs.size=1 then vs[0] else .tuple vs)):=by
  unfold results
  congr 1
 rw [e,Array.mapM_eq_mapM_toList]
 simp only [map_eq_pure_bind,Sem.run_bind,h,Result.andThen_ok,Sem.run_pure]
 simp only [List.size_toArray]
 split
 ·rename_i h1
  simp
 ·rfl
theorem retval {vs:List AVal}{xs:List Value}(hl:xs.length=vs.length)(h:∀ (i:Nat) v x,vs[i]? =some v→xs[i]? =some x→∃ s,VR G I N w (.slot s) v x) :
  ∃ pl G2,Moved pl G w G2∧(∀ id off,pl≠ .cell id off)∧VR G2 I N w .ret (oneOrTuple vs) (if h:xs.length=1 then xs[0]'(by omega) else .tuple xs.toArray):=by
 by_cases h1:xs.length=1
 ·obtain ⟨x,rfl⟩:=List.length_eq_one_iff.1 h1
  obtain ⟨v,rfl⟩:=List.length_eq_one_iff.1 (hl.symm.trans h1)
  obtain ⟨s,hv⟩:=h 0 v x rfl rfl
  simp only [oneOrTuple]
  by_cases ho:∃ z n c,v= .own z n c
  ·obtain ⟨z,n,c,rfl⟩:=ho
   obtain ⟨G2,hm,hv2⟩:=own_move (pl' := .ret) (by simp) hv
   exact ⟨.slot s,G2,hm,by simp,by simpa using hv2⟩
  ·exact ⟨.slot s,G,Moved.refl _ _ _,by simp,by simpa using hv.anyplace (fun z n c e=>ho ⟨z,n,c,e⟩)⟩
 ·refine ⟨.ret,G,Moved.refl _ _ _,by simp,?_⟩
  rw [dif_neg h1]
  have e:oneOrTuple vs= .tuple (vs.map AVal.asD):=by
   unfold oneOrTuple
   split
   ·simp at hl;omega
   ·rfl
  rw [e]
  simp only [VR]
  refine ⟨_,rfl,VRs_of_pointwise _ _ (by simp [hl]) fun j b v hj hv=> ?_⟩
  simp at hj hv
  obtain ⟨b',hb',rfl⟩:=hj
  obtain ⟨s,hs⟩:=h j b' v hb' hv
  exact hs.asD
end
def chkFunc (P:Program)(fn:Func)(af:AFunc):Bool :=
 match fn.body with
 |some c=>namesOK af.names&&decide (af.nparams≤af.names.length)&&(af.names.take af.nparams==List.range af.nparams)&&decide (af.nparams≤fn.ntmps) &&
   chkCode P af.names fn.ntmps c af.body && chkRes P af.names fn.results.toList af.results && fn.name != "runtime.NumGoroutine"
 |none=>false
theorem body_sound {P:Program}{A:Prog}(hidle:∀ f,A.idle f=true→Idle P f){cf:CallF}{n:Nat}(hcf:CallOK P cf A.prom)(hcan:∀ f args H lm r,cf f args H lm=some r→canCall P f=true)
  {f:FuncId} {fn:Func} {af:AFunc} (hf:P.funcs[f]? =some fn) (hchk:chkFunc P fn af=true) {args:List AVal} {H:Heap} {l:Lim} {v:AVal} {H1:Heap} (hrun:callBody A cf n af args H l=some (v,H1))
  {w:World} {G:Gh} {I:Inj} {N:Nat→Prop} {vargs:Array Value} (hpre:CPre l H w G I N args vargs) (hbase:af.promote=false→l.base=H.length) :
  Calls P f vargs w fun e w' =>∃ x G' I' N',e= .returned x∧CPost l H w G I N v H1 x w' G' I' N' :=by
 unfold chkFunc at hchk
 cases hbody:fn.body with
 |none=>rw [hbody] at hchk;cases hchk
 |some c =>
  rw [hbody] at hchk
  simp only [Bool.and_eq_true,decide_eq_true_eq,beq_iff_eq] at hchk
  obtain ⟨⟨⟨⟨⟨⟨hnames,hnp⟩,htake⟩,hnt⟩,hcode⟩,hres⟩,_⟩:=hchk
  unfold callBody at hrun
  split at hrun
  ·rename_i hlen
   have hvl:vargs.size=args.length:=by simpa using VRs.length _ _ hpre.args
   have hstart:Cd P af.names ⟨cf,A.prom,A.mode,A.idle,l,H.length⟩ fn.ntmps ⟨args++List.replicate (af.names.length - args.length) .any,H⟩ { tmps:=vargs++Array.replicate (fn.ntmps - vargs.size) undef,defers:=[] } w G I N:=by
    refine ⟨fun s t ht=> ?_,hpre.hr,hpre.wf,hpre.disc,?_,hpre.nsub,Nat.le_refl _,?_,by simp⟩
    ·simp only
     by_cases hs:s<args.length
     ·have hst:t=s:=by
       have h1:(af.names.take af.nparams)[s]? =some t:=by rw [List.getElem?_take_of_lt (by omega)];exact ht
       rw [htake,List.getElem?_range (by omega)] at h1
       cases h1;rfl
      subst hst
      obtain ⟨x,g1,g2⟩:=VRs.get _ _ hpre.args t args[t] (List.getElem?_eq_getElem hs)
      have e1:(args++List.replicate (af.names.length - args.length) AVal.any).getD t .any=args[t]:=by
       rw [List.getD,List.getElem?_append_left hs,List.getElem?_eq_getElem hs];rfl
      have e2:(vargs++Array.replicate (fn.ntmps - vargs.size) undef).getD t undef=x:=by
       have hv:vargs[t]? =some x:=by simpa using g1
       have hlt:t<vargs.size:=Nat.lt_of_lt_of_eq hs hvl.symm
       simp [Array.getElem?_append_left hlt,hv]
      rw [e1,e2]
      exact g2.place
     ·have e1:(args++List.replicate (af.names.length - args.length) AVal.any).getD s .any= .any:=by
       rw [List.getD,List.getElem?_append_right (by omega)]
       rcases Nat.lt_or_ge (s - args.length) (af.names.length - args.length) with h|h
       ·simp [h]
       ·rw [List.getElem?_eq_none (by simpa using h)];rfl
      rw [e1]
      simp [VR]
    ·simp;omega
    ·simp;omega
   have hE:EnvOK P ⟨cf,A.prom,A.mode,A.idle,l,H.length⟩:=⟨hcf,hcan,hpre.strict,hpre.base⟩
   refine calls_of_wp_defers hf hbody ?_
   have fin:∀ (st:St) (vs:List AVal),resVals st.T st.H af.results=some vs→finish af.promote H.length vs st.H=some (v,H1)→∀ a' w' G' I' N',Cd P af.names ⟨cf,A.prom,A.mode,A.idle,l,H.length⟩ fn.ntmps st a' w' G' I' N' →
     Since ⟨cf,A.prom,A.mode,A.idle,l,H.length⟩ H w G I N st.H w' G' I' N' →Leaves P fn a'.tmps (fun e w' =>∃ x G' I' N',e= .returned x∧CPost l H w G I N v H1 x w' G' I' N') a'.defers .returning w' :=by
    intro st vs hvs hfin a' w' G' I' N' hc hs
    refine leaves_idle hidle a'.defers w' hc.idle ?_
    intro w'' hw''
    have hc2:=hc.same hw''
    have hs2:=hs.same hw''
    obtain ⟨xs,h1,h2,h3⟩:=res_all hc2 fn.results.toList af.results vs hres hvs
    refine ⟨_,results_run h1,(if h:xs.length=1 then xs[0]'(by omega) else .tuple xs.toArray),?_⟩
    obtain ⟨pl,G2,hm,hpl,hv⟩:=retval (w:=w'') (G:=G') (I:=I') (N:=N') h2 h3
    have hext:Ext G w G2 w'' :=hs2.ext.trans hm.ext
    have hpres:Pres l G w G2 w'' :=hs2.pres.trans fun id _=>⟨fun b hb=>⟨hm.obj b id hb,rfl⟩,fun off=>hm.keeps _ (fun e=>hpl id off e.symm)⟩
    have hhr:HR G2 I' N' w'' st.H:=hc2.H.moved hm hpl
    unfold finish at hfin
    split at hfin
    ·cases hfin
     refine ⟨G2,I',N',rfl,hv,hhr,hm.wf hc2.wf,hext,hpres,fun id hid hN=>hs2.inj id hid hN,fun id hN=>hs2.mono id (hpre.nsub id hN) hN,fun id hid hN=>hs2.old id hid hN,hc2.nsub,hs2.hle,hc2.disc⟩
    ·rename_i hprom
     have hprom:af.promote=false:=by simpa using hprom
     have hb:=hbase hprom
     split at hfin
     ·rename_i u hu
      split at hfin
      ·rename_i hbnd
       cases hfin
       obtain ⟨_,hfz⟩:=frz_sound (n:=H.length) hhr 1000 _ _ hu
       obtain ⟨b,e1,e2⟩:=hfz 0 _ .ret _ rfl hv
       simp at e1
       subst e1
       have hlow:=VR.low H.length _ _ _ hbnd e2
       have hlt:∀ (id:Nat) o,(st.H.take H.length)[id]? =some o→id<H.length∧st.H[id]? =some o:=by
        intro id o ho
        have:id<H.length:=by have:=lt_of_getElem? ho;simp at this;omega
        rw [List.getElem?_take_of_lt this] at ho
        exact ⟨this,ho⟩
       refine ⟨freeze G2 H.length,I',fun i=>N' i∧i<H.length,rfl,hlow,fun id o ho=> ?_,freeze_wf (hm.wf hc2.wf),hext.trans freeze_ext,fun id hid=> ?_,fun id hid hN=>hs2.inj id hid hN,fun id hN=>⟨hs2.mono id (hpre.nsub id hN) hN,hpre.nsub id hN⟩,
        fun id hid hN=>hs2.old id hid hN.1,fun id hN=> ?_,fun id o' hid ho=> ?_,fun id o ho=> ?_⟩
       ·obtain ⟨h4,h5⟩:=hlt id o ho
        have hbo:=(hc2.disc id o h5).2 (by simp only;omega)
        simp only at hbo
        exact OR.mono freeze_ext.sub (fun _ _=>rfl) (fun _ h=>h) id o (fun hb=>⟨freeze_obj h4 hb,rfl⟩) (fun _=>freeze_keeps _) (OR.low h4 o (by omega) (hhr id o h5))
       ·obtain ⟨p1,p2⟩:=hpres id hid
        refine ⟨fun b hb=> ?_,fun off b m hb=> ?_⟩
        ·obtain ⟨q1,q2⟩:=p1 b hb
         exact ⟨freeze_obj (hpre.lab b id hb) q1,q2⟩
        ·obtain ⟨q1,q2⟩:=p2 off b m hb
         obtain ⟨q3,_⟩:=freeze_keeps (w:=w'') (n:=H.length) (.cell id off) b m q1
         exact ⟨q3,q2⟩
       ·have:=hc2.nsub id hN.1;simp;omega
       ·obtain ⟨h4,h5⟩:=hlt id o' ho
        exact hs2.hle id o' hid h5
       ·obtain ⟨h4,h5⟩:=hlt id o ho
        exact hc2.disc id o h5
      ·cases hfin
     ·cases hfin
   split at hrun
   ·cases hrun
   ·rename_i x st hne hex
    split at hrun
    ·rename_i vs hvs
     refine exec_sound hE hnames n _ af.body c (Nat.lt_succ_self _) hcode _ x st _ w G I N hex hstart _ ?_
     intro a' w' G' I' N' hc hs
     have:=fin st vs hvs hrun a' w' G' I' N' hc hs
     cases x with
     |normal=>exact this
     |ret=>exact this
     |exit id=>exact absurd rfl (hne id)
    ·cases hrun
   ·cases hrun
  ·cases hrun
def PrimOK (P:Program)(prom:FuncId→Bool)(f:FuncId)(p:List AVal→Heap→Lim→Option (AVal×Heap)):Prop :=
 canCall P f=true∧∀ args H l v H1,p args H l=some (v,H1)→∀ w G I N vargs,CPre l H w G I N args vargs→(prom f=false→l.base=H.length) →
  Calls P f vargs w fun e w' =>∃ x G' I' N',e= .returned x∧CPost l H w G I N v H1 x w' G' I' N'
structure ProgOK (P:Program)(A:Prog):Prop where
 idle:∀ f,A.idle f=true→Idle P f
 prim:∀ f p,A.prim f=some p→PrimOK P A.prom f p
 fn:∀ f af,A.prim f=none→A.fn f=some af→∃ fn,P.funcs[f]? =some fn∧chkFunc P fn af=true
theorem canCall_of {P:Program}{f:FuncId}{fn:Func}{af:AFunc}(hf:P.funcs[f]? =some fn)(h:chkFunc P fn af=true):canCall P f=true:=by
 unfold chkFunc at h
 unfold canCall
 rw [hf]
 cases hb:fn.body with
 |none=>rw [hb] at h;cases h
 |some c =>
  rw [hb] at h
  simp only [Bool.and_eq_true] at h
  simp only [hb,Option.isSome_some,Bool.and_true]
  exact h.2
theorem call_sound {P:Program}{A:Prog}(h:ProgOK P A):∀ n,CallOK P (call A n) A.prom∧∀ f args H lm r,call A n f args H lm=some r→canCall P f=true
 |0=>⟨fun f args H l v H1 hc=>by simp [call] at hc,fun f args H lm r hc=>by simp [call] at hc⟩
 |n+1=>by
  obtain ⟨ih1,ih2⟩:=call_sound h n
  refine ⟨fun f args H l v H1 hc w G I N vargs hpre hb=> ?_,fun f args H lm r hc=> ?_⟩
  ·simp only [call] at hc
   split at hc
   ·rename_i p hp
    exact (h.prim f p hp).2 args H l v H1 hc w G I N vargs hpre hb
   ·rename_i hp
    split at hc
    ·rename_i af haf
     obtain ⟨fn,h1,h2⟩:=h.fn f af hp haf
     exact body_sound h.idle ih1 ih2 h1 h2 hc hpre (fun hpr=>hb (by simp [Prog.prom,haf,hpr]))
    ·cases hc
  ·simp only [call] at hc
   split at hc
   ·rename_i p hp
    exact (h.prim f p hp).1
   ·rename_i hp
    split at hc
    ·rename_i af haf
     obtain ⟨fn,h1,h2⟩:=h.fn f af hp haf
     exact canCall_of h1 h2
    ·cases hc
end Go.Abs
namespace Go.Abs
def isRecover (o:Oper):Bool:=match o.op with
 | .call ⟨.builtin .recover,args,_⟩=>args.isEmpty&&o.guard.isNone
 |_=>false
def isTold (P:Program)(d:Option Tmp)(o:Oper):Bool:=match o.op with
 | .binOp .neq t (.tmp x) (.const .nilIface) _=>d==some x&&o.guard.isNone&&(match P.underlying t with
  |some (.interface _)=>true
  |_=>false)
 |_=>false
def chkIdle (P:Program)(fn:Func):Bool :=
 fn.name != "runtime.NumGoroutine" && fn.results.isEmpty && (match fn.body with
 |some (.region _ ops false)=>(match ops.toList with
  |[o]=>isRecover o
  |_=>false)
 |some (.seq (.region _ ops false) (.cond (.tmp c) _ .skip))=>(match ops.toList with
  |[o1,o2]=>isRecover o1&&isTold P o1.dst o2&&o2.dst==some c&&(match o1.dst with
   |some d=>decide (d<fn.ntmps)&&decide (c<fn.ntmps)
   |none=>false)
  |_=>false)
 |_=>false)
theorem recover_run {P:Program}{o:Oper}(h:isRecover o=true)(a:Act)(w:World):(execOp a.eval o).run P w= .ok .recover w:=by
 unfold isRecover at h
 split at h
 ·rename_i args argTypes hop
  obtain ⟨dst,oop,ty,pos,after,guard⟩:=o
  simp only at hop
  subst hop
  simp [execOp,resolve,invoke,builtin]
 ·cases h
theorem recover_wanted {o:Oper}(h:isRecover o=true)(y:Nat→Option Bool):Region.wanted o y=true:=by
 unfold isRecover at h
 split at h
 ·simp only [Bool.and_eq_true] at h
  have:o.guard=none:=by simpa using h.2
  simp [Region.wanted,this]
 ·cases h
theorem told_run {P:Program}{o:Oper}{d:Option Tmp}(h:isTold P d o=true)(a:Act)(w:World)(ha:∀ x,d=some x→a.tmps.getD x undef= .nilIface):(execOp a.eval o).run P w= .ok (.value (.bool false)) w:=by
 unfold isTold at h
 split at h
 ·rename_i t x yt hop
  simp only [Bool.and_eq_true,beq_iff_eq] at h
  obtain ⟨⟨h1,h2⟩,h3⟩:=h
  obtain ⟨dst,oop,ty,pos,after,guard⟩:=o
  simp only at hop
  subst hop
  have hx:a.eval (.tmp x)= .nilIface:=by simp only [Act.eval];exact ha x h1
  split at h3
  ·rename_i ms hu
   have h1:(execOp a.eval (⟨dst,.binOp .neq t (.tmp x) (.const .nilIface) yt,ty,pos,after,guard⟩:Oper)).run P w= .ok (.value (.bool false)) w:=by
    simp only [execOp,hx]
    have hc:a.eval (.const .nilIface)= .nilIface:=rfl
    rw [hc]
    simp only [eqGuard,binOp]
    simp [equal_nil_nil hu]
   exact h1
  ·cases h3
 ·cases h
theorem idle_sound {P:Program}{f:FuncId}{fn:Func}(hf:P.funcs[f]? =some fn)(h:chkIdle P fn=true):Idle P f:=by
 unfold chkIdle at h
 simp only [Bool.and_eq_true] at h
 obtain ⟨⟨hname,hres⟩,h⟩:=h
 have hres' :fn.results= #[]:=by simpa using hres
 have hrun:∀ tmps w,(results fn tmps).run P w= .ok (.tuple #[]) w:=by
  intro tmps w
  simp [results,hres']
 have hmode:∀ (c₀:Frame) (cs:List Frame),c₀.mode= .returning→recoverD (c₀::cs)=none:=by
  intro c₀ cs hm
  simp [recoverD,hm]
 split at h
 ·rename_i id ops hb
  refine ⟨by simp only [canCall,hf,hb];simpa using hname,fun args w=> ?_⟩
  refine callsD_of_wpS hf hb ?_
  intro c₀ cs hm
  split at h
  ·rename_i o ho
   have hops:ops= #[o]:=by apply Array.toList_inj.1;simpa using ho
   subst hops
   refine wpS_region ?_
   have hget:(#[o]:Array Oper)[0]? =some o:=rfl
   show wpOpsS P #[o] _ [0] _ _ _
   simp only [wpOpsS,hget,recover_wanted h,if_true,recover_run h,hmode c₀ cs hm]
   refine ⟨by rw [defers_put],.returning,?_,.tuple #[],hrun _ _,⟨_,rfl⟩,rfl,SameW.refl _⟩
   cases c₀;simp only at hm;subst hm;rfl
  ·cases h
 ·rename_i id ops c thn hb
  refine ⟨by simp only [canCall,hf,hb];simpa using hname,fun args w=> ?_⟩
  refine callsD_of_wpS hf hb ?_
  intro c₀ cs hm
  split at h
  ·rename_i o1 o2 ho
   have hops:ops= #[o1,o2]:=by apply Array.toList_inj.1;simpa using ho
   subst hops
   simp only [Bool.and_eq_true,beq_iff_eq] at h
   obtain ⟨⟨⟨h1,h2⟩,h3⟩,h4⟩:=h
   cases hd:o1.dst with
   |none=>rw [hd] at h4;cases h4
   |some d =>
    rw [hd] at h4
    simp only [Bool.and_eq_true,decide_eq_true_eq] at h4
    refine wpS_seq (wpS_region ?_)
    have hg0:(#[o1,o2]:Array Oper)[0]? =some o1:=rfl
    have hg1:(#[o1,o2]:Array Oper)[1]? =some o2:=rfl
    show wpOpsS P #[o1,o2] _ [0,1] _ _ _
    simp only [wpOpsS,hg0,hg1,recover_wanted h1,if_true,recover_run h1,hmode c₀ cs hm]
    have hw2:∀ y,Region.wanted o2 y=true:=by
     intro y
     unfold isTold at h2
     split at h2
     ·simp only [Bool.and_eq_true] at h2
      have:o2.guard=none:=by simpa using h2.1.2
      simp [Region.wanted,this]
     ·cases h2
    have hlt:d<(args++Array.replicate (fn.ntmps - args.size) undef).size:=Nat.lt_of_lt_of_le h4.1 (by simp;omega)
    have hlt2:c<(args++Array.replicate (fn.ntmps - args.size) undef).size:=Nat.lt_of_lt_of_le h4.2 (by simp;omega)
    have hr2:=fun a hh=>told_run (P:=P) h2 a w hh
    simp only [hw2,if_true]
    rw [hr2 _ (by
     intro x hx
     rw [hd] at hx;cases hx
     rw [hd]
     exact getD_put_same hlt)]
    simp only [Oper.upon,Exit.thenS]
    refine wpS_cond (t:=false) ?_ ?_
    ·rw [h3]
     simp only [Act.eval]
     exact getD_put_same (by rw [size_put];exact hlt2)
    ·refine wpS_of_wp (wp_skip ?_)
     refine ⟨by rw [defers_put,defers_put],.returning,?_,.tuple #[],hrun _ _,⟨_,rfl⟩,rfl,SameW.refl _⟩
     cases c₀;simp only at hm;subst hm;rfl
  ·cases h
 ·cases h
end Go.Abs
namespace Go.Abs
mutual
def eqD:Data→Data→Bool
 | .bool a,.bool b=>a==b
 | .int k a,.int k' b=>k==k' &&a==b
 | .str a,.str b=>a==b
 | .slice n xs,.slice m ys=>n==m&&eqDs xs ys
 | .nilptr,.nilptr=>true
 | .nilfunc,.nilfunc=>true
 | .nilmap,.nilmap=>true
 | .nilIface,.nilIface=>true
 |_,_=>false
def eqDs:List Data→List Data→Bool
 |[],[]=>true
 |x::xs,y::ys=>eqD x y&&eqDs xs ys
 |_,_=>false
end
mutual
theorem eqD_sound:∀ (a b:Data),eqD a b=true→a=b
 | .slice n xs,b,h=>by
  cases b<;>simp only [eqD,Bool.and_eq_true,beq_iff_eq,Bool.false_eq_true] at h
  rw [h.1,eqDs_sound _ _ h.2]
 | .bool _,b,h| .int _ _,b,h| .str _,b,h| .nilptr,b,h| .nilfunc,b,h| .nilmap,b,h| .nilIface,b,h=>by cases b<;>simp_all [eqD]
theorem eqDs_sound:∀ (a b:List Data),eqDs a b=true→a=b
 |[],[],_=>rfl
 |x::xs,y::ys,h=>by
  simp only [eqDs,Bool.and_eq_true] at h
  rw [eqD_sound x y h.1,eqDs_sound xs ys h.2]
 |[],_::_,h=>by simp [eqDs] at h
 |_::_,[],h=>by simp [eqDs] at h
end
def eqC:AVal→AVal→Bool
 | .d x,.d y=>eqD x y
 |_,_=>false
def eqCs:List AVal→List AVal→Bool
 |[],[]=>true
 |x::xs,y::ys=>eqC x y&&eqCs xs ys
 |_,_=>false
def eqA:AVal→AVal→Bool
 | .agg l,.agg m=>eqCs l m
 |a,b=>eqC a b
def eqAs:List AVal→List AVal→Bool
 |[],[]=>true
 |x::xs,y::ys=>eqA x y&&eqAs xs ys
 |_,_=>false
theorem eqC_sound {a b:AVal}(h:eqC a b=true):a=b:=by
 unfold eqC at h
 split at h
 ·rw [eqD_sound _ _ h]
 ·cases h
theorem eqCs_sound:∀ (a b:List AVal),eqCs a b=true→a=b
 |[],[],_=>rfl
 |x::xs,y::ys,h=>by
  simp only [eqCs,Bool.and_eq_true] at h
  rw [eqC_sound h.1,eqCs_sound xs ys h.2]
 |[],_::_,h=>by simp [eqCs] at h
 |_::_,[],h=>by simp [eqCs] at h
theorem eqA_sound {a b:AVal}(h:eqA a b=true):a=b:=by
 unfold eqA at h
 split at h
 ·rw [eqCs_sound _ _ h]
 ·exact eqC_sound h
theorem eqAs_sound:∀ (a b:List AVal),eqAs a b=true→a=b
 |[],[],_=>rfl
 |x::xs,y::ys,h=>by
  simp only [eqAs,Bool.and_eq_true] at h
  rw [eqA_sound h.1,eqAs_sound xs ys h.2]
 |[],_::_,h=>by simp [eqAs] at h
 |_::_,[],h=>by simp [eqAs] at h
structure Ent where
 f:FuncId
 args:List AVal
 res:AVal
def lim0:Lim:=⟨0,0,0,0⟩
def Lim.isZero (l:Lim):Bool:=l.flo==0&&l.fhi==0&&l.base==0&&l.strict==0
theorem isZero_sound {l:Lim}(h:l.isZero=true):l=lim0:=by
 obtain ⟨a,b,c,d⟩:=l
 simp [Lim.isZero] at h
 obtain ⟨⟨⟨rfl,rfl⟩,rfl⟩,rfl⟩:=h
 rfl
def look (f:FuncId)(args:List AVal):List Ent→Option AVal
 |[]=>none
 |e::es=>if e.f==f&&eqAs e.args args then some e.res else look f args es
theorem look_sound {f:FuncId}{args:List AVal}{v:AVal}:∀ (es:List Ent),look f args es=some v→∃ e,e ∈ es∧e.f=f∧e.args=args∧e.res=v
 |[],h=>by simp [look] at h
 |e::es,h=>by
  unfold look at h
  split at h
  ·rename_i hc
   simp only [Bool.and_eq_true,beq_iff_eq] at hc
   cases h
   exact ⟨e,by simp,hc.1,eqAs_sound _ _ hc.2,rfl⟩
  ·obtain ⟨e',h1,h2⟩:=look_sound es h
   exact ⟨e',by simp [h1],h2⟩
def memo (A:Prog)(es:List Ent):Prog :=
 ⟨A.fn,A.idle,A.mode,fun f=>if es.any (fun e=>e.f==f) then some (fun args H l=>if H.isEmpty&&l.isZero then (match look f args es with
  |some v=>some (v,[])
  |none=>none) else none) else A.prim f⟩
theorem memo_ok {P:Program}{A:Prog}(h:ProgOK P A){es:List Ent}(hes:∀ e,e ∈ es→∃ n,call A n e.f e.args [] lim0=some (e.res,[])):ProgOK P (memo A es):=by
 refine ⟨h.idle,fun f p hp=> ?_,fun f af hp haf=> ?_⟩
 ·simp only [memo] at hp
  split at hp
  ·rename_i hany
   cases hp
   refine ⟨?_,?_⟩
   ·rw [List.any_eq_true] at hany
    obtain ⟨e,he,hf⟩:=hany
    obtain ⟨n,hn⟩:=hes e he
    have:=(call_sound h n).2 _ _ _ _ _ hn
    simp only [beq_iff_eq] at hf
    rw [← hf];exact this
   ·intro args H l v H1 hrun w G I N vargs hpre hb
    simp only at hrun
    split at hrun
    ·rename_i hc
     simp only [Bool.and_eq_true] at hc
     have hH:H=[]:=by simpa using hc.1
     have hl:=isZero_sound hc.2
     subst hH hl
     split at hrun
     ·rename_i v' hlook
      cases hrun
      obtain ⟨e,he,h1,h2,h3⟩:=look_sound es hlook
      obtain ⟨n,hn⟩:=hes e he
      rw [h1,h2,h3] at hn
      exact (call_sound h n).1 f args [] lim0 v [] hn w G I N vargs hpre hb
     ·cases hrun
    ·cases hrun
  ·exact h.prim f p hp
 ·simp only [memo] at hp haf
  split at hp
  ·cases hp
  ·exact h.fn f af hp haf
end Go.Abs
namespace Go.Abs
structure Kept (w w' :World):Prop where
 os:w'.os=w.os
 output:w'.output=w.output
 size:w.heap.size≤w'.heap.size
 old:∀ b:Nat,b<w.heap.size→w'.heap[b]? =w.heap[b]?
theorem Kept.but {w w' :World}(h:Kept w w')(may:MemPlace→Prop):w.keptBut w' may:=by
 refine ⟨h.os,h.output,fun i hi=> ?_⟩
 rw [h.old i hi]
 split
 ·rename_i heq1 heq2
  rw [heq1] at heq2
  cases heq2
  exact ⟨rfl,rfl,rfl,fun _ _=>rfl⟩
 ·rename_i heq1 heq2
  rw [heq1] at heq2
  cases heq2
  exact Or.inr ⟨rfl,rfl⟩
 ·rfl
theorem Kept.frozen {w w' :World}(h:Kept w w'){a:Addr}(ha:a.block<w.heap.size):w'.frozen? a=w.frozen? a:=by
 simp only [World.frozen?,h.old a.block ha]
def G0 (w:World):Gh:=fun b=>if b<w.heap.size then .imm else .free
theorem law_calls {P:Program}{A:Prog}(h:ProgOK P A){n:Nat}{f:FuncId}{args:List AVal}{vargs:Array Value}{w:World}(hc:call A n f args [] lim0=some (.d (.bool true),[]))
  (hargs:VRs (G0 w) (fun _=>(0,0)) (fun _=>False) w args vargs.toList):Calls P f vargs w fun e w' =>e= .returned (.bool true)∧Kept w w' :=by
 have hpre:CPre lim0 [] w (G0 w) (fun _=>(0,0)) (fun _=>False) args vargs:=by
  refine ⟨hargs,?_,?_,?_,?_,Nat.le_refl _,Nat.le_refl _,?_⟩
  ·intro id o ho;simp at ho
  ·intro b hb;simp only [G0];rw [if_neg (by omega)]
  ·intro id hid;exact hid.elim
  ·intro id o ho;simp at ho
  ·intro b id hb
   simp only [G0] at hb
   split at hb<;>cases hb
 refine Calls.mono ((call_sound h n).1 f args [] lim0 _ _ hc w _ _ _ vargs hpre (fun _=>rfl)) ?_
 rintro e w' ⟨x,G',I',N',rfl,hp⟩
 have hx:=hp.val
 simp only [VR,DR] at hx
 subst hx
 refine ⟨rfl,hp.ext.os,hp.ext.output,hp.ext.size,fun b hb=> ?_⟩
 refine (hp.ext.still b (Or.inl ?_)).2
 simp only [G0]
 rw [if_pos hb]
theorem call_fn {A:Prog}{n:Nat}{f:FuncId}{af:AFunc}{args:List AVal}{H:Heap}{l:Lim}(hp:A.prim f=none)(hf:A.fn f=some af):call A (n+1) f args H l=callBody A (call A n) n af args H l:=by
 simp only [call,hp,hf]
def finRun (af:AFunc)(n:Nat)(o:Option (AExit×St)):Option (AVal×Heap):=match o with
 |some (.exit _,_)=>none
 |some (_,st)=>(match resVals st.T st.H af.results with
  |some vs=>finish af.promote n vs st.H
  |none=>none)
 |none=>none
theorem callBody_fin {A:Prog}{cf:CallF}{n:Nat}{af:AFunc}{args:List AVal}{H:Heap}{l:Lim}(h:args.length=af.nparams) :
  callBody A cf n af args H l=finRun af H.length (exec ⟨cf,A.prom,A.mode,A.idle,l,H.length⟩ n af.body ⟨args++List.replicate (af.names.length - args.length) .any,H⟩):=by
 unfold callBody finRun
 rw [if_pos h]
 rfl
section
variable {H:Type} {enc:TypeId×Value→H} {P:Program}
open Go.ChangeShapes Go.WideShapes
theorem post_kept {f:Func}{s:ChangeSpec}{apart fresh handsOn again:Bool}{W W' :World}{args:Array Value}{v:Value}{ds gs:List (DataW H)}{before pa pv:List MemPlace}
  (hW:DataW.Whole enc P f.params.toList s.vars apart W args.toList ds gs before) (hK:Kept W W')
  (hres:∀ (b:Nat) (sp:Nat→Bool) (hd:Bool),DataW.TrodAll enc P W' b sp hd f.resultTypes.toList (v.resultList f.resultTypes.size) (s.fn H (ds++gs)).results [])
  (hargs:∀ sp:Nat→Bool,(∀ p ∈ before,sp p.block=true)→DataW.TrodAll enc P W' 0 sp true f.params.toList args.toList (s.fn H (ds++gs)).args pa)
  (hvars:∀ sp:Nat→Bool,(∀ p ∈ before,sp p.block=true)→DataW.TrodVars enc P W' sp s.vars (s.fn H (ds++gs)).vars pv)
  (hps:before=pa++pv)
  (hok:∀ (j:Nat) (t:TypeId) (r:Value),f.resultTypes[j]? =some t→(v.resultList f.resultTypes.size)[j]? =some r→Value.okWide P W' .any 0 t r) :
  s.post enc P f apart fresh handsOn again W args v W' :=by
 have hlt:=hW.lt
 have hin:∀ p,p ∈ pa++pv→p ∈ before:=fun p hp=>by rw [hps];exact hp
 refine ⟨ds,gs,before,[],pa,pv,hW,hres _ _ _,hargs _ (fun p hp=>by simpa using hlt p hp),hvars _ (fun p hp=>by simpa using hlt p hp),World.keptBut_mono (fun p hp=>⟨hp,?_⟩) (hK.but _),fun _=> ?_⟩
 ·rw [hps,List.mem_append] at hp
  exact Or.inr hp
 ·obtain ⟨_,_,_,_,_,hz,hn⟩:=hW
  refine ⟨hok,_,_,([]++pa)++pv,⟨[]++pa,pv,trodAll_append (hargs _ (fun _ _=>rfl)) (hres _ _ _),hvars _ (fun _ _=>rfl),rfl,fun b off hp=> ?_,fun ha=> ?_⟩,fun p hp _=> ?_⟩
  ·have hb:=hin _ (by simpa using hp)
   rw [hK.frozen (hlt _ hb)]
   exact hz b off hb
  ·have:=hn ha
   rw [hps] at this
   simpa using this
  ·exact hin p (by simpa using hp)
end
end Go.Abs

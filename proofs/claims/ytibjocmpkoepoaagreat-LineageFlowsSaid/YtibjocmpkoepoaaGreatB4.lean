import Derived.Test.YtibjocmpkoepoaaGreatB2
import Derived.Defers
import Derived.Recover
import Derived.ChangeSame
import Derived.ProofKit
import Derived.OpenShut
import Derived.SizedLaws
set_option linter.all false
open Bool renaming false_eq_true → j4
open Int renaming toNat_natCast → P0
open List renaming all_eq_true → Q2, getElem?_append_left → A8, getElem?_append_right → u9, getElem?_eq_getElem → n9, map_cons → L8, mem_cons → B8, mem_map → L1, replicate → c9
open Nat renaming add_assoc → M6, le_of_ble_eq_true → j5, le_refl → n5, le_trans → F9, lt_or_ge → A5
open Option renaming map_some → M7
namespace Go.A2
variable [C9]
def G7.Cn:G7->Exit
 | .normal=> .normal
 | .exit id=> .exit id
 | .ret=> .ret
def AH (P:Program)(names:List Tmp)(ops:Array Oper)(n:Nat)(c' :Operand)(c:y5):Bool:=Cx.ck ⟨P,names,ops⟩ (fun j=>decide (j<n)) c' c
def Z1 (P:Program)(names:List Tmp)(nt:Nat):Code->q6->Bool
 |c,.seq (.fz _) k=>Z1 P names nt c k
 | .skip,.skip=>true
 | .region _ ops d',.region l5 d=>d==d' &&eC P names nt ops l5 d
 | .seq (.region _ ops d') (.seq (.cond c' x' y') z'),.seq (.test l5 d c x y) k =>
  d==d' &&eC P names nt ops l5 d&&AH P names ops l5.length c' c&&Z1 P names nt x' x&&Z1 P names nt y' y&&Z1 P names nt z' k
 | .seq (.region _ ops d') (.cond c' x' y'),.test l5 d c x y =>
  d==d' &&eC P names nt ops l5 d&&AH P names ops l5.length c' c&&Z1 P names nt x' x&&Z1 P names nt y' y
 | .seq (.region i ops d') (.seq (.cond c' x' y') z'),.seq (.seq (.region l5 d) (.cond c x y)) k =>
  Z1 P names nt (.region i ops d') (.region l5 d)&&Z1 P names nt (.cond c' x' y') (.cond c x y)&&Z1 P names nt z' k
 | .seq x' y',.seq x y=>Z1 P names nt x' x&&Z1 P names nt y' y
 | .cond c' x' y',.cond c x y=>AH P names #[] 0 c' c&&Z1 P names nt x' x&&Z1 P names nt y' y
 | .block id' b',.block id b=>id' ==id&&Z1 P names nt b' b
 | .loop b',.loop _ b=>Z1 P names nt b' b
 | .exit id',.exit id=>id' ==id
 | .ret,.ret=>true
 |_,.bad=>true
 |_,_=>false
theorem qW:∀ (m:List Bool) (T:List c8) (s:Nat),(X1 m T).getD s .any=T.getD s .any\/(X1 m T).getD s .any= .any
 |[],[],s=>by simp [X1]
 |[],v::vs,0=>by simp [X1]
 |[],v::vs,s+1=>by simpa [X1] using qW [] vs s
 |b::m,[],s=>by simp_all [X1]
 |true::m,v::vs,0=>by simp [X1]
 |false::m,v::vs,0=>by simp [X1]
 |true::m,v::vs,s+1=>by simpa [X1] using qW m vs s
 |false::m,v::vs,s+1=>by simpa [X1] using qW m vs s
theorem mK:∀ (m:List Bool) (T:List c8),(X1 m T).length=T.length
 |[],[]=>by simp [X1]
 |[],v::vs=>by simpa [X1] using mK [] vs
 |b::m,[]=>by simp_all [X1]
 |true::m,v::vs=>by simpa [X1] using mK m vs
 |false::m,v::vs=>by simpa [X1] using mK m vs
def least {p:Nat->Prop}(h:∃ m,p m):∃ m,p m/\∀ k,p k->m<=k:=by
 obtain ⟨m,hm⟩:=h
 induction m using Nat.strongRecOn with
 |_ m ih =>
  grind
def aC3 {α β:Type}(J:Nat->α->β->Prop):∃ μ:α->β->Nat,∀ a b,(∃ m,J m a b)->J (μ a b) a b/\∀ k,J k a b->μ a b<=k:=by
 have:∀ a b,∃ m,(∃ m,J m a b)->J m a b/\∀ k,J k a b->m<=k:=by
  intro a b
  by_cases h:∃ m,J m a b
  all_goals simp_all [least,absurd]
 exact ⟨fun a b=>Classical.choose (this a b),fun a b=>Classical.choose_spec (this a b)⟩
section
variable {P:Program} {names:List Tmp} {E:Env} {nt:Nat}
def IX {st:St}{a:Act}{w:World}{G:Gh}{I:S7}{N:Nat->Prop}(h:Cd P names E nt st a w G I N)(mask:List Bool){n:Nat}(hn:E.entry<=n) :
  ∃ N',Cd P names E nt (clean mask E.lim.strict n st) a w G I N' /\aM E st.H w G I N (clean mask E.lim.strict n st).H w G I N' :=by
 have hT:∀ (s:Nat) t,names[s]? =some t->VR G I N w (.slot s) ((X1 mask st.T).getD s .any) (a.tmps.getD t undef):=by
  intro s t ht
  rcases qW mask st.T s with e|e
  .rw [e];exact h.T s t ht
  simp_all [VR]
 unfold clean;split
 .rename_i hc
  refine ⟨fun i=>N i/\i<n,⟨fun s t ht=>VR.low n _ _ _ ?_ (hT s t ht),fun id o ho=> ?_,h.wf,fun id o ho=> ?_,?_,fun id hid=> ?_,?_,h.size,h.idle⟩,?_⟩
  .cases hg:(X1 mask st.T)[s]? with
   |none=>simp [hg,c8.O5]
   |some v =>
    have:=tW _ _ _ hg
    grind
  .have hlt:id<n:=by grind
   rw [List.getElem?_take_of_lt hlt] at ho;exact OR.low hlt o (xw h.W4 hc.2 hlt ho) (h.H id o ho)
  .have hlt:id<n:=by grind
   rw [List.getElem?_take_of_lt hlt] at ho;exact h.W4 id o ho
  .simp [mK];exact h.W5
  .have:=h.bI id hid.1
   simp;omega
  .have:=h.GF
   simp;omega
  .refine ⟨Ext.refl _ _,mb.refl _ _ _,fun _ _ _=>rfl,fun id hid hN=>⟨hN,by omega⟩,fun id _ hN=>hN.1,fun id o' _ ho=> ?_⟩
   grind
 .exact ⟨N,⟨hT,h.H,h.wf,h.W4,by simp [mK];exact h.W5,h.bI,h.GF,h.size,h.idle⟩,aM.refl _ _ _ _ _ _⟩
def Sound (P:Program)(names:List Tmp)(nt:Nat)(E:Env)(C:Code)(run:St->Option (G7×St)):Prop :=
 ∀ st x st' a w G I N,run st=some (x,st')->Cd P names E nt st a w G I N->∀ Q:Exit->Act->World->Prop,
  (∀ a' w' G' I' N',Cd P names E nt st' a' w' G' I' N' ->Dp E st.H w G I N st'.H w' G' I' N' ->Q x.Cn a' w')->C.wp P Q a w
def Cm {X:Cx}{l5:List o9}{S:Nat->Prop}{r:H6}{a:Act}{w:World}{G:Gh}{I:S7}{N:Nat->Prop}{D:Nat->Bool}(h:Rg X l5 E nt S r a w G I N)(hD:∀ j,D j=true->S j){c' :Operand}{c:y5}(hc:X.ck D c' c=true){b:Bool}
  (hv:J2 r.T r.L c= .d (.bool b)):a.eval c' = .bool b:=by
 have:=h.ri.T1 hD c' c hc;simp_all [VR,DR]
def AK {st:St}{a:Act}{w:World}{G:Gh}{I:S7}{N:Nat->Prop}(h:Cd P names E nt st a w G I N){c' :Operand}{c:y5}(hc:AH P names #[] 0 c' c=true){b:Bool}(hv:J2 st.T [] c= .d (.bool b)):a.eval c' = .bool b:=by
 have hR:Rg ⟨P,names,#[]⟩ [] E nt (fun _=>False) ⟨st.T,st.H,[],[]⟩ a w G I N:=h.start _ rfl (fun _ h=>h) [] (by simp) (by simp) rfl [];exact Cm hR (D:=fun j=>decide (j<0)) (fun j hj=>by simp at hj) hc hv
def andThen (rx ry:St->Option (G7×St)):St->Option (G7×St):=fun st=>match rx st with
 |some (.normal,st')=>ry st'
 |r=>r
def BX {x y:Code}{rx ry:St->Option (G7×St)}(hx:Sound P names nt E x rx)(hy:Sound P names nt E y ry)
  {st:St} {e:G7} {st' :St} {a:Act} {w:World} {G:Gh} {I:S7} {N:Nat->Prop} (hrun:andThen rx ry st=some (e,st')) (h:Cd P names E nt st a w G I N) (Q:Exit->Act->World->Prop)
  (hQ:∀ a' w' G' I' N',Cd P names E nt st' a' w' G' I' N' ->Dp E st.H w G I N st'.H w' G' I' N' ->Q e.Cn a' w'):x.wp P (Exit.then (y.wp P Q) Q) a w:=by
 unfold andThen at hrun;split at hrun
 .rename_i st1 h1
  refine hx st .normal st1 a w G I N h1 h _ ?_;intro a1 w1 G1 I1 N1 hc hs;simp only [G7.Cn,Exit.then];refine hy st1 e st' a1 w1 G1 I1 N1 hrun hc Q ?_;intro a2 w2 G2 I2 N2 oC hs2;exact hQ a2 w2 G2 I2 N2 oC (hs.trans hs2)
 .rename_i hne
  refine hx st e st' a w G I N hrun h _ ?_;intro a1 w1 G1 I1 N1 hc hs;have:=hQ a1 w1 G1 I1 N1 hc hs;cases e with
  |normal=>exact absurd hrun (hne st')
  |exit id=>exact this
  |ret=>exact this
def xx {x y:Code}{rx ry:St->Option (G7×St)}(hx:Sound P names nt E x rx)(hy:Sound P names nt E y ry) :
  Sound P names nt E (.seq x y) (andThen rx ry) :=
 fun _ _ _ _ _ _ _ _ hrun h Q hQ=>wp_seq (BX hx hy hrun h Q hQ)
def Ds (rx ry rz:St->Option (G7×St)):andThen (andThen rx ry) rz=andThen rx (andThen ry rz):=by
 grind [andThen]
def BW (hE:OH P E)(hn:kG names=true){ops:Array Oper}{l5:List o9}{d:Bool}{c:y5}{c' :Operand}(bx9:eC P names nt ops l5 d=true)(hck:AH P names ops l5.length c' c=true)
  {st:St} {a:Act} {w:World} {G:Gh} {I:S7} {N:Nat->Prop} (h:Cd P names E nt st a w G I N) {r:H6} (hr:S2 E l5 d st.T st.H=some r) {b:Bool} (hv:J2 r.T r.L c= .d (.bool b)) (id:Nat) (Q:Exit->Act->World->Prop)
  (hQ:∀ a' w' G' I' N',Cd P names E nt ⟨r.T,r.H⟩ a' w' G' I' N' ->Dp E st.H w G I N r.H w' G' I' N' ->a'.eval c' = .bool b->Q .normal a' w'):(Code.region id ops d).wp P Q a w:=by
 refine uI hE hn bx9 h hr id Q ?_;intro a' w' G' I' N' hR hs;exact hQ a' w' G' I' N' (Cd.done rfl hR) hs.trn (Cm hR (D:=fun j=>decide (j<l5.length)) (fun j hj=>by simpa using hj) hck hv)
def Ol {c:Code}{body:St->Option (G7×St)}(hb:Sound P names nt E c body)(mask:List Bool)(fuel:Nat) :
  Sound P names nt E (.loop c) (fun st=>iE body mask E.lim.strict st.H.length fuel st):=by
 intro st e st' a w G I N hrun h Q hQ;simp only at hrun;generalize hn:st.H.length=n at hrun;have hen:E.entry<=n:=by rw [<- hn];exact h.GF
 let J:Nat->Act->World->Prop:=fun m a' w' =>∃ st1 G1 I1 N1,iE body mask E.lim.strict n m st1=some (e,st')/\Cd P names E nt st1 a' w' G1 I1 N1/\Dp E st.H w G I N st1.H w' G1 I1 N1
 obtain ⟨μ,aT1⟩:=aC3 J;refine wp_loop (I:=fun a' w' =>∃ m,J m a' w') (μ:=μ) ⟨fuel,st,G,I,N,hrun,h,Dp.refl _ _ _ _ _ _⟩ ?_;intro a1 w1 hJ;obtain ⟨hm,hmin⟩:=aT1 a1 w1 hJ;generalize hμ:μ a1 w1=m at hm;obtain ⟨st1,G1,I1,N1,Et,hc1,hs1⟩:=hm;cases m with
 |zero=>simp [iE] at Et
 |succ m =>
  simp only [iE] at Et;obtain ⟨N2,oC,hs2⟩:=IX hc1 mask hen;split at Et
  .rename_i st2 ZG
   refine hb _ .normal st2 a1 w1 G1 I1 N2 ZG oC _ ?_;intro a3 w3 G3 I3 N3 hc3 hs3;simp only [G7.Cn,Exit.then];have hJ3:J m a3 w3:=⟨st2,G3,I3,N3,Et,hc3,(hs1.trans hs2.trn).trans hs3⟩;refine ⟨⟨m,hJ3⟩,?_⟩;exact Nat.lt_succ_of_le ((aT1 a3 w3 ⟨m,hJ3⟩).2 m hJ3)
  .rename_i hne
   refine hb _ e st' a1 w1 G1 I1 N2 Et oC _ ?_;intro a3 w3 G3 I3 N3 hc3 hs3;have:=hQ a3 w3 G3 I3 N3 hc3 ((hs1.trans hs2.trn).trans hs3);cases e with
   |normal=>exact absurd Et (hne st')
   |exit id=>exact this
   |ret=>exact this
def AW {lim:Nat}(x y:q6):exec E lim (.seq x y)=andThen (exec E lim x) (exec E lim y):=by
 rfl
def Nr (hE:OH P E)(hn:kG names=true)(lim:Nat):∀ (n:Nat) (c:q6) (C:Code),SizeOf.sizeOf c<n->Z1 P names nt C c=true->Sound P names nt E C (exec E lim c):=by
 intro n
 induction n with
 |zero=>intro c C h;omega
 |succ n ih =>
 intro c C hsz hc;unfold Z1 at hc;split at hc
 all_goals (try (cases hc;done))
 ·
  rename_i s k;simp only [q6.seq.sizeOf_spec] at hsz;have ik:=ih k C (by omega) hc;intro st e st' a w G I N hrun h Q hQ;simp only [exec] at hrun;cases hf:nQ E.lim E.entry s st with
  |none=>rw [hf] at hrun;cases hrun
  |some st1 =>
   rw [hf] at hrun;obtain ⟨G1,I1,N1,h1,s1⟩:=aw8 h hf;exact ik st1 e st' a w G1 I1 N1 hrun h1 Q (fun a' w' G' I' N' ux hs' =>hQ a' w' G' I' N' ux (s1.trans hs'))
 ·
  intro st e st' a w G I N hrun h Q hQ;simp only [exec] at hrun;cases hrun;exact wp_skip (hQ a w G I N h (Dp.refl _ _ _ _ _ _))
 ·
  rename_i id ops d' l5 d;simp only [Bool.and_eq_true,beq_iff_eq] at hc;obtain ⟨rfl,hc⟩:=hc;intro st e st' a w G I N hrun h Q hQ;simp only [exec] at hrun;split at hrun
  .rename_i r hr
   cases hrun;refine uI hE hn hc h hr id Q ?_;intro a' w' G' I' N' hR hs;exact hQ a' w' G' I' N' (Cd.done rfl hR) hs.trn
  .cases hrun
 ·
  rename_i id ops d' c' x' y' z' l5 d c x y k;simp only [Bool.and_eq_true,beq_iff_eq] at hc;obtain ⟨⟨⟨⟨⟨rfl,h1⟩,h2⟩,h3⟩,h4⟩,h5⟩:=hc;simp only [q6.seq.sizeOf_spec,q6.test.sizeOf_spec] at hsz;have ix:=ih x x' (by omega) h3;have iy:=ih y y' (by omega) h4;have iz:=ih k z' (by omega) h5;intro st e st' a w G I N hrun h Q hQ;simp only [exec] at hrun;refine wp_seq ?_;cases hr:S2 E l5 d st.T st.H with
  |none=>rw [hr] at hrun;cases hrun
  |some r =>
   rw [hr] at hrun;simp only at hrun;have both:∀ (b:Bool) (z:Code) (rz:St->Option (G7×St)),J2 r.T r.L c= .d (.bool b)->Sound P names nt E z rz->andThen rz (exec E lim k) ⟨r.T,r.H⟩=some (e,st')->(if b then x' else y')=z->(Code.region id ops d).wp P (Exit.then ((Code.seq (.cond c' x' y') z').wp P Q) Q) a w:=by
    intro b z rz hv hz hrz hbz;refine BW hE hn h1 h2 h hr hv id _ ?_;intro a' w' G' I' N' ux hs' hev;simp only [Exit.then];refine wp_seq (wp_cond hev ?_);rw [hbz];refine BX hz iz hrz ux Q ?_;intro a2 w2 G2 I2 N2 oC hs2;exact hQ a2 w2 G2 I2 N2 oC (hs'.trans hs2)
   cases hv:J2 r.T r.L c with
   |d v =>
    cases v with
    |bool b =>
     rw [hv] at hrun;cases b with
     |true=>exact both true x' _ hv ix hrun rfl
     |false=>exact both false y' _ hv iy hrun rfl
    |_=>rw [hv] at hrun;cases hrun
   |_=>rw [hv] at hrun;cases hrun
 ·
  rename_i id ops d' c' x' y' l5 d c x y;simp only [Bool.and_eq_true,beq_iff_eq] at hc;obtain ⟨⟨⟨⟨rfl,h1⟩,h2⟩,h3⟩,h4⟩:=hc;simp only [q6.test.sizeOf_spec] at hsz;have ix:=ih x x' (by omega) h3;have iy:=ih y y' (by omega) h4;intro st e st' a w G I N hrun h Q hQ;simp only [exec] at hrun;refine wp_seq ?_;cases hr:S2 E l5 d st.T st.H with
  |none=>rw [hr] at hrun;cases hrun
  |some r =>
   rw [hr] at hrun;simp only at hrun;have both:∀ (b:Bool) (z:Code) (rz:St->Option (G7×St)),J2 r.T r.L c= .d (.bool b)->Sound P names nt E z rz->rz ⟨r.T,r.H⟩=some (e,st')->(if b then x' else y')=z->(Code.region id ops d).wp P (Exit.then ((Code.cond c' x' y').wp P Q) Q) a w:=by
    intro b z rz hv hz hrz hbz;refine BW hE hn h1 h2 h hr hv id _ ?_;intro a' w' G' I' N' ux hs' hev;simp only [Exit.then];refine wp_cond hev ?_;rw [hbz];refine hz _ e st' a' w' G' I' N' hrz ux Q ?_;intro a2 w2 G2 I2 N2 oC hs2;exact hQ a2 w2 G2 I2 N2 oC (hs'.trans hs2)
   cases hv:J2 r.T r.L c with
   |d v =>
    cases v with
    |bool b =>
     rw [hv] at hrun;cases b with
     |true=>exact both true x' _ hv ix hrun rfl
     |false=>exact both false y' _ hv iy hrun rfl
    |_=>rw [hv] at hrun;cases hrun
   |_=>rw [hv] at hrun;cases hrun
 ·
  rename_i i ops d' c' x' y' z' l5 d c x y k;simp only [Bool.and_eq_true] at hc;simp only [q6.seq.sizeOf_spec] at hsz;rw [AW,AW,Ds];exact xx (ih (.region l5 d) _ (by omega) hc.1.1) (xx (ih (.cond c x y) _ (by omega) hc.1.2) (ih k z' (by omega) hc.2))
 ·
  rename_i x' y' x y _ _ _;simp only [Bool.and_eq_true] at hc;simp only [q6.seq.sizeOf_spec] at hsz;rw [AW];exact xx (ih x x' (by omega) hc.1) (ih y y' (by omega) hc.2)
 ·
  rename_i c' x' y' c x y;simp only [Bool.and_eq_true] at hc;simp only [q6.cond.sizeOf_spec] at hsz;intro st e st' a w G I N hrun h Q hQ;simp only [exec] at hrun;split at hrun
  .rename_i hv
   exact wp_cond_true (AK h hc.1.1 hv) (ih x x' (by omega) hc.1.2 st e st' a w G I N hrun h Q hQ)
  .rename_i hv
   exact wp_cond_false (AK h hc.1.1 hv) (ih y y' (by omega) hc.2 st e st' a w G I N hrun h Q hQ)
  .cases hrun
 ·
  rename_i id' b' id b;simp only [Bool.and_eq_true,beq_iff_eq] at hc;obtain ⟨rfl,hc⟩:=hc;simp only [q6.block.sizeOf_spec] at hsz;have ib:=ih b b' (by omega) hc;intro st e st' a w G I N hrun h Q hQ;simp only [exec] at hrun;refine wp_block ?_;split at hrun
  .rename_i i1 st1 h1
   refine ib st (.exit i1) st1 a w G I N h1 h _ ?_;intro a' w' G' I' N' ux hs';simp only [G7.Cn,Exit.inBlock];split at hrun
   .rename_i he
    cases hrun;rw [if_pos he];exact hQ a' w' G' I' N' ux hs'
   .rename_i he
    cases hrun;rw [if_neg he];exact hQ a' w' G' I' N' ux hs'
  .rename_i hne
   refine ib st e st' a w G I N hrun h _ ?_;intro a' w' G' I' N' ux hs';have:=hQ a' w' G' I' N' ux hs';cases e with
   |normal=>exact this
   |exit i=>exact absurd hrun (hne i st')
   |ret=>exact this
 ·
  rename_i b' mask b;simp only [q6.loop.sizeOf_spec] at hsz;exact Ol (ih b b' (by omega) hc) mask lim
 ·
  rename_i id' id;intro st e st' a w G I N hrun h Q hQ;simp only [beq_iff_eq] at hc;subst hc;simp only [exec] at hrun;cases hrun;exact wp_exit (hQ a w G I N h (Dp.refl _ _ _ _ _ _))
 ·
  intro st e st' a w G I N hrun h Q hQ;simp only [exec] at hrun;cases hrun;exact wp_ret (hQ a w G I N h (Dp.refl _ _ _ _ _ _))
 ·
  intro st e st' a w G I N hrun h Q hQ;simp only [exec] at hrun;cases hrun
end
end Go.A2
namespace Go.A2
variable [C9]
def freeze (G:Gh)(n:Nat):Gh:=fun b =>
 match G b with
 | .obj id=>if n<=id then .lX else .obj id
 |x=>x
section
variable {P:Program} {G:Gh} {I:S7} {N:Nat->Prop} {w:World} {n:Nat}
def MO {b o:Nat}(h:jv G b o):jv (freeze G n) b o:=by
 grind [jv,freeze]
def tj:Ext G w (freeze G n) w where
 os:=rfl
 tape:=rfl
 output:=rfl
 drawn _:=n5 _
 size:=n5 _
 lX b o h:=⟨MO h,rfl⟩
 still b h:=⟨by grind [freeze],rfl⟩
 shape _ c _ _ h:=⟨c,h,rfl⟩
def nP (q:Place):bZ q G w (freeze G n) w:=fun b m hb=>⟨by simp [freeze,hb],rfl⟩
def Be {b id:Nat}(h:id<n)(hb:G b= .obj id):freeze G n b= .obj id:=by simp_all [freeze,if_neg]
def Tn (h:WF G w):WF (freeze G n) w:=fun b hb=>by simp [freeze,h b hb]
theorem Eo {pl:Place}{a:c8}{x:Value}(h:VR G I N w pl a x):VR (freeze G n) I N w pl a x :=
 VR.mono tj.sub (fun _ _=>rfl) (fun _ h=>h) _ _ _ (Or.inr (nP pl)) h
theorem aa8 {pl:Place}{a:c8}{d:Data}{x:Value}(h:a.data? =some d)(hv:VR G I N w pl a x):DR G w d x:=by
 unfold c8.data? at h;split at h
 .simp_all [VR]
 .have:=hv.J3 (yu := .none)
  simp_all [c8.J3,VR]
 .have:=hv.J3 (yu := .none)
  simp_all [c8.J3,VR]
 .cases h
theorem qP:∀ (cs:List c8) (xs:List Data),O0 cs=some xs->xs.length=cs.length/\∀ (i:Nat) x,xs[i]? =some x->∃ a,cs[i]? =some a/\a.data? =some x
 |[],xs,h=>by simp_all [O0]
 |c::cs,xs,h=>by
  unfold O0 at h;split at h
  .split at h
   .rename_i ys hys
    obtain ⟨g1,g2⟩:=qP cs ys hys
    grind
   .cases h
  .cases h
theorem qT {H:p9}(hH:HR G I N w H):∀ (fuel:Nat) (as bs:List c8),cr H n fuel as=some bs->bs.length=as.length/\∀ (i:Nat) a pl x,as[i]? =some a->VR G I N w pl a x->∃ b,bs[i]? =some b/\VR (freeze G n) I N w pl b x
 |0,as,bs,h=>by simp [cr] at h
 |fuel+1,[],bs,h=>by
  simp_all [cr]
 |fuel+1,v::vs,bs,h=>by
  simp [cr] at h;split at h
  .cases h
  .rename_i ws hws
   obtain ⟨l1,l2⟩:=qT hH fuel vs ws hws;have fin:∀ (u:c8),(∀ pl x,VR G I N w pl v x->VR (freeze G n) I N w pl u x)->bs=u::ws->bs.length=(v::vs).length/\∀ (i:Nat) a pl x,(v::vs)[i]? =some a->VR G I N w pl a x->∃ b,bs[i]? =some b/\VR (freeze G n) I N w pl b x:=by
    grind
   have cj9:∀ (l l' :List c8),cr H n fuel l=some l' ->∀ xs,J4 G I N w l xs->J4 (freeze G n) I N w l' xs:=by
    intro l l' hl xs hx;obtain ⟨m1,m2⟩:=qT hH fuel l l' hl;have hlen:=J4.length _ _ hx
    grind [T0,u7,n9,J4.get]
   split at h
   .rename_i id sz lo len
    split at h
    .grind [Eo]
    .split at h
     .rename_i us ZI
      split at h
      .rename_i us' bz1
       split at h
       .rename_i xs hxs
        cases h;refine fin _ (fun pl x hv=> ?_) rfl;simp only [VR] at hv ⊢;obtain ⟨hN,cap,rfl,hcap,c,e,f,hc,hsz⟩:=hv;refine Or.inr ⟨(I id).1,(I id).2+lo,cap,rfl,hcap,?_⟩;obtain ⟨d1,d2⟩:=qP us' xs hxs;obtain ⟨m1,m2⟩:=qT hH fuel us us' bz1;refine Am _ xs fun i y hi=> ?_
        have hpos:0<len * sz:=by
         all_goals grind [rd,u7]
        obtain ⟨_,zs,g1,g2,g3,g4⟩:=hH.rd ZI hpos;have DG:i<len * sz:=by grind
        have Tu:G (I id).1= .obj id:=by
         unfold rd at ZI;split at ZI
         .rename_i l0 hl0
          have:=hH id _ hl0
          grind [OR]
         .cases ZI
        refine ⟨?_,?_⟩
        .simp_all [freeze,if_pos,jv]
        .have hz:zs[i]? =some zs[i]:=n9 (by omega)
         have hu:us[i]? =some us[i]:=n9 (by omega)
         grind [aa8]
       .cases h
      .cases h
     .cases h
   .grind [VR]
   all_goals grind [VR,Eo]
end
def fF (P:Program)(names:List Tmp):List ResultVar->List Dn->Bool
 |[],[]=>true
 | .tmp t::r,.slot s::q=>names[s]? ==some t&&fF P names r q
 | .cell a t::r,.cell s n::q=>names[s]? ==some a&&tC P t n&&fF P names r q
 |_,_=>false
def tH (tmps:Array Value):ResultVar->Sem Value
 | .tmp t=>pure (tmps.getD t undef)
 | .cell a t=>do loadVar t (<- asAddr (tmps.getD a undef))
section
variable {P:Program} {names:List Tmp} {E:Env} {nt:Nat} {st:St} {a:Act} {w:World} {G:Gh} {I:S7} {N:Nat->Prop}
def ah4 (h:Cd P names E nt st a w G I N){rv:ResultVar}{ar:Dn}(hc:fF P names [rv] [ar]=true){v:c8}(hv:lH st.T st.H ar=some v):∃ x s,(tH a.tmps rv).run P w= .ok x w/\VR G I N w (.slot s) v x:=by
 cases rv with
 |tmp t =>
  cases ar with
  |slot s =>
   simp only [fF,Bool.and_eq_true,beq_iff_eq] at hc;simp [lH] at hv;have:=h.T s t hc.1;simp_all [tH]<;>grind
  |cell s n=>simp [fF] at hc
 |cell t ty =>
  cases ar with
  |slot s=>simp [fF] at hc
  |cell s n =>
   simp only [fF,Bool.and_eq_true,beq_iff_eq] at hc;obtain ⟨⟨h1,h2⟩,_⟩:=hc;cases n with
   |none =>
    simp [lH] at hv;split at hv
    .rename_i id off hT
     split at hv
     .rename_i u hu
      cases hv;have hp:=h.T s t h1;rw [bA hT] at hp;simp [VR] at hp;obtain ⟨_,xs,g1,_,g3,g4⟩:=h.H.rd hu (by omega);obtain ⟨z,rfl⟩:∃ z,xs=[z]:=List.length_eq_one_iff.1 g1;have hz:=g3 0 z rfl;have hvz:=g4 0 u z rfl rfl;have ha:ep P ty=some false:=by simp_all [tC]
      refine ⟨z,s,?_,hvz.J3⟩;simp_all [tH,asAddr,loadVar,cS]
     .cases hv
    .cases hv
   |some n =>
    simp [lH] at hv;split at hv
    .rename_i id off hT
     split at hv
     .rename_i us hu
      cases hv;have hp:=h.T s t h1;rw [bA hT] at hp;simp [VR] at hp;have ha:ep P ty=some true/\P.cellsOf ty=n/\0<n:=by simp_all [tC,and_assoc]
      obtain ⟨_,xs,g1,g2,g3,g4⟩:=h.H.rd hu ha.2.2;have hs:(sizeOf ty).run P w= .ok n w:=by
       grind [run_sizeOf,ep,info_of_underlying]
      have hl:=run_loadCells_list (P:=P) w (ad (I id).1 ((I id).2+off)) xs (fun j v hj=>by simp_all [bw]);refine ⟨.agg xs.toArray,s,?_,?_⟩
      .simp_all [tH,asAddr,loadVar,cS]
      .refine ⟨_,rfl,T0 _ _ (by simp [g1,g2]) fun j b v hj hv=> ?_⟩
       simp at hj hv;obtain ⟨b',hb',rfl⟩:=hj;exact (g4 j b' v hb' hv).J3
     .cases hv
    .cases hv
theorem PU (h:Cd P names E nt st a w G I N):∀ (rvs:List ResultVar) (ZX:List Dn) (vs:List c8),fF P names rvs ZX=true->cR st.T st.H ZX=some vs ->
  ∃ xs:List Value,(rvs.mapM (tH a.tmps)).run P w= .ok xs w/\xs.length=vs.length/\∀ (i:Nat) v x,vs[i]? =some v->xs[i]? =some x->∃ s,VR G I N w (.slot s) v x
 |[],ZX,vs,hc,hv=>by
  cases ZX with
  |cons _ _=>simp [fF] at hc
  |nil =>
   simp_all [cR]
 |rv::rvs,ZX,vs,hc,hv=>by
  cases ZX with
  |nil=>simp_all [fF]
  |cons ar ZX =>
   have hc1:fF P names [rv] [ar]=true/\fF P names rvs ZX=true:=by
    cases rv<;>cases ar<;>simp_all [fF]
   simp [cR] at hv;split at hv
   .rename_i v hv1
    split at hv
    .rename_i vs' hvs
     obtain ⟨x,s,h1,h2⟩:=ah4 h hc1.1 hv1;obtain ⟨xs,h3,h4,h5⟩:=PU h rvs ZX vs' hc1.2 hvs;simp_all<;>grind
    .cases hv
   .cases hv
end
end Go.A2
namespace Go.A2
variable [C9]
structure iq (w w' :World):Prop where
 heap:w'.heap=w.heap
 os:w'.os=w.os
 tape:w'.tape=w.tape
 output:w'.output=w.output
 drawn:w.drawn<=w'.drawn
theorem iq.refl (w:World):iq w w:=⟨rfl,rfl,rfl,rfl,n5 _⟩
theorem iq.trans {w w1 w2:World}(h:iq w w1)(k:iq w1 w2):iq w w2:=⟨k.heap.trans h.heap,k.os.trans h.os,k.tape.trans h.tape,k.output.trans h.output,F9 h.drawn k.drawn⟩
theorem iq.ext {G:Gh}{w w' :World}(h:iq w w'):Ext G w G w' where
 os:=h.os
 tape:=h.tape
 output:=h.output
 drawn _:=h.drawn
 size:=by rw [h.heap];exact n5 _
 lX b o hi:=⟨hi,mg h.heap _⟩
 still b _:=⟨rfl,by rw [h.heap]⟩
 shape b c e f hc:=⟨c,by rw [h.heap];exact hc,rfl⟩
def iq.keeps {G:Gh}{w w' :World}(h:iq w w')(q:Place):bZ q G w G w' :=fun b n hb=>⟨hb,by rw [h.heap]⟩
def Idle (P:Program)(f:FuncId):Prop :=
 T6 P f=true/\∀ args w,CallsD P f args .returning w fun e u' w' =>(∃ v,e= .returned v)/\u' = .returning/\iq w w'
section
variable {P:Program} {names:List Tmp} {E:Env} {nt:Nat} {st:St} {a:Act} {w w' :World} {G:Gh} {I:S7} {N:Nat->Prop}
def Cd.same (h:Cd P names E nt st a w G I N)(hw:iq w w'):Cd P names E nt st a w' G I N where
 T s t ht:=VR.mono hw.ext.sub (fun _ _=>rfl) (fun _ h=>h) _ _ _ (Or.inr (hw.keeps _)) (h.T s t ht)
 H id o ho:=OR.mono hw.ext.sub (fun _ _=>rfl) (fun _ h=>h) id o (fun h=>⟨h,by rw [hw.heap]⟩) (fun _=>hw.keeps _) (h.H id o ho)
 wf b hb:=h.wf b (by rw [<- hw.heap];exact hb)
 W4:=h.W4
 W5:=h.W5
 bI:=h.bI
 GF:=h.GF
 size:=h.size
 idle:=h.idle
def aM.same {H0 H:p9}{w0:World}{G0:Gh}{I0:S7}{N0:Nat->Prop}(h:aM E H0 w0 G0 I0 N0 H w G I N)(hw:iq w w'):aM E H0 w0 G0 I0 N0 H w' G I N :=
 h.trans ⟨hw.ext,fun id _=>⟨fun b hb=>⟨hb,by rw [hw.heap]⟩,fun _=>hw.keeps _⟩,fun _ _ _=>rfl,fun _ _ h=>h,fun _ _ h=>h,fun _ o _ ho=>Or.inr ⟨o,ho,n5 _⟩⟩
theorem yj {idle:FuncId->Bool}(Er:∀ f,idle f=true->Idle P f){fn:Func}{tmps:Array Value}{R:Ending->World->Prop}:∀ (ds:List Deferred) (w:World),(∀ d,d ∈ ds->Iy P idle d) ->
  (∀ w',iq w w' ->∃ v,(results fn tmps).run P w' = .ok v w' /\R (.returned v) w')->Leaves P fn tmps R ds .returning w
 |[],w,_,h=>h w (iq.refl w)
 |d::ds,w,hd,h=>by
  obtain ⟨f,cap,h1,h2⟩:=hd d (by simp);obtain ⟨hcan,hD⟩:=Er f h2;obtain ⟨tgt,dargs⟩:=d;subst h1;refine leaves_cons (f:=f) (args:=dargs++cap) (by simp) (by simp_all [invoke,uL]) ?_;refine CallsD.mono (hD _ w) ?_;rintro e u' w' ⟨⟨v,rfl⟩,rfl,hw⟩;exact yj Er ds w' (fun d hd' =>hd d (by simp [hd'])) (fun w'' hw' =>h w'' (hw.trans hw'))
def KG {fn:Func}{tmps:Array Value}{xs:List Value}(h:(fn.results.toList.mapM (tH tmps)).run P w= .ok xs w) :
  (results fn tmps).run P w= .ok (if h:xs.length=1 then xs[0]'(by omega) else .tuple xs.toArray) w:=by
 have e:results fn tmps=(fn.results.mapM (tH tmps) >>= fun vs=>pure (if h:vs.size=1 then vs[0] else .tuple vs)):=by
  rfl
 grind [Array.mapM_eq_mapM_toList,map_eq_pure_bind,Sem.run_bind,Result.andThen_ok,Sem.run_pure,List.size_toArray]
def aF6 {vs:List c8}{xs:List Value}(hl:xs.length=vs.length)(h:∀ (i:Nat) v x,vs[i]? =some v->xs[i]? =some x->∃ s,VR G I N w (.slot s) v x) :
  ∃ pl G2,kB pl G w G2/\(∀ id off,pl≠ .cell id off)/\VR G2 I N w .ret (j3 vs) (if h:xs.length=1 then xs[0]'(by omega) else .tuple xs.toArray):=by
 by_cases h1:xs.length=1
 .obtain ⟨x,rfl⟩:=List.length_eq_one_iff.1 h1
  obtain ⟨v,rfl⟩:=List.length_eq_one_iff.1 (hl.symm.trans h1);obtain ⟨s,hv⟩:=h 0 v x rfl rfl;simp [j3]
  by_cases ho:∃ z n c,v= .own z n c
  .obtain ⟨z,n,c,rfl⟩:=ho
   obtain ⟨G2,hm,hv2⟩:=jV (yu := .ret) (by simp) hv
   grind
  .exact ⟨.slot s,G,kB.refl _ _ _,by simp,by simpa using hv.ID (fun z n c e=>ho ⟨z,n,c,e⟩)⟩
 .refine ⟨.ret,G,kB.refl _ _ _,by simp,?_⟩
  rw [dif_neg h1];have e:j3 vs= .tuple (vs.map c8.J3):=by
   simp_all [j3]<;>grind
  rw [e];refine ⟨_,rfl,T0 _ _ (by simp [hl]) fun j b v hj hv=> ?_⟩;simp at hj hv;obtain ⟨b',hb',rfl⟩:=hj;obtain ⟨s,hs⟩:=h j b' v hb' hv;exact hs.J3
end
def jl (P:Program)(fn:Func)(af:q9):Bool :=
 match fn.body with
 |some c=>kG af.names&&decide (af.nparams<=af.names.length)&&(af.names.take af.nparams==List.range af.nparams)&&decide (af.nparams<=fn.ntmps) &&
   Z1 P af.names fn.ntmps c af.body && fF P af.names fn.results.toList af.results && fn.name != "runtime.NumGoroutine"
 |none=>false
def MY {P:Program}{A:Prog}(Er:∀ f,A.idle f=true->Idle P f){cf:tU}{n:Nat}(Pt:oQ P cf A.prom)(hcan:∀ f args H lm r,cf f args H lm=some r->T6 P f=true)
  {f:FuncId} {fn:Func} {af:q9} (hf:P.funcs[f]? =some fn) (Jw:jl P fn af=true) {args:List c8} {H:p9} {l:H7} {v:c8} {H1:p9} (hrun:iA A cf n af args H l=some (v,H1))
  {w:World} {G:Gh} {I:S7} {N:Nat->Prop} {I4:Array Value} (hpre:Ak l H w G I N args I4) (hbase:af.aK=false->l.base=H.length) :
  Calls P f I4 w fun e w' =>∃ x G' I' N',e= .returned x/\lY l H w G I N v H1 x w' G' I' N' :=by
 unfold jl at Jw;cases hbody:fn.body with
 |none=>rw [hbody] at Jw;cases Jw
 |some c =>
  rw [hbody] at Jw;simp only [Bool.and_eq_true,decide_eq_true_eq,beq_iff_eq] at Jw;obtain ⟨⟨⟨⟨⟨⟨ay2,hnp⟩,aS4⟩,hnt⟩,aP8⟩,hres⟩,_⟩:=Jw;unfold iA at hrun;split at hrun
  .rename_i hlen
   have hvl:I4.size=args.length:=by simpa using J4.length _ _ hpre.args
   have hstart:Cd P af.names ⟨cf,A.prom,A.mode,A.idle,l,H.length⟩ fn.ntmps ⟨args++c9 (af.names.length - args.length) .any,H⟩ { tmps:=I4++Array.replicate (fn.ntmps - I4.size) undef,defers:=[] } w G I N:=by
    refine ⟨fun s t ht=> ?_,hpre.hr,hpre.wf,hpre.W4,?_,hpre.bI,n5 _,?_,by simp⟩
    .simp only
     by_cases hs:s<args.length
     .have hst:t=s:=by
       have h1:(af.names.take af.nparams)[s]? =some t:=by rw [List.getElem?_take_of_lt (by omega)];exact ht
       rw [aS4,List.getElem?_range (by omega)] at h1;cases h1;rfl
      subst hst;obtain ⟨x,g1,g2⟩:=J4.get _ _ hpre.args t args[t] (n9 hs);have e1:(args++c9 (af.names.length - args.length) c8.any).getD t .any=args[t]:=by
       rw [List.getD,A8 hs,n9 hs];rfl
      have e2:(I4++Array.replicate (fn.ntmps - I4.size) undef).getD t undef=x:=by
       have hv:I4[t]? =some x:=by simpa using g1
       have hlt:t<I4.size:=Nat.lt_of_lt_of_eq hs hvl.symm;simp [Array.getElem?_append_left hlt,hv]
      rw [e1,e2];exact g2.place
     .have e1:(args++c9 (af.names.length - args.length) c8.any).getD s .any= .any:=by
       rw [List.getD,u9 (by omega)]
       rcases A5 (s - args.length) (af.names.length - args.length) with h|h
       .simp [h]
       .rw [List.getElem?_eq_none (by simpa using h)];rfl
      rw [e1];simp [VR]
    .simp;omega
    .simp;omega
   have hE:OH P ⟨cf,A.prom,A.mode,A.idle,l,H.length⟩:=⟨Pt,hcan,hpre.strict,hpre.base⟩;refine calls_of_wp_defers hf hbody ?_;have fin:∀ (st:St) (vs:List c8),cR st.T st.H af.results=some vs->finish af.aK H.length vs st.H=some (v,H1)->∀ a' w' G' I' N',Cd P af.names ⟨cf,A.prom,A.mode,A.idle,l,H.length⟩ fn.ntmps st a' w' G' I' N' ->
     aM ⟨cf,A.prom,A.mode,A.idle,l,H.length⟩ H w G I N st.H w' G' I' N' ->Leaves P fn a'.tmps (fun e w' =>∃ x G' I' N',e= .returned x/\lY l H w G I N v H1 x w' G' I' N') a'.defers .returning w' :=by
    intro st vs hvs tq a' w' G' I' N' hc hs;refine yj Er a'.defers w' hc.idle ?_;intro w'' aS6;have oC:=hc.same aS6;have hs2:=hs.same aS6;obtain ⟨xs,h1,h2,h3⟩:=PU oC fn.results.toList af.results vs hres hvs;refine ⟨_,KG h1,(if h:xs.length=1 then xs[0]'(by omega) else .tuple xs.toArray),?_⟩;obtain ⟨pl,G2,hm,Bj,hv⟩:=aF6 (w:=w'') (G:=G') (I:=I') (N:=N') h2 h3;have Ny:Ext G w G2 w'' :=hs2.ext.trans hm.ext;have ao7:mb l G w G2 w'' :=hs2.fu.trans fun id _=>⟨fun b hb=>⟨hm.obj b id hb,rfl⟩,fun off=>hm.keeps _ (fun e=>Bj id off e.symm)⟩
    have hhr:HR G2 I' N' w'' st.H:=oC.H.Ka hm Bj;unfold finish at tq;split at tq
    .cases tq
     refine ⟨G2,I',N',rfl,hv,hhr,hm.wf oC.wf,Ny,ao7,fun id hid hN=>hs2.inj id hid hN,fun id hN=>hs2.mono id (hpre.bI id hN) hN,fun id hid hN=>hs2.old id hid hN,oC.bI,hs2.hle,oC.W4⟩
    .rename_i ye
     have ye:af.aK=false:=by simpa using ye
     have hb:=hbase ye;split at tq
     .rename_i u hu
      split at tq
      .rename_i wP
       cases tq;obtain ⟨_,hfz⟩:=qT (n:=H.length) hhr 1000000 _ _ hu;obtain ⟨b,e1,e2⟩:=hfz 0 _ .ret _ rfl hv;simp at e1;subst e1;have VP:=VR.low H.length _ _ _ wP e2;have hlt:∀ (id:Nat) o,(st.H.take H.length)[id]? =some o->id<H.length/\st.H[id]? =some o:=by
        intro id o ho;have:id<H.length:=by have:=u7 ho;simp at this;omega
        rw [List.getElem?_take_of_lt this] at ho;exact ⟨this,ho⟩
       refine ⟨freeze G2 H.length,I',fun i=>N' i/\i<H.length,rfl,VP,fun id o ho=> ?_,Tn (hm.wf oC.wf),Ny.trans tj,fun id hid=> ?_,fun id hid hN=>hs2.inj id hid hN,fun id hN=>⟨hs2.mono id (hpre.bI id hN) hN,hpre.bI id hN⟩,
        fun id hid hN=>hs2.old id hid hN.1,fun id hN=> ?_,fun id o' hid ho=> ?_,fun id o ho=> ?_⟩
       .obtain ⟨h4,h5⟩:=hlt id o ho
        have Bh:=(oC.W4 id o h5).2 (by simp only;omega);simp only at Bh;exact OR.mono tj.sub (fun _ _=>rfl) (fun _ h=>h) id o (fun hb=>⟨Be h4 hb,rfl⟩) (fun _=>nP _) (OR.low h4 o (by omega) (hhr id o h5))
       .obtain ⟨p1,p2⟩:=ao7 id hid
        refine ⟨fun b hb=> ?_,fun off b m hb=> ?_⟩
        .obtain ⟨q1,q2⟩:=p1 b hb
         exact ⟨Be (hpre.mI b id hb) q1,q2⟩
        .obtain ⟨q1,q2⟩:=p2 off b m hb
         obtain ⟨q3,_⟩:=nP (w:=w'') (n:=H.length) (.cell id off) b m q1;exact ⟨q3,q2⟩
       .have:=oC.bI id hN.1;simp;omega
       .obtain ⟨h4,h5⟩:=hlt id o' ho
        exact hs2.hle id o' hid h5
       .obtain ⟨h4,h5⟩:=hlt id o ho
        exact oC.W4 id o h5
      .cases tq
     .cases tq
   split at hrun
   .cases hrun
   .rename_i x st hne hex
    split at hrun
    .rename_i vs hvs
     refine Nr hE ay2 n _ af.body c (Nat.lt_succ_self _) aP8 _ x st _ w G I N hex hstart _ ?_;intro a' w' G' I' N' hc hs;have:=fin st vs hvs hrun a' w' G' I' N' hc (hs H w G I N hpre.bA3 (aM.refl _ _ _ _ _ _));cases x with
     |normal=>exact this
     |ret=>exact this
     |exit id=>exact absurd rfl (hne id)
    .cases hrun
   .cases hrun
  .cases hrun
def bU (P:Program)(prom:FuncId->Bool)(f:FuncId)(p:List c8->p9->H7->Option (c8×p9)):Prop :=
 T6 P f=true/\∀ args H l v H1,p args H l=some (v,H1)->∀ w G I N I4,Ak l H w G I N args I4->(prom f=false->l.base=H.length) ->
  Calls P f I4 w fun e w' =>∃ x G' I' N',e= .returned x/\lY l H w G I N v H1 x w' G' I' N'
structure oS (P:Program)(A:Prog):Prop where
 idle:∀ f,A.idle f=true->Idle P f
 fP:∀ f p,A.fP f=some p->bU P A.prom f p
 fn:∀ f af,A.fP f=none->A.fn f=some af->∃ fn,P.funcs[f]? =some fn/\jl P fn af=true
def Na {P:Program}{f:FuncId}{fn:Func}{af:q9}(hf:P.funcs[f]? =some fn)(h:jl P fn af=true):T6 P f=true:=by
 grind [jl,T6]
theorem nE {P:Program}{A:Prog}(h:oS P A):∀ n,oQ P (call A n) A.prom/\∀ f args H lm r,call A n f args H lm=some r->T6 P f=true
 |0=>⟨fun f args H l v H1 hc=>by simp [call] at hc,fun f args H lm r hc=>by simp [call] at hc⟩
 |n+1=>by
  obtain ⟨ih1,ih2⟩:=nE h n;refine ⟨fun f args H l v H1 hc w G I N I4 hpre hb=> ?_,fun f args H lm r hc=> ?_⟩
  .simp [call] at hc
   split at hc
   .rename_i p hp
    exact (h.fP f p hp).2 args H l v H1 hc w G I N I4 hpre hb
   .rename_i hp
    split at hc
    .rename_i af haf
     obtain ⟨fn,h1,h2⟩:=h.fn f af hp haf;exact MY h.idle ih1 ih2 h1 h2 hc hpre (fun lD=>hb (by simp_all [Prog.prom]))
    .cases hc
  .simp [call] at hc
   split at hc
   .rename_i p hp
    exact (h.fP f p hp).1
   .rename_i hp
    split at hc
    .rename_i af haf
     obtain ⟨fn,h1,h2⟩:=h.fn f af hp haf;exact Na h1 h2
    .cases hc
end Go.A2
namespace Go.A2
variable [C9]
def jA (o:Oper):Bool:=match o.op with
 | .call ⟨.builtin .recover,args,_⟩=>args.isEmpty&&o.guard.isNone
 |_=>false
def GR (P:Program)(d:Option Tmp)(o:Oper):Bool:=match o.op with
 | .binOp .neq t (.tmp x) (.const .nilIface) _=>d==some x&&o.guard.isNone&&(match P.underlying t with
  |some (.interface _)=>true
  |_=>false)
 |_=>false
def fD (P:Program)(fn:Func):Bool :=
 fn.name != "runtime.NumGoroutine" && fn.results.isEmpty && (match fn.body with
 |some (.region _ ops false)=>(match ops.toList with
  |[o]=>jA o
  |_=>false)
 |some (.seq (.region _ ops false) (.cond (.tmp c) _ .skip))=>(match ops.toList with
  |[o1,o2]=>jA o1&&GR P o1.dst o2&&o2.dst==some c&&(match o1.dst with
   |some d=>decide (d<fn.ntmps)&&decide (c<fn.ntmps)
   |none=>false)
  |_=>false)
 |_=>false)
def yx {P:Program}{o:Oper}(h:jA o=true)(a:Act)(w:World):(execOp a.eval o).run P w= .ok .recover w:=by
 unfold jA at h;split at h
 .rename_i args argTypes hop
  obtain ⟨dst,fq,ty,pos,after,guard⟩:=o;simp only at hop;subst hop;simp [execOp,resolve,invoke,builtin]
 .cases h
def pZ {o:Oper}(h:jA o=true)(y:Nat->Option Bool):Region.wanted o y=true:=by
 unfold jA at h;split at h
 .simp only [Bool.and_eq_true] at h
  have:o.guard=none:=by simpa using h.2
  simp [Region.wanted,this]
 .cases h
def Ys {P:Program}{o:Oper}{d:Option Tmp}(h:GR P d o=true)(a:Act)(w:World)(ha:∀ x,d=some x->a.tmps.getD x undef= .nilIface):(execOp a.eval o).run P w= .ok (.value (.bool false)) w:=by
 unfold GR at h;split at h
 .rename_i t x yt hop
  simp only [Bool.and_eq_true,beq_iff_eq] at h;obtain ⟨⟨h1,h2⟩,h3⟩:=h;obtain ⟨dst,fq,ty,pos,after,guard⟩:=o;simp only at hop;subst hop;have hx:a.eval (.tmp x)= .nilIface:=by simp only [Act.eval];exact ha x h1
  split at h3
  .rename_i ms hu
   have h1:(execOp a.eval (⟨dst,.binOp .neq t (.tmp x) (.const .nilIface) yt,ty,pos,after,guard⟩:Oper)).run P w= .ok (.value (.bool false)) w:=by
    simp only [execOp,hx];have hc:a.eval (.const .nilIface)= .nilIface:=rfl;rw [hc];simp only [eqGuard,binOp];simp [DD hu]
   exact h1
  .cases h3
 .cases h
def bB {P:Program}{f:FuncId}{fn:Func}(hf:P.funcs[f]? =some fn)(h:fD P fn=true):Idle P f:=by
 unfold fD at h;simp only [Bool.and_eq_true] at h;obtain ⟨⟨hname,hres⟩,h⟩:=h;have aR8 :fn.results= #[]:=by simpa using hres
 have hrun:∀ tmps w,(results fn tmps).run P w= .ok (.tuple #[]) w:=by
  intro tmps w;simp [results,aR8]
 have ao4:∀ (c₀:Frame) (cs:List Frame),c₀.mode= .returning->recoverD (c₀::cs)=none:=by
  intro c₀ cs hm;simp [recoverD,hm]
 split at h
 .rename_i id ops hb
  refine ⟨by simp only [T6,hf,hb];simpa using hname,fun args w=> ?_⟩;refine callsD_of_wpS hf hb ?_;intro c₀ cs hm;split at h
  .rename_i o ho
   have VU:ops= #[o]:=by apply Array.toList_inj.1;simpa using ho
   subst VU;refine wpS_region ?_;have Jy:(#[o]:Array Oper)[0]? =some o:=rfl;show wpOpsS P #[o] _ [0] _ _ _
   simp only [wpOpsS,Jy,pZ h,if_true,yx h,ao4 c₀ cs hm];refine ⟨by rw [nI],.returning,?_,.tuple #[],hrun _ _,⟨_,rfl⟩,rfl,iq.refl _⟩;cases c₀;simp only at hm;subst hm;rfl
  .cases h
 .rename_i id ops c thn hb
  refine ⟨by simp only [T6,hf,hb];simpa using hname,fun args w=> ?_⟩;refine callsD_of_wpS hf hb ?_;intro c₀ cs hm;split at h
  .rename_i o1 o2 ho
   have VU:ops= #[o1,o2]:=by apply Array.toList_inj.1;simpa using ho
   subst VU;simp only [Bool.and_eq_true,beq_iff_eq] at h;obtain ⟨⟨⟨h1,h2⟩,h3⟩,h4⟩:=h;cases hd:o1.dst with
   |none=>rw [hd] at h4;cases h4
   |some d =>
    rw [hd] at h4;simp only [Bool.and_eq_true,decide_eq_true_eq] at h4;refine wpS_seq (wpS_region ?_);have hg0:(#[o1,o2]:Array Oper)[0]? =some o1:=rfl;have hg1:(#[o1,o2]:Array Oper)[1]? =some o2:=rfl;show wpOpsS P #[o1,o2] _ [0,1] _ _ _
    simp only [wpOpsS,hg0,hg1,pZ h1,if_true,yx h1,ao4 c₀ cs hm];have ZJ:∀ y,Region.wanted o2 y=true:=by
     intro y;unfold GR at h2;split at h2
     .simp only [Bool.and_eq_true] at h2
      have:o2.guard=none:=by simpa using h2.1.2
      simp [Region.wanted,this]
     .cases h2
    have hlt:d<(args++Array.replicate (fn.ntmps - args.size) undef).size:=Nat.lt_of_lt_of_le h4.1 (by simp;omega);have hlt2:c<(args++Array.replicate (fn.ntmps - args.size) undef).size:=Nat.lt_of_lt_of_le h4.2 (by simp;omega);have hr2:=fun a hh=>Ys (P:=P) h2 a w hh
    simp only [ZJ,if_true];rw [hr2 _ (by
     intro x hx;rw [hd] at hx;cases hx;rw [hd];exact bQ hlt)]
    simp only [Oper.upon,Exit.thenS];refine wpS_cond (t:=false) ?_ ?_
    .rw [h3]
     simp only [Act.eval];exact bQ (by rw [size_put];exact hlt2)
    .refine wpS_of_wp (wp_skip ?_)
     refine ⟨by rw [nI,nI],.returning,?_,.tuple #[],hrun _ _,⟨_,rfl⟩,rfl,iq.refl _⟩;cases c₀;simp only at hm;subst hm;rfl
  .cases h
 .cases h
end Go.A2
namespace Go.A2
open Go
def am7 (P:Program)(g:FuncId->Option q9)(f:Nat):Bool:=match g f with
 |none=>true
 |some af=>match P.funcs[f]? with
  |some fn=>jl P fn af
  |none=>false
def upTo (n:Nat)(g:FuncId->Option q9)(f:FuncId):Option q9:=match Nat.blt f n with
 |true=>g f
 |false=>none
def iQ (P:Program)(g:FuncId->Option q9)(k:Nat):Bool:=(List.range' (32 * k) 32).all (am7 P g)
def ak6 {P:Program}{g:FuncId->Option q9}{n:Nat}(h:∀ k,k<n->iQ P g k=true)(f:FuncId)(af:q9)(hf:upTo (32 * n) g f=some af):∃ fn,P.funcs[f]? =some fn/\jl P fn af=true:=by
 unfold upTo at hf;split at hf
 .rename_i hb
  have hb:Nat.lt f (32 * n):=j5 hb;have hb: @LT.lt Nat _ f (32 * n):=hb;have h1:=Q2.1 (h (f / 32) (Nat.div_lt_of_lt_mul hb)) f (List.mem_range'_1.2 ⟨Nat.mul_div_le f 32,Nat.lt_mul_div_succ f (by decide)⟩);unfold am7 at h1;rw [hf] at h1;simp only at h1;split at h1
  .rename_i fn hfn
   exact ⟨fn,hfn,h1⟩
  .cases h1
 .cases hf
end Go.A2
namespace Go.A2
variable [C9]
mutual
def GG:Data->Data->Bool
 | .bool a,.bool b=>a==b
 | .int k a,.int k' b=>k==k' &&a==b
 | .str a,.str b=>a==b
 | .slice n xs,.slice m ys=>n==m&&wJ xs ys
 | .cu,.cu=>true
 | .P5,.P5=>true
 | .dy,.dy=>true
 | .nilIface,.nilIface=>true
 |_,_=>false
def wJ:List Data->List Data->Bool
 |[],[]=>true
 |x::xs,y::ys=>GG x y&&wJ xs ys
 |_,_=>false
end
mutual
theorem El:∀ (a b:Data),GG a b=true->a=b
 | .slice n xs,b,h=>by
  cases b<;>simp [GG,Bool.and_eq_true,beq_iff_eq,j4] at h;rw [h.1,AS _ _ h.2]
 | .bool _,b,h| .int _ _,b,h| .str _,b,h| .cu,b,h| .P5,b,h| .dy,b,h| .nilIface,b,h=>by cases b<;>simp_all [GG]
theorem AS:∀ (a b:List Data),wJ a b=true->a=b
 |[],[],_=>rfl
 |x::xs,y::ys,h=>by
  simp [wJ,Bool.and_eq_true] at h;rw [El x y h.1,AS xs ys h.2]
 |[],_::_,h=>by simp [wJ] at h
 |_::_,[],h=>by simp [wJ] at h
end
def eqC:c8->c8->Bool
 | .d x,.d y=>GG x y
 |_,_=>false
def Tl:List c8->List c8->Bool
 |[],[]=>true
 |x::xs,y::ys=>eqC x y&&Tl xs ys
 |_,_=>false
def eqA:c8->c8->Bool
 | .agg l,.agg m=>Tl l m
 |a,b=>eqC a b
def Tj:List c8->List c8->Bool
 |[],[]=>true
 |x::xs,y::ys=>eqA x y&&Tj xs ys
 |_,_=>false
theorem Ek {a b:c8}(h:eqC a b=true):a=b:=by
 unfold eqC at h
 grind [El]
theorem AR:∀ (a b:List c8),Tl a b=true->a=b
 |[],[],_=>rfl
 |x::xs,y::ys,h=>by
  simp [Tl,Bool.and_eq_true] at h;rw [Ek h.1,AR xs ys h.2]
 |[],_::_,h=>by simp [Tl] at h
 |_::_,[],h=>by simp [Tl] at h
def Ti {a b:c8}(h:eqA a b=true):a=b:=by
 unfold eqA at h
 grind [AR,Ek]
theorem AP:∀ (a b:List c8),Tj a b=true->a=b
 |[],[],_=>rfl
 |x::xs,y::ys,h=>by
  simp [Tj,Bool.and_eq_true] at h;rw [Ti h.1,AP xs ys h.2]
 |[],_::_,h=>by simp [Tj] at h
 |_::_,[],h=>by simp [Tj] at h
structure DW where
 f:FuncId
 args:List c8
 res:c8
def an:H7:=⟨0,0,0,0⟩
def H7.isZero (l:H7):Bool:=l.VD==0&&l.Vu==0&&l.base==0&&l.strict==0
theorem GS {l:H7}(h:l.isZero=true):l=an:=by
 obtain ⟨a,b,c,d⟩:=l;simp [H7.isZero] at h;obtain ⟨⟨⟨rfl,rfl⟩,rfl⟩,rfl⟩:=h;rfl
def look (f:FuncId)(args:List c8):List DW->Option c8
 |[]=>none
 |e::es=>if e.f==f&&Tj e.args args then some e.res else look f args es
theorem Bu {f:FuncId}{args:List c8}{v:c8}:∀ (es:List DW),look f args es=some v->∃ e,e ∈ es/\e.f=f/\e.args=args/\e.res=v
 |[],h=>by simp [look] at h
 |e::es,h=>by
  unfold look at h;split at h
  .grind [AP]
  .obtain ⟨e',h1,h2⟩:=Bu es h
   grind
def memo (A:Prog)(es:List DW):Prog :=
 ⟨A.fn,A.idle,A.mode,fun f=>if es.any (fun e=>e.f==f) then some (fun args H l=>if H.isEmpty&&l.isZero then (match look f args es with
  |some v=>some (v,[])
  |none=>none) else none) else A.fP f⟩
end Go.A2
namespace Go.A2
variable [C9]
structure Kept (w w' :World):Prop where
 os:w'.os=w.os
 output:w'.output=w.output
 size:w.heap.size<=w'.heap.size
 old:∀ b:Nat,b<w.heap.size->w'.heap[b]? =w.heap[b]?
def Kept.but {w w' :World}(h:Kept w w')(may:MemPlace->Prop):w.keptBut w' may:=by
 refine ⟨h.os,h.output,fun i hi=> ?_⟩;rw [h.old i hi];split
 .rename_i pI kA
  rw [pI] at kA;cases kA;exact ⟨rfl,rfl,rfl,fun _ _=>rfl⟩
 .rename_i pI kA
  rw [pI] at kA;cases kA;exact Or.inr ⟨rfl,rfl⟩
 .rfl
theorem Kept.frozen {w w' :World}(h:Kept w w'){a:Addr}(ha:a.block<w.heap.size):w'.frozen? a=w.frozen? a:=by
 simp [World.frozen?,h.old a.block ha]
def G0 (w:World):Gh:=fun b=>if b<w.heap.size then .lX else .free
def TE {P:Program}{A:Prog}(h:oS P A){n:Nat}{f:FuncId}{args:List c8}{I4:Array Value}{w:World}(hc:call A n f args [] an=some (.d (.bool true),[]))
  (hargs:J4 (G0 w) (fun _=>(0,0)) (fun _=>False) w args I4.toList):Calls P f I4 w fun e w' =>e= .returned (.bool true)/\Kept w w' :=by
 have hpre:Ak an [] w (G0 w) (fun _=>(0,0)) (fun _=>False) args I4:=by
  refine ⟨hargs,?_,?_,?_,?_,n5 _,n5 _,?_,fun _ b n pl hb=>by simp [G0] at hb;split at hb<;>cases hb⟩
  .intro id o ho;simp at ho
  .intro b hb;simp only [G0];rw [if_neg (by omega)]
  .intro id hid;exact hid.elim
  .intro id o ho;simp at ho
  .intro b id hb
   simp [G0] at hb;split at hb<;>cases hb
 refine Calls.mono ((nE h n).1 f args [] an _ _ hc w _ _ _ I4 hpre (fun _=>rfl)) ?_;rintro e w' ⟨x,G',I',N',rfl,hp⟩;have hx:=hp.val;subst hx;refine ⟨rfl,hp.ext.os,hp.ext.output,hp.ext.size,fun b hb=> ?_⟩;refine (hp.ext.still b (Or.inl ?_)).2;simp only [G0];rw [if_pos hb]
def Gr {A:Prog}{n:Nat}{f:FuncId}{af:q9}{args:List c8}{H:p9}{l:H7}(hp:A.fP f=none)(hf:A.fn f=some af):call A (n+1) f args H l=iA A (call A n) n af args H l:=by
 simp [call,hp,hf]
def jL (af:q9)(n:Nat)(o:Option (G7×St)):Option (c8×p9):=match o with
 |some (.exit _,_)=>none
 |some (_,st)=>(match cR st.T st.H af.results with
  |some vs=>finish af.aK n vs st.H
  |none=>none)
 |none=>none
def ua {A:Prog}{cf:tU}{n:Nat}{af:q9}{args:List c8}{H:p9}{l:H7}(h:args.length=af.nparams) :
  iA A cf n af args H l=jL af H.length (exec ⟨cf,A.prom,A.mode,A.idle,l,H.length⟩ n af.body ⟨args++c9 (af.names.length - args.length) .any,H⟩):=by
 unfold iA jL;rw [if_pos h];rfl
section
variable {H:Type} {enc:TypeId×Value->H} {P:Program}
open Go.ChangeShapes Go.WideShapes
def TM {f:Func}{s:ChangeSpec}{apart fresh handsOn again:Bool}{W W' :World}{args:Array Value}{v:Value}{ds gs:List (DataW H)}{before pa pv:List MemPlace}
  (hW:DataW.Whole enc P f.params.toList s.vars apart W args.toList ds gs before) (hK:Kept W W')
  (hres:∀ (b:Nat) (sp:Nat->Bool) (hd:Bool),DataW.TrodAll enc P W' b sp hd f.resultTypes.toList (v.resultList f.resultTypes.size) (s.fn H (ds++gs)).results [])
  (hargs:∀ sp:Nat->Bool,(∀ p ∈ before,sp p.block=true)->DataW.TrodAll enc P W' 0 sp true f.params.toList args.toList (s.fn H (ds++gs)).args pa)
  (hvars:∀ sp:Nat->Bool,(∀ p ∈ before,sp p.block=true)->DataW.TrodVars enc P W' sp s.vars (s.fn H (ds++gs)).vars pv)
  (hps:before=pa++pv)
  (hok:∀ (j:Nat) (t:TypeId) (r:Value),f.resultTypes[j]? =some t->(v.resultList f.resultTypes.size)[j]? =some r->Value.okWide P W' .any 0 t r) :
  s.post enc P f apart fresh handsOn again W args v W' :=by
 have hlt:=hW.lt;have hin:∀ p,p ∈ pa++pv->p ∈ before:=fun p hp=>by rw [hps];exact hp
 refine ⟨ds,gs,before,[],pa,pv,hW,hres _ _ _,hargs _ (fun p hp=>by simpa using hlt p hp),hvars _ (fun p hp=>by simpa using hlt p hp),World.keptBut_mono (fun p hp=>⟨hp,?_⟩) (hK.but _),fun _=> ?_⟩
 .rw [hps,List.mem_append] at hp
  exact Or.inr hp
 .obtain ⟨_,_,_,_,_,hz,hn⟩:=hW
  refine ⟨hok,_,_,([]++pa)++pv,⟨[]++pa,pv,trodAll_append (hargs _ (fun _ _=>rfl)) (hres _ _ _),hvars _ (fun _ _=>rfl),rfl,fun b off hp=> ?_,fun ha=> ?_⟩,fun p hp _=> ?_⟩
  .have hb:=hin _ (by simpa using hp)
   rw [hK.frozen (hlt _ hb)];exact hz b off hb
  .have:=hn ha
   rw [hps] at this;simpa using this
  .exact hin p (by simpa using hp)
end
end Go.A2
namespace Go.A2
instance:C9:=⟨False⟩
inductive CT where
 |bool
 |int (k:IntKind)
 |str
 |slice (e:List CT)
mutual
def Fits:CT->Data->Prop
 | .bool,d=>∃ b,d= .bool b
 | .int k,d=>∃ n,d= .int k n/\(Lit.int k n).wf=true
 | .str,d=>∃ s:List UInt8,d= .str s/\s.length<=maxLen
 | .slice e,d=>∃ rows:List (List Data),d= .slice rows.length rows.flatten/\rows.length<=maxLen/\∀ r,r ∈ rows->Z8 e r
def Z8:List CT->List Data->Prop
 |[],ds=>ds=[]
 |c::cs,ds=>∃ d r,ds=d::r/\Fits c d/\Z8 cs r
end
theorem Z8.length:∀ (l:List CT) (ds:List Data),Z8 l ds->ds.length=l.length
 |[],ds,h=>by simp_all [Z8]
 |c::cs,ds,h=>by
  obtain ⟨d,r,rfl,_,h3⟩:=h;simp [Z8.length cs r h3]
theorem nB:∀ {l m:List CT} {ds es:List Data},Z8 l ds->Z8 m es->Z8 (l++m) (ds++es)
 |[],m,ds,es,h,k=>by simp_all [Z8]
 |c::cs,m,ds,es,h,k=>by
  obtain ⟨d,r,rfl,h2,h3⟩:=h;exact ⟨d,r++es,rfl,h2,nB h3 k⟩
def UO (a:Addr)(m n:Nat):a.add (m+n)=(a.add m).add n:=by
 grind [Addr.add,M6]
def MP (P:Program)(lay:TypeId->List CT->Bool):List Field->Nat->List CT->Bool
 |[],_,l=>l.isEmpty
 |f::fs,o,l=>f.offset==o&&decide (P.cellsOf f.type<=l.length)&&lay f.type (l.take (P.cellsOf f.type))&&MP P lay fs (o+P.cellsOf f.type) (l.drop (P.cellsOf f.type))
def SI (lay:List CT->Bool)(c:Nat):Nat->List CT->Bool
 |0,l=>l.isEmpty
 |m+1,l=>decide (c<=l.length)&&lay (l.take c)&&SI lay c m (l.drop c)
def Lay (P:Program):Nat->TypeId->List CT->Bool
 |0,_,_=>false
 |n+1,t,l=>match P.underlying t with
  |some .bool=>(match l with
   |[.bool]=>true
   |_=>false)
  |some (.int k)=>(match l with
   |[.int k']=>k==k'
   |_=>false)
  |some .string=>(match l with
   |[.str]=>true
   |_=>false)
  |some (.slice e)=>(match l with
   |[.slice le]=>Lay P n e le&&P.cellsOf e==le.length&&decide (0<le.length)
   |_=>false)
  |some (.struct fs)=>P.cellsOf t==l.length&&MP P (Lay P n) fs.toList 0 l
  |some (.array m e)=>P.cellsOf t==l.length&&SI (Lay P n e) (P.cellsOf e) m l
  |_=>false
abbrev I0:S7:=fun _=>(0,0)
abbrev N0:Nat->Prop:=fun _=>False
theorem Kept.cell {w w' :World}(h:Kept w w'){a:Addr}{v:Value}(hv:w.cell? a=some v):w'.cell? a=some v:=by
 have:a.block<w.heap.size:=by
  grind [A5,World.cell?,Array.getElem?_eq_none]
 have e:w'.cell? a=w.cell? a:=by
  unfold World.cell?;rw [h.old _ this]
 simp_all
theorem jB {α β:Type}{f g:α->Option β}:∀ {l:List α} {ys:List β},(∀ x y,x ∈ l->y ∈ ys->f x=some y->g x=some y)->l.mapM f=some ys->l.mapM g=some ys
 |[],ys,_,h=>by simpa using h
 |x::xs,ys,hfg,h=>by
  rw [List.mapM_cons] at h ⊢;cases hf:f x with
  |none=>simp_all
  |some y =>
   rw [hf] at h;cases hr:xs.mapM f with
   |none=>simp_all
   |some r =>
    simp [hr] at h;subst h;rw [hfg x y (by simp) (by simp) hf,jB (fun a b ha hb=>hfg a b (by simp [ha]) (by simp [hb])) hr];rfl
theorem jo {α β:Type}{f:α->Option β}:∀ {l:List α} {ys:List β},l.mapM f=some ys->ys.length=l.length/\∀ (i:Nat) x,l[i]? =some x->∃ y,ys[i]? =some y/\f x=some y
 |[],ys,h=>by simp_all
 |x::xs,ys,h=>by
  rw [List.mapM_cons] at h;cases hf:f x with
  |none=>simp_all
  |some y =>
   rw [hf] at h;cases hr:xs.mapM f with
   |none=>simp_all
   |some r =>
    simp  at h;obtain ⟨h1,h2⟩:=jo hr
    grind
theorem Kept.cells {w w' :World}(h:Kept w w'){base:Nat}{a:Addr}{n:Nat}{cs:List Value}(hc:w.cells? base a n=some cs):w'.cells? base a n=some cs:=by
 unfold World.cells? at hc ⊢;split at hc
 .rename_i hb
  rw [if_pos hb];exact jB (fun x y _ _ hx=>h.cell hx) hc
 .cases hc
section
variable {H:Type} {enc:TypeId×Value->H} {P:Program} {w:World} {base:Nat} {spare:Nat->Bool} {held:Bool}
theorem trod_bool {t:TypeId}{fuel:Nat}{cs:List Value}{x:DataW H×List MemPlace}(hu:P.underlying t=some .bool)(h:DataW.trod enc P w base spare held (fuel+1) t cs=some x):∃ b,cs=[.bool b]/\x=(.lit (.bool b),[]):=by
 unfold DataW.trod at h
 grind
theorem trod_int {t:TypeId}{k:IntKind}{fuel:Nat}{cs:List Value}{x:DataW H×List MemPlace}(hu:P.underlying t=some (.int k))(h:DataW.trod enc P w base spare held (fuel+1) t cs=some x):∃ n,cs=[.int k n]/\(Lit.int k n).wf=true/\x=(.lit (.int k n),[]):=by
 unfold DataW.trod at h
 grind
theorem Cs {t:TypeId}{fuel:Nat}{cs:List Value}{x:DataW H×List MemPlace}(hu:P.underlying t=some .string)(h:DataW.trod enc P w base spare held (fuel+1) t cs=some x):∃ s:ByteArray,cs=[.string s]/\s.size<=maxLen/\x=(.lit (.string s.data.toList),[]):=by
 unfold DataW.trod at h
 grind
def trod_slice {t e:TypeId}{fuel:Nat}{cs:List Value}{x:DataW H×List MemPlace}(hu:P.underlying t=some (.slice e))(h:DataW.trod enc P w base spare held (fuel+1) t cs=some x) :
  (cs=[.slice none 0 0]/\x=(.nil,[]))\/∃ a len cap,cs=[.slice (some a) len cap]/\base<=a.block/\len<=cap/\cap<=maxLen /\
   (∃ elems,((List.range len).mapM fun i=>(w.cells? base (a.add (i * P.cellsOf e)) (P.cellsOf e)).bind (DataW.trod enc P w base spare held fuel e))=some elems) /\
   (spare a.block=true->∃ rest,((List.range (cap - len)).mapM fun j=>(w.cells? base (a.add ((len+j) * P.cellsOf e)) (P.cellsOf e)).bind (DataW.trod enc P w base spare held fuel e))=some rest):=by
 unfold DataW.trod at h;rw [hu] at h
 match cs,h with
 |[],h=>cases h
 |[v],h =>
  cases v<;>try (cases h)
  rename_i o len cap;cases o with
  |none =>
   cases len with
   |zero =>
    cases cap with
    |zero=>simp_all
    |succ c=>cases h
   |succ n=>cases h
  |some a =>
   simp only at h;split at h
   .rename_i hc
    refine Or.inr ⟨a,len,cap,rfl,hc.1,hc.2.1,hc.2.2,?_⟩;cases hm:(List.range len).mapM fun i=>(w.cells? base (a.add (i * P.cellsOf e)) (P.cellsOf e)).bind (DataW.trod enc P w base spare held fuel e) with
    |none=>simp_all
    |some elems =>
     refine ⟨⟨elems,rfl⟩,fun hs=> ?_⟩;cases hr:(List.range (cap - len)).mapM fun j=>(w.cells? base (a.add ((len+j) * P.cellsOf e)) (P.cellsOf e)).bind (DataW.trod enc P w base spare held fuel e) with
     |none=>simp_all
     |some rest=>simp_all
   .cases h
 |v::_::_,h=>simp_all
def trod_array {t e:TypeId}{m:Nat}{fuel:Nat}{cs:List Value}{x:DataW H×List MemPlace}(hu:P.underlying t=some (.array m e))(h:DataW.trod enc P w base spare held (fuel+1) t cs=some x) :
  cs.length=P.cellsOf t/\∃ xs,((List.range m).mapM fun i=>DataW.trod enc P w base spare held fuel e ((cs.drop (i * P.cellsOf e)).take (P.cellsOf e)))=some xs/\x=(.agg (xs.map (·.1)),xs.flatMap (·.2)):=by
 simp_all [DataW.trod]<;>grind
def trod_struct {t:TypeId}{fs:Array Field}{fuel:Nat}{cs:List Value}{x:DataW H×List MemPlace}(hu:P.underlying t=some (.struct fs))(h:DataW.trod enc P w base spare held (fuel+1) t cs=some x) :
  cs.length=P.cellsOf t/\∃ xs,(fs.toList.mapM fun f=>DataW.trod enc P w base spare held fuel f.type ((cs.drop f.offset).take (P.cellsOf f.type)))=some xs/\x=(.agg (xs.map (·.1)),xs.flatMap (·.2)):=by
 simp_all [DataW.trod]<;>grind
abbrev Cells (w:World)(ds:List Data)(cs:List Value):Prop:=J4 (G0 w) I0 N0 w (ds.map .d) cs
theorem Cells.append {ds es:List Data}{cs fs:List Value}(h:Cells w ds cs)(k:Cells w es fs):Cells w (ds++es) (cs++fs):=by
 simp_all [Cells,List.map_append,sP]
theorem av0 {b o:Nat}{v:Value}(h:w.cell? (ad b o)=some v):jv (G0 w) b o:=by
 grind [A5,World.cell?,Array.getElem?_eq_none,jv,G0]
def Xv (hspare:∀ b,spare b=true):∀ (n:Nat) (t:TypeId) (l:List CT),Lay P n t l=true->∀ (fuel:Nat) (cs:List Value) (x:DataW H×List MemPlace),DataW.trod enc P w base spare held fuel t cs=some x->∃ ds,Z8 l ds/\Cells w ds cs:=by
 intro n
 induction n with
 |zero=>simp_all [Lay]
 |succ n ih =>
  intro t l hL fuel cs x h;cases fuel with
  |zero=>simp [DataW.trod] at h
  |succ fuel =>
   unfold Lay at hL;split at hL
   .rename_i hu
    split at hL
    .obtain ⟨b,rfl,_⟩:=trod_bool hu h
     exact ⟨[.bool b],by simp [Z8,Fits],by simp [Cells,J4,VR,DR]⟩
    .cases hL
   .rename_i k hu
    split at hL
    .rename_i k'
     have:k=k' :=by simp_all
     subst this;obtain ⟨m,rfl,hw,_⟩:=trod_int hu h;exact ⟨[.int k m],by simp_all [Z8,Fits],by simp [Cells,J4,VR,DR]⟩
    .cases hL
   .rename_i hu
    split at hL
    .obtain ⟨s,rfl,hs,_⟩:=Cs hu h
     refine ⟨[.str s.data.toList],?_,by simp [Cells,J4,VR,DR]⟩;simp_all [Z8,Fits]
    .cases hL
   .rename_i e hu
    split at hL
    .rename_i le
     simp only [Bool.and_eq_true,beq_iff_eq,decide_eq_true_eq] at hL;obtain ⟨⟨hLe,hce⟩,hpos⟩:=hL
     rcases trod_slice hu h with ⟨rfl,_⟩|⟨a,len,cap,rfl,hb,hlc,hcm,⟨elems,hel⟩,uA⟩
     .refine ⟨[.slice 0 []],?_,by simp [Cells,J4,VR,DR]⟩
      simp only [Z8,Fits];exact ⟨_,_,rfl,⟨[],rfl,by simp,by simp⟩,rfl⟩
     ·
      obtain ⟨Tt,qU⟩:=jo hel;have rows:∀ m,m<=len->∃ rows:List (List Data),rows.length=m/\(∀ r,r ∈ rows->Z8 le r)/\(∀ (j:Nat) d,rows.flatten[j]? =some d->∃ v,w.cell? (a.add j)=some v/\DR (G0 w) w d v):=by
       intro m
       induction m with
       |zero=>simp_all
       |succ m ihm =>
        intro hm;obtain ⟨rows,r1,r2,r3⟩:=ihm (by omega);obtain ⟨y,_,hy⟩:=qU m m (List.getElem?_range (by omega));cases hcell:w.cells? base (a.add (m * P.cellsOf e)) (P.cellsOf e) with
        |none=>simp_all
        |some ces =>
         rw [hcell] at hy;simp only [Option.bind_some] at hy;obtain ⟨ds,f1,f2⟩:=ih e le hLe fuel ces y hy;have hds:ds.length=le.length:=Z8.length _ _ f1;have Pu:rows.flatten.length=m * le.length:=by
          rw [List.length_flatten];have:∀ q,q ∈ rows.map List.length->q=le.length:=by
           grind [Z8.length]
          have by0:rows.map List.length=c9 m le.length:=by
           rw [List.eq_replicate_iff]
           grind
          rw [by0];simp
         refine ⟨rows++[ds],by simp [r1],?_,?_⟩
         .grind
         .intro j d hj
          rw [List.flatten_append] at hj;simp only [List.flatten_cons,List.flatten_nil,List.append_nil] at hj
          by_cases hjl:j<rows.flatten.length
          .grind
          .rw [u9 (by omega)] at hj
           have Dk:=u7 hj;unfold World.cells? at hcell;split at hcell
           .obtain ⟨c1,c2⟩:=jo hcell
            obtain ⟨v,v1,v2⟩:=c2 (j - rows.flatten.length) (j - rows.flatten.length) (List.getElem?_range (by omega));have bv4:(a.add (m * P.cellsOf e)).add (j - rows.flatten.length)=a.add j:=by
             rw [<- UO];simp_all
            rw [bv4] at v2;obtain ⟨v',w1,w2⟩:=J4.get _ _ f2 (j - rows.flatten.length) (.d d) (by simp_all);simp_all [VR]
           .cases hcell
      obtain ⟨rows,r1,r2,r3⟩:=rows len (n5 _);refine ⟨[.slice rows.length rows.flatten],?_,?_⟩
      .grind [Z8,Fits]
      .simp only [Cells,L8,List.map_nil,J4,VR]
       refine ⟨_,_,rfl,?_,rfl⟩;simp only [DR]
       by_cases hcap:cap=0
       .simp_all
       ·
        have ax8:∃ ces,w.cells? base (a.add 0) (P.cellsOf e)=some ces:=by
         by_cases hl0:len=0
         .obtain ⟨rest,hr⟩:=uA (hspare _)
          obtain ⟨_,c2⟩:=jo hr;obtain ⟨y,_,hy⟩:=c2 0 0 (by grind);rw [hl0] at hy;simp only [Nat.zero_add,Nat.zero_mul] at hy;cases Ts:w.cells? base (a.add 0) (P.cellsOf e) with
          |none=>simp_all
          |some ces=>simp_all
         .obtain ⟨y,_,hy⟩:=qU 0 0 (by grind)
          simp only [Nat.zero_mul] at hy;cases Ts:w.cells? base (a.add 0) (P.cellsOf e) with
          |none=>simp_all
          |some ces=>simp_all
        obtain ⟨ces,ac5⟩:=ax8;have hcell:∃ v,w.cell? a=some v:=by
         unfold World.cells? at ac5;split at ac5
         .obtain ⟨_,c2⟩:=jo ac5
          obtain ⟨v,_,hv⟩:=c2 0 0 (by simp_all);simp_all [Addr.add]
         .cases ac5
        obtain ⟨v,hv⟩:=hcell;have ha:a=ad a.block a.off:=by
         obtain ⟨b,o,sp⟩:=a;cases sp with
         |none=>rfl
         |some q =>
          grind [World.cell?]
        grind [Am,bw,av0]
    .cases hL
   .rename_i fs hu
    simp only [Bool.and_eq_true,beq_iff_eq] at hL;obtain ⟨hlen,xs,hxs,_⟩:=trod_struct hu h;have fields:∀ (fl:List Field) (o:Nat) (l:List CT) (ys:List (DataW H×List MemPlace)),MP P (Lay P n) fl o l=true->(fl.mapM fun f=>DataW.trod enc P w base spare held fuel f.type ((cs.drop f.offset).take (P.cellsOf f.type)))=some ys->(cs.drop o).length=l.length ->
      ∃ ds,Z8 l ds/\Cells w ds (cs.drop o):=by
     intro fl
     induction fl with
     |nil =>
      simp_all [MP,Z8,Cells,J4]<;>omega
     |cons f fl ihf =>
      intro o l ys hl hm hlen;simp only [MP,Bool.and_eq_true,beq_iff_eq,decide_eq_true_eq] at hl;obtain ⟨⟨⟨ho,hle⟩,Tv⟩,uA⟩:=hl;rw [List.mapM_cons] at hm;cases hf:DataW.trod enc P w base spare held fuel f.type ((cs.drop f.offset).take (P.cellsOf f.type)) with
      |none=>simp_all
      |some y =>
       rw [hf] at hm;cases hr:fl.mapM fun f=>DataW.trod enc P w base spare held fuel f.type ((cs.drop f.offset).take (P.cellsOf f.type)) with
       |none=>simp_all
       |some r =>
        rw [ho] at hf;obtain ⟨d1,a1,a2⟩:=ih f.type _ Tv fuel _ y hf;obtain ⟨d2,b1,b2⟩:=ihf (o+P.cellsOf f.type) (l.drop (P.cellsOf f.type)) r uA hr (by grind);refine ⟨d1++d2,?_,?_⟩
        .grind [List.take_append_drop,nB]
        .have:cs.drop o=(cs.drop o).take (P.cellsOf f.type)++cs.drop (o+P.cellsOf f.type):=by
          rw [<- List.drop_drop,List.take_append_drop]
         rw [this];exact a2.append b2
    grind
   .rename_i m e hu
    simp only [Bool.and_eq_true,beq_iff_eq] at hL;obtain ⟨hlen,xs,hxs,_⟩:=trod_array hu h;obtain ⟨_,hat⟩:=jo hxs;have elems:∀ (q k:Nat) (l:List CT),k+q=m->SI (Lay P n e) (P.cellsOf e) q l=true->(cs.drop (k * P.cellsOf e)).length=l.length->∃ ds,Z8 l ds/\Cells w ds (cs.drop (k * P.cellsOf e)):=by
     intro q
     induction q with
     |zero =>
      simp_all [SI,Z8,Cells,J4]<;>omega
     |succ q ihq =>
      intro k l hkq hl hlen;simp only [SI,Bool.and_eq_true,decide_eq_true_eq] at hl;obtain ⟨⟨hle,Tv⟩,uA⟩:=hl;obtain ⟨y,_,hy⟩:=hat k k (by grind);obtain ⟨d1,a1,a2⟩:=ih e _ Tv fuel _ y hy;obtain ⟨d2,b1,b2⟩:=ihq (k+1) (l.drop (P.cellsOf e)) (by omega) uA (by grind);refine ⟨d1++d2,?_,?_⟩
      .grind [List.take_append_drop,nB]
      .have:cs.drop (k * P.cellsOf e)=(cs.drop (k * P.cellsOf e)).take (P.cellsOf e)++cs.drop ((k+1) * P.cellsOf e):=by
        rw [Nat.succ_mul,<- List.drop_drop,List.take_append_drop]
       rw [this];exact a2.append b2
    have:=elems m 0 l (by omega) hL.2 (by simp_all);simp_all
   .cases hL
def Un {w' :World}(hK:Kept w w'){sp:Nat->Bool}:∀ (n:Nat) (t:TypeId) (l:List CT),Lay P n t l=true->∀ (fuel:Nat) (cs:List Value) (x:DataW H×List MemPlace),(∀ p,p ∈ x.2->sp p.block=true) ->
  DataW.trod enc P w base (fun _=>true) held fuel t cs=some x->DataW.trod enc P w' base sp held fuel t cs=some x:=by
 intro n
 induction n with
 |zero=>simp_all [Lay]
 |succ n ih =>
  intro t l hL fuel cs x hsp h;cases fuel with
  |zero=>simp [DataW.trod] at h
  |succ fuel =>
   unfold Lay at hL;split at hL
   .rename_i hu
    obtain ⟨b,rfl,rfl⟩:=trod_bool hu h;simp [DataW.trod,hu]
   .rename_i k hu
    obtain ⟨m,rfl,hw,rfl⟩:=trod_int hu h;simp [DataW.trod,hu,hw]
   .rename_i hu
    obtain ⟨s,rfl,hs,rfl⟩:=Cs hu h;simp [DataW.trod,hu,hs]
   .rename_i e hu
    split at hL
    .rename_i le
     simp only [Bool.and_eq_true,beq_iff_eq,decide_eq_true_eq] at hL;obtain ⟨⟨hLe,hce⟩,hpos⟩:=hL;have hel:∀ (a:Addr) (y:DataW H×List MemPlace),(∀ p,p ∈ y.2->sp p.block=true)->(w.cells? base a (P.cellsOf e)).bind (DataW.trod enc P w base (fun _=>true) held fuel e)=some y->(w'.cells? base a (P.cellsOf e)).bind (DataW.trod enc P w' base sp held fuel e)=some y:=by
      intro a y hy1 hy;cases hc:w.cells? base a (P.cellsOf e) with
      |none=>simp_all
      |some ces =>
       rw [hK.cells hc]
       grind
     rcases trod_slice hu h with ⟨rfl,rfl⟩|⟨a,len,cap,rfl,hb,hlc,hcm,⟨elems,aQ2⟩,uA⟩
     .simp [DataW.trod,hu]
     .obtain ⟨rest,hr⟩:=uA rfl
      have hx:x=(.slice (elems.map (·.1)) (rest.map (·.1)),MemPlace.row a ((elems.length+rest.length) * P.cellsOf e)++(elems++rest).flatMap (·.2)):=by
       simp_all [DataW.trod,if_pos,Option.bind_some,if_true,M7,Option.some.injEq]
      subst hx;have hin:∀ y,y ∈ elems++rest->∀ p,p ∈ y.2->sp p.block=true:=by
       grind
      have hblk:cap - len=0\/sp a.block=true:=by
       by_cases hc0:cap=0
       .omega
       .right
        have h1:=(jo aQ2).1;have h2:=(jo hr).1;simp only [List.length_range] at h1 h2;have:0<(elems.length+rest.length) * P.cellsOf e:=by
         rw [h1,h2,hce];exact Nat.mul_pos (by omega) hpos
        refine hsp (.cell a.block (a.off+0)) (List.mem_append_left _ ?_);exact L1.2 ⟨0,List.mem_range.2 this,rfl⟩
      unfold DataW.trod;rw [hu];simp only;rw [if_pos ⟨hb,hlc,hcm⟩,jB (fun i y _ hy' hy=>hel _ y (hin y (by simp [hy'])) hy) aQ2];have hr' :=jB (g:=fun j=>(w'.cells? base (a.add ((len+j) * P.cellsOf e)) (P.cellsOf e)).bind (DataW.trod enc P w' base sp held fuel e)) (fun i y _ hy' hy=>hel _ y (hin y (by simp [hy'])) hy) hr
      grind
    .cases hL
   .rename_i fs hu
    obtain ⟨hlen,xs,hxs,rfl⟩:=trod_struct hu h;have fields:∀ (fl:List Field) (o:Nat) (l:List CT),MP P (Lay P n) fl o l=true->∀ f,f ∈ fl->∃ l',Lay P n f.type l' =true:=by
     intro fl
     induction fl with
     |nil=>simp_all
     |cons g fl ihf =>
      grind [MP]
    have:=jB (g:=fun f=>DataW.trod enc P w' base sp held fuel f.type ((cs.drop f.offset).take (P.cellsOf f.type))) (fun f y hf hy' hy=>by
     grind) hxs
    simp_all [DataW.trod,if_pos]
   .rename_i m e hu
    obtain ⟨hlen,xs,hxs,rfl⟩:=trod_array hu h;have Tv:m=0\/∃ l',Lay P n e l' =true:=by
     cases m with
     |zero=>omega
     |succ m =>
      grind [SI]
    have:=jB (g:=fun i=>DataW.trod enc P w' base sp held fuel e ((cs.drop (i * P.cellsOf e)).take (P.cellsOf e))) (fun i y hi hy' hy=>by
     grind) hxs
    simp_all [DataW.trod,if_pos]
   .cases hL
end
def isStr (P:Program)(t:TypeId):Bool:=match P.underlying t with
 |some (.struct _)=>true
 |_=>false
def asArg (agg:Bool)(ds:List Data):c8:=if agg then .agg (ds.map .d) else .d (ds.headD .cu)
def qK (P:Program):List TypeId->List (List CT)->List c8->Prop
 |[],_,as=>as=[]
 |t::ts,ls,as=>∃ ds r,as=asArg (isStr P t) ds::r/\Z8 (ls.headD []) ds/\qK P ts ls.tail r
def Wd (P:Program)(t:TypeId):Bool:=match P.underlying t with
 |some (.array _ _)=>true
 |_=>false
def Gi (P:Program):List TypeId->List (List CT)->Bool
 |[],_=>true
 |t::ts,ls=>(Lay P 20 t (ls.headD [])&& !Wd P t)&&Gi P ts ls.tail
section
variable {H:Type} {enc:TypeId×Value->H} {P:Program} {w:World} {held:Bool}
theorem zU {t:TypeId}{r:Reach}{b0:Nat}{v:Value}(hval:Value.okWide P w r b0 t v){td:TypeDesc}(hu:P.underlying t=some td)(htd:td= .bool\/(∃ k,td= .int k)\/td= .string\/∃ e,td= .slice e):∀ cs,v≠ .agg cs:=by
 simp_all [Value.okWide,Cell.okWide,Cell.ok]<;>grind
theorem cells_one {v u:Value}(hv:∀ cs,v≠ .agg cs)(h:v.cells.toList=[u]):u=v:=by
 simp_all [Value.cells,absurd]
def av6 {t:TypeId}{l:List CT}(hL:Lay P 20 t l=true)(hna:Wd P t=false){r:Reach}{b0:Nat}{v:Value}(hval:Value.okWide P w r b0 t v){d:DataW H}{ps:List MemPlace}(h:DataW.Trod enc P w 0 (fun _=>true) held t v d ps) :
  ∃ ds,Z8 l ds/\VR (G0 w) I0 N0 w .none (asArg (isStr P t) ds) v:=by
 obtain ⟨fuel,h⟩:=h;obtain ⟨ds,h1,h2⟩:=Xv (fun _=>rfl) 20 t l hL fuel _ _ h;unfold isStr asArg;split
 .grind [Value.okWide,VR,Value.cells]
 .cases fuel with
  |zero=>simp [DataW.trod] at h
  |succ fuel =>
   have one:∀ u,v.cells.toList=[u]->u=v->VR (G0 w) I0 N0 w .none (.d (ds.headD .cu)) v:=by
    rintro u hu rfl;rw [hu] at h2;cases ds with
    |nil=>simp [Cells,J4] at h2
    |cons d0 r =>
     simp_all [Cells,J4]<;>grind
   unfold Lay at hL;split at hL
   .grind [trod_bool,cells_one,zU]
   .grind [trod_int,cells_one,zU]
   .grind [Cs,cells_one,zU]
   .rename_i e hu
    rcases trod_slice hu h with ⟨hb,_⟩|⟨a,len,cap,hb,_⟩
    all_goals grind [cells_one,zU]
   all_goals simp_all [absurd,Wd]
theorem OQ {r:Reach}{b0:Nat}:∀ (ts:List TypeId) (ls:List (List CT)) (vs:List Value) (ds:List (DataW H)) (ps:List MemPlace),Gi P ts ls=true->(∀ (j:Nat) t v,ts[j]? =some t->vs[j]? =some v->Value.okWide P w r b0 t v) ->
  DataW.TrodAll enc P w 0 (fun _=>true) held ts vs ds ps ->
  (∃ as,qK P ts ls as/\J4 (G0 w) I0 N0 w as vs)/\∀ w',Kept w w' ->∀ sp:Nat->Bool,(∀ p,p ∈ ps->sp p.block=true)->DataW.TrodAll enc P w' 0 sp held ts vs ds ps
 |[],ls,vs,ds,ps,_,_,h=>by
  obtain ⟨rfl,rfl,rfl⟩:=Go.ChangeShapes.trodAll_nil h;exact ⟨⟨[],by rfl,by simp [J4]⟩,fun _ _ _ _=>rfl⟩
 |t::ts,ls,vs,ds,ps,hL,hval,h=>by
  simp [Gi,Bool.and_eq_true,Bool.not_eq_true'] at hL;obtain ⟨v,vs1,d,ds1,a,b,rfl,rfl,rfl,h1,h2⟩:=Go.ChangeShapes.trodAll_cons h;obtain ⟨⟨as,g1,g2⟩,g3⟩:=OQ ts ls.tail vs1 ds1 b hL.2 (fun j t' v' ht hv=>hval (j+1) t' v' (by simp_all) (by simp_all)) h2;obtain ⟨dd,e1,e2⟩:=av6 hL.1.1 hL.1.2 (hval 0 t v rfl rfl) h1;refine ⟨⟨asArg (isStr P t) dd::as,?_,?_⟩,fun w' hK sp hsp=> ?_⟩
  .grind [qK]
  .grind [J4]
  .obtain ⟨fuel,hf⟩:=h1
   exact ⟨a,b,⟨fuel,Un hK 20 t _ hL.1.1 fuel _ _ (fun p hp=>hsp p (by simp_all)) hf⟩,g3 w' hK sp (fun p hp=>hsp p (by simp [hp])),rfl⟩
end
open Go.ChangeShapes Go.WideShapes Go.ChangeAt Go.RowKit
end Go.A2
namespace Go.A2
def N9 (A:Prog)(n:Nat)(l:H7)(b:Nat):Env:=⟨call A n,A.prom,A.mode,A.idle,l,b⟩
def Ex (A:Prog)(l:H7)(b:Nat)(c:q6)(st:St)(Q:G7->St->Prop):Prop :=
 ∃ x s N,Q x s/\∀ n,N<=n->exec (N9 A n l b) n c st=some (x,s)
def Rn (A:Prog)(l:H7)(b:Nat)(ops:List o9)(draw:Bool)(T:List c8)(H:p9)(Q:List c8->p9->List c8->Prop):Prop :=
 ∃ r N,Q r.T r.H r.L/\∀ n,N<=n->S2 (N9 A n l b) ops draw T H=some r
section
variable {A:Prog} {l:H7} {b:Nat}
theorem Ex.mono {c:q6}{st:St}{Q R:G7->St->Prop}(h:Ex A l b c st Q)(k:∀ x s,Q x s->R x s):Ex A l b c st R:=by
 obtain ⟨x,s,N,hq,h⟩:=h;exact ⟨x,s,N,k x s hq,h⟩
theorem Ex.skip {st:St}{Q:G7->St->Prop}(h:Q .normal st):Ex A l b .skip st Q:=⟨_,_,0,h,fun _ _=>rfl⟩
theorem Ex.exit {id:Nat}{st:St}{Q:G7->St->Prop}(h:Q (.exit id) st):Ex A l b (.exit id) st Q:=⟨_,_,0,h,fun _ _=>rfl⟩
theorem Ex.ret {st:St}{Q:G7->St->Prop}(h:Q .ret st):Ex A l b .ret st Q:=⟨_,_,0,h,fun _ _=>rfl⟩
theorem Ex.region {ops:List o9}{draw:Bool}{T:List c8}{H:p9}{Q:G7->St->Prop}(h:Rn A l b ops draw T H fun T' H' _=>Q .normal ⟨T',H'⟩):Ex A l b (.region ops draw) ⟨T,H⟩ Q:=by
 obtain ⟨r,N,hq,h⟩:=h;refine ⟨_,_,N,hq,fun n hn=> ?_⟩;simp_all [exec]
def Bf (Q:G7->St->Prop)(go:St->Prop):G7->St->Prop
 | .normal,s=>go s
 | .exit i,s=>Q (.exit i) s
 | .ret,s=>Q .ret s
theorem Ex.seq {c d:q6}{st:St}{Q:G7->St->Prop}(h:Ex A l b c st (Bf Q fun s=>Ex A l b d s Q)):Ex A l b (.seq c d) st Q:=by
 obtain ⟨x,s,N,hq,h⟩:=h;cases x with
 |normal =>
  obtain ⟨x2,s2,N2,hq2,h2⟩:=hq;refine ⟨x2,s2,max N N2,hq2,fun n hn=> ?_⟩
  grind [exec]
 |exit i=>exact ⟨_,_,N,hq,fun n hn=>by simp_all [exec]⟩
 |ret=>exact ⟨_,_,N,hq,fun n hn=>by simp_all [exec]⟩
def Ib (id:Nat)(Q:G7->St->Prop):G7->St->Prop
 | .exit i,s=>if i=id then Q .normal s else Q (.exit i) s
 | .normal,s=>Q .normal s
 | .ret,s=>Q .ret s
theorem Ex.block {id:Nat}{c:q6}{st:St}{Q:G7->St->Prop}(h:Ex A l b c st (Ib id Q)):Ex A l b (.block id c) st Q:=by
 obtain ⟨x,s,N,hq,h⟩:=h;cases x with
 |normal=>exact ⟨_,_,N,hq,fun n hn=>by simp_all [exec]⟩
 |ret=>exact ⟨_,_,N,hq,fun n hn=>by simp_all [exec]⟩
 |exit i =>
  simp [Ib] at hq;split at hq
  .exact ⟨_,_,N,hq,fun n hn=>by simp_all [exec,if_pos]⟩
  .exact ⟨_,_,N,hq,fun n hn=>by simp_all [exec,if_neg]⟩
theorem Ex.test {ops:List o9}{draw:Bool}{c:y5}{d e:q6}{T:List c8}{H:p9}{Q:G7->St->Prop}
  (h:Rn A l b ops draw T H fun T' H' L=>∃ t,J2 T' L c= .d (.bool t)/\(t=true->Ex A l b d ⟨T',H'⟩ Q)/\(t=false->Ex A l b e ⟨T',H'⟩ Q)):Ex A l b (.test ops draw c d e) ⟨T,H⟩ Q:=by
 obtain ⟨r,N,⟨t,h1,h2,h3⟩,h⟩:=h;cases t with
 |true =>
  obtain ⟨x,s,N2,hq,k⟩:=h2 rfl;exact ⟨x,s,max N N2,hq,fun n hn=>by grind [exec]⟩
 |false =>
  obtain ⟨x,s,N2,hq,k⟩:=h3 rfl;exact ⟨x,s,max N N2,hq,fun n hn=>by grind [exec]⟩
theorem Ex.cond {c:y5}{d e:q6}{st:St}{t:Bool}{Q:G7->St->Prop}(h1:J2 st.T [] c= .d (.bool t))
  (h2:t=true->Ex A l b d st Q) (h3:t=false->Ex A l b e st Q):Ex A l b (.cond c d e) st Q:=by
 cases t with
 |true =>
  obtain ⟨x,s,N2,hq,k⟩:=h2 rfl;exact ⟨x,s,N2,hq,fun n hn=>by simp_all [exec]⟩
 |false =>
  obtain ⟨x,s,N2,hq,k⟩:=h3 rfl;exact ⟨x,s,N2,hq,fun n hn=>by simp_all [exec]⟩
theorem Ex.loop {mask:List Bool}{body:q6}{st:St}{Q:G7->St->Prop}(Inv:Nat->St->Prop)
  (hb:∀ k s,Inv k s->Ex A l b body (clean mask l.strict st.H.length s) (Bf Q fun s' =>∃ k',k' <k/\Inv k' s')) {k:Nat} (h:Inv k st):Ex A l b (.loop mask body) st Q:=by
 have main:∀ k s,Inv k s->∃ x s2 N,Q x s2/\∀ n,N<=n->∀ j,N<=j->iE (exec (N9 A n l b) n body) mask l.strict st.H.length j s=some (x,s2):=by
  intro k
  induction k using Nat.strongRecOn with
  |_ k ih =>
   intro s hs;obtain ⟨x,s1,N,hq,h1⟩:=hb k s hs;cases x with
   |normal =>
    obtain ⟨k',hk,hi⟩:=hq;obtain ⟨x,s2,N2,hq2,h2⟩:=ih k' hk s1 hi;refine ⟨x,s2,max N N2+1,hq2,fun n hn j hj=> ?_⟩;obtain ⟨j,rfl⟩:∃ j',j=j' +1:=⟨j - 1,by omega⟩
    grind [iE]
   |exit i =>
    refine ⟨_,_,N+1,hq,fun n hn j hj=> ?_⟩;obtain ⟨j,rfl⟩:∃ j',j=j' +1:=⟨j - 1,by omega⟩
    grind [iE]
   |ret =>
    refine ⟨_,_,N+1,hq,fun n hn j hj=> ?_⟩;obtain ⟨j,rfl⟩:∃ j',j=j' +1:=⟨j - 1,by omega⟩
    grind [iE]
 obtain ⟨x,s2,N,hq,h⟩:=main k st h;exact ⟨x,s2,N,hq,fun n hn=>by exact h n hn n hn⟩
def Pf (A:Prog)(f:FuncId)(args:List c8)(v:c8):Prop :=
 ∃ N,∀ n,N<=n->call A n f args [] an=some (v,[])
def Pf.aV3 {f:FuncId}{af:q9}{args:List c8}{v:c8}(T:List c8)(hp:A.fP f=none)(hf:A.fn f=some af)(hn:args.length=af.nparams)
  (hT:args++c9 (af.names.length - args.length) .any=T) (h:Ex A an 0 af.body ⟨T,[]⟩ fun x s=>jL af 0 (some (x,s))=some (v,[])):Pf A f args v:=by
 obtain ⟨x,s,N,hq,h⟩:=h;refine ⟨N+1,fun n hn' => ?_⟩;obtain ⟨n,rfl⟩:∃ j,n=j+1:=⟨n - 1,by omega⟩;simp_all [Gr,ua,N9,List.length_nil]
def IZ (H:p9)(strict k:Nat):F6 H strict k 0=0:=by
 cases k<;>simp [F6]
def gW {E:Env}{k:Nat}{f:FuncId}{args:List c8}{st:H6}{v:c8}(lD:E.prom f=false)(hm:E.mode f=1)(hb:C5 args=0)
  (hc:E.cf f args [] an=some (v,[])):D0 E k f args st=some (put st k v):=by
 simp [D0,hb,IZ];have h0:F7 st.H E.lim.strict 0=0:=by rfl
 have h1:E.cf f args [] ⟨0,0,0,0⟩=some (v,[]):=hc
 grind [Z9]
def ta (ops:List o9):Bool:=ops.all fun i=> !i.op.B6&&i.cD.all fun e=>decide (e<ops.length)
end
theorem wrap_small {n:Int}(h: -9223372036854775808<=n)(h2:n<9223372036854775808):IntKind.wrap .i64 n=n:=by
 grind [IntKind.wrap,IntKind.signed,IntKind.bits]
section
variable {A:Prog} {l:H7} {b:Nat}
def x9.rdr:x9->Bool
 | .load _ _=>true
 | .lookup .. =>true
 |_=>false
def tX:List o9->Nat
 |[]=>0
 |i::is=>max (if i.op.rdr then (i.cD.map (·+1)).foldl max 0 else 0) (tX is)
theorem Oa {ρ:y5->c8}{H:p9}{op:x9}{v:c8}{rs:List Nat}(h:o6 ρ H op=some (v,rs))(hr:op.rdr=false):rs=[]:=by
 cases op<;>simp [x9.rdr] at hr<;>simp [o6] at h<;>repeat' split at h
 all_goals simp_all
theorem Ci {E:Env}{l5:List o9}{z7:Option Nat}{k:Nat}{i:o9}{st st' :H6}{rs:List Nat}(h:z6 E l5 z7 k i st=some (st',rs))(hr:i.op.rdr=false):rs=[]:=by
 simp [z6] at h;split at h
 .split at h
  .rename_i st1 rs1 h1
   split at h
   .simp [E2] at h1
    split at h1
    .grind
    grind [Option.some.injEq,Prod.mk.injEq,Oa]
   .cases h
  .cases h
 all_goals grind
theorem uv:∀ (l:List Nat) (a:Nat),a<=l.foldl max a
 |[],_=>n5 _
 |x::l,a=>F9 (Nat.le_max_left a x) (uv l (max a x))
theorem rS:∀ (l:List Nat) (a x:Nat),x ∈ l->x<=l.foldl max a
 |y::l,a,x,h=>by
  rcases B8.1 h with rfl|h
  .grind [F9,Nat.le_max_right,uv]
  .exact rS l _ x h
theorem Au:∀ {l5:List o9} {i:o9} {e:Nat},i ∈ l5->i.op.rdr=true->e ∈ i.cD->e<tX l5
 |j::l5,i,e,h,hr,he=>by
  simp only [tX]
  rcases B8.1 h with rfl|h
  .have:=rS (i.cD.map (·+1)) 0 (e+1) (L1.2 ⟨e,he,rfl⟩)
   rw [hr,if_pos rfl];omega
  .have:=Au h hr he
   omega
def Rx (A:Prog)(l:H7)(b:Nat)(dr:Bool)(l5 ops:List o9)(T:List c8)(H:p9)(pre:List c8)(p7:List Touch)(Q:List c8->p9->List c8->Prop):Prop :=
 ∃ r N,Q r.T r.H r.L/\∀ n,N<=n->if dr=true then ∀ na,∃ lg:List lZ,T3 (N9 A n l b) l5 ops pre.length na ⟨T,H,pre++c9 ops.length .any,p7⟩=some (r,lg)/\lg.length=ops.length/\∀ k e,lg[k]? =some e->(pre.length+k<tX l5->∀ rs,K0 e.JB rs=false)/\∀ i,ops[k]? =some i->i.op.rdr=false->e.reads=[]
  else fQ (N9 A n l b) l5 ops pre.length ⟨T,H,pre++c9 ops.length .any,p7⟩=some r
variable {dr:Bool} {l5 ops:List o9} {T:List c8} {H:p9} {pre:List c8} {p7:List Touch} {Q:List c8->p9->List c8->Prop}
def Rx.nil (h:Q T H pre):Rx A l b dr l5 [] T H pre p7 Q:=by
 refine ⟨⟨T,H,pre,p7⟩,0,h,fun n _=> ?_⟩;simp_all [fQ,T3]
def Rx.KY {i:o9}{T' pre' :List c8}{H' :p9}{v:c8}{gp :List Touch}{rs:List Nat}{N1:Nat}(hl:pre'.length=pre.length)
  (hk:I5 ⟨T,H,pre++ .any::c9 ops.length .any,p7⟩ i.op=false) (ha:i.op.B6=false)
  (h:∀ n,N1<=n->z6 (N9 A n l b) l5 none pre.length i ⟨T,H,pre++ .any::c9 ops.length .any,p7⟩=some (⟨T',H',pre' ++v::c9 ops.length .any,gp⟩,rs))
  (ht:pre.length<tX l5->∀ rs,K0 (gp.take (gp.length - p7.length)) rs=false) (h2:Rx A l b dr l5 ops T' H' (pre' ++[v]) gp Q):Rx A l b dr l5 (i::ops) T H pre p7 Q:=by
 obtain ⟨r,N,hq,h2⟩:=h2;refine ⟨r,max N N1,hq,fun n hn=> ?_⟩;have h3:=h2 n (by omega);have h4:=h n (by omega);cases dr with
 |false =>
  simp_all [j4,if_false,List.length_cons,List.replicate_succ,fQ]
 |true =>
  simp [List.length_cons,List.replicate_succ] at h3 ⊢;intro na;obtain ⟨lg,e1,e2,e3⟩:=h3 na;refine ⟨eO (N9 A n l b) i none ⟨T,H,pre++ .any::c9 ops.length .any,p7⟩ ⟨T',H',pre' ++v::c9 ops.length .any,gp⟩ rs::lg,?_,by simp [e2],?_⟩
  .simp_all [T3,kL,Bool.false_and,j4,if_false]
  .intro k e he
   cases k with
   |zero =>
    grind [List.getElem?_cons_zero,Option.some.injEq,eO,nY,Ci]
   |succ k =>
    grind
def Rx.stepG {i:o9}{T' pre' :List c8}{H' :p9}{v:c8}{gp :List Touch}{rs:List Nat}{N1:Nat}(hl:pre'.length=pre.length)
  (hk:I5 ⟨T,H,pre++ .any::c9 ops.length .any,p7⟩ i.op=false) (ha:i.op.B6=false)
  (h:∀ n,N1<=n->z6 (N9 A n l b) l5 none pre.length i ⟨T,H,pre++ .any::c9 ops.length .any,p7⟩=some (⟨T',H',pre' ++v::c9 ops.length .any,gp⟩,rs))
  (ht:∀ rs,K0 (gp.take (gp.length - p7.length)) rs=false) (h2:Rx A l b dr l5 ops T' H' (pre' ++[v]) gp Q):Rx A l b dr l5 (i::ops) T H pre p7 Q :=
 Rx.KY hl hk ha h (fun _=>ht) h2
def Rx.step {i:o9}{T' :List c8}{H' :p9}{v:c8}{gp :List Touch}{rs:List Nat}{N1:Nat}(hk:I5 ⟨T,H,pre++ .any::c9 ops.length .any,p7⟩ i.op=false)(ha:i.op.B6=false)
  (h:∀ n,N1<=n->z6 (N9 A n l b) l5 none pre.length i ⟨T,H,pre++ .any::c9 ops.length .any,p7⟩=some (⟨T',H',pre++v::c9 ops.length .any,gp⟩,rs))
  (ht:∀ rs,K0 (gp.take (gp.length - p7.length)) rs=false) (h2:Rx A l b dr l5 ops T' H' (pre++[v]) gp Q):Rx A l b dr l5 (i::ops) T H pre p7 Q :=
 Rx.stepG rfl hk ha h ht h2
def opv (T pre:List c8):y5->Option c8
 | .slot s=>T[s]?
 | .loc j=>pre[j]?
 | .const v=>some v
def Op (T pre:List c8)(x:y5)(v:c8):Prop:=opv T pre x=some v/\v.J3=v
theorem Op.J2 {x:y5}{v:c8}(h:Op T pre x v)(m:Nat):J2 T (pre++ .any::c9 m .any) x=v:=by
 obtain ⟨h1,h2⟩:=h;cases x with
 |slot s=>simp_all [opv,A2.J2]
 |loc j =>
  grind [opv,A5,List.getElem?_eq_none,A2.J2,A8]
 |const u=>simp_all [opv,Option.some.injEq,A2.J2,Vi]
theorem M1 (pre:List c8)(a v:c8)(r:List c8):(pre++a::r).set pre.length v=pre++v::r:=by
 simp
def Rx.pure {op:x9}{u:List Nat}{v:c8}{rs:List Nat}(hE:op.D9=false)(hp:∀ m,o6 (A2.J2 T (pre++ .any::c9 m .any)) H op=some (v,rs))
  (h2:Rx A l b dr l5 ops T H (pre++[v]) p7 Q):Rx A l b dr l5 (⟨op,none,none,u⟩::ops) T H pre p7 Q:=by
 have hm:∀ x,op≠ .Q5 x:=by
  rintro x rfl;simp_all [o6]
 refine Rx.step (N1:=0) (rs:=rs) ?_ ?_ ?_ ?_ h2
 .cases op<;>first|rfl|grind [x9.D9]
 .cases op<;>first|rfl|(simp [x9.D9] at hE)|skip
  rename_i ob;cases ob
  .rfl
  simp_all
 .intro n _
  have h3:E2 (N9 A n l b) l5 none pre.length op ⟨T,H,pre++ .any::c9 ops.length .any,p7⟩=some (⟨T,H,pre++v::c9 ops.length .any,p7⟩,rs):=by
   simp_all [absurd,E2,j4,if_false,put,M1,x9.D9]
  grind [z6,z8,y4,G5]
 simp_all [K0]
theorem Op.D8 {x:y5}{v:c8}(h:Op T pre x v)(m:Nat):A2.D8 ⟨T,H,pre++ .any::c9 m .any,p7⟩ x=(v,⟨T,H,pre++ .any::c9 m .any,p7⟩):=by
 have hr:=h.J2 m;cases x with
 |slot s=>grind [A2.D8]
 |loc j =>
  obtain ⟨h1,h2⟩:=h
  grind [opv,A5,List.getElem?_eq_none,A2.D8,A8,c8.J3]
 |const u =>
  obtain ⟨h1,h2⟩:=h;simp [opv,Option.some.injEq] at h1;subst h1;rfl
theorem Rx.Q5 {x:y5}{u:List Nat}{v:c8}(hx:Op T pre x v)(h2:Rx A l b dr l5 ops T H (pre++[v]) p7 Q):Rx A l b dr l5 (⟨.Q5 x,none,none,u⟩::ops) T H pre p7 Q:=by
 refine Rx.step (N1:=0) (rs:=[]) rfl rfl (fun n _=> ?_) (fun rs=>by simp [K0]) h2;simp [z6,z8,E2,x9.D9,j4,if_false,hx.D8,put,M1,y4,G5]
def Rx.aU4 {x:y5}{u:List Nat}{v:c8}{s:Nat}(hx:Op T pre x v)(hs:T[s]?.isSome=true)(h2:Rx A l b dr l5 ops (T.set s v) H (pre++[v]) (.slot s::p7) Q) :
  Rx A l b dr l5 (⟨.Q5 x,some s,none,u⟩::ops) T H pre p7 Q:=by
 refine Rx.step (N1:=0) (rs:=[]) rfl rfl (fun n _=> ?_) (fun rs=> ?_) h2
 .have hv:=hx.2
  have hs:s<T.length:=by
   simp_all
  simp only [z6,z8,E2,x9.D9,j4,if_false,hx.D8,put,M1,y4,G5,hs,if_true];have h3:A2.D8 ⟨T,H,pre++v::c9 ops.length .any,p7⟩ (.loc pre.length)=(v,⟨T,H,pre++v::c9 ops.length .any,p7⟩):=by
   grind [A2.D8,c8.J3,A2.J2]
  rw [h3]
 simp_all [K0,Touch.L4]
def Rx.aC9 {s:Nat}{u:List Nat}{z n:Nat}{cs:List Data}(hx:T[s]? =some (.own z n cs))(h2:Rx A l b dr l5 ops T H (pre++[.d (.slice n cs)]) p7 Q):Rx A l b dr l5 (⟨.Q5 (.slot s),none,none,u⟩::ops) T H pre p7 Q:=by
 refine Rx.step (N1:=0) (rs:=[]) rfl rfl (fun n _=> ?_) (fun rs=>by simp [K0]) h2;simp_all [z6,z8,E2,x9.D9,j4,if_false,A2.D8,put,M1,y4,G5,A2.J2,c8.J3]
def eV (s:Nat)(p7:List Touch)(rs:List Nat):K0 ((Touch.slot s::p7).take ((Touch.slot s::p7).length - p7.length)) rs=false:=by
 simp_all [K0,Touch.L4]
theorem Rx.append {j s sz bytes:Nat}{y:y5}{u u' :List Nat}{d' :Option Nat}{g' :Option (Nat×Bool)}{n' len m:Nat}{cs' cells new:List Data}{vy:c8}{cs:List c8}
  (hj:pre[j]? =some (.d (.slice n' cs'))) (ha:l5[j]? =some ⟨.Q5 (.slot s),d',g',u'⟩) (ht:p7.any (Touch.U9 s)=false) (hT:T[s]? =some (.own sz len cells))
  (hy:∀ m,A2.J2 T (pre++ .any::c9 m .any) y=vy) (hc:O7 H sz vy=some (m,cs)) (hd:O0 cs=some new) (hr:roomFor (len+m) bytes=true) (h0:0<sz)
  (h2:Rx A l b dr l5 ops (T.set s (.d (.slice len cells))) H (pre++[.own sz (len+m) (cells++new)]) (.slot s::p7) Q):Rx A l b dr l5 (⟨.append sz bytes false (.loc j) y,none,none,u⟩::ops) T H pre p7 Q:=by
 have hjl:j<pre.length:=by
  grind
 have hL:∀ r:List c8,(pre++ .any::r)[j]? =some (.d (.slice n' cs')):=fun r=>by grind
 have ay7:A2.J2 T (pre++ .any::c9 ops.length .any) (.loc j)= .d (.slice n' cs'):=by simp [A2.J2,hL,c8.J3]
 refine Rx.step (N1:=0) (rs:=[]) (by simp_all [I5]) rfl (fun n _=> ?_) (eV s p7) h2;simp_all [z6,z8,E2,x9.D9,F3,O4,Q3,X5,put,y4,G5]<;>grind
def Rx.Wv {j s:Nat}{u:List Nat}{z n0:Nat}{cs:List Data}(hj:pre[j]? =some (.own z n0 cs))(hs:T[s]?.isSome=true)
  (h2:Rx A l b dr l5 ops (T.set s (.own z n0 cs)) H (pre.set j (.d (.slice n0 cs))++[.d (.slice n0 cs)]) (.slot s::p7) Q):Rx A l b dr l5 (⟨.Q5 (.loc j),some s,none,u⟩::ops) T H pre p7 Q:=by
 have hjl:j<pre.length:=by
  grind
 have hs:s<T.length:=by
  simp_all
 refine Rx.stepG (N1:=0) (rs:=[]) (by simp) rfl rfl (fun n _=> ?_) (eV s p7) h2;have hL:∀ r:List c8,(pre++ .any::r)[j]? =some (.own z n0 cs):=fun r=>by grind
 have h4:∀ (a v:c8) (r:List c8),(pre.set j (.d (.slice n0 cs))++a::r).set pre.length v=pre.set j (.d (.slice n0 cs))++v::r:=fun a v r=>by simp_all
 simp_all [z6,z8,E2,x9.D9,j4,if_false,A2.D8,put,y4,G5,if_true]
def Rn.ag1 {T:List c8}{H:p9}(h:Rx A l b false ops ops T H [] [] Q):Rn A l b ops false T H Q:=by
 obtain ⟨r,N,hq,h⟩:=h;exact ⟨r,N,hq,fun n hn=>by simp_all [S2]⟩
def Rn.ag0 {T:List c8}{H:p9}(hp:ta ops=true)(h:Rx A l b true ops ops T H [] [] Q):Rn A l b ops true T H Q:=by
 obtain ⟨r,N,hq,h⟩:=h;refine ⟨r,N,hq,fun n hn=> ?_⟩;have h1:=h n hn;obtain ⟨lg,e1,e2,e3⟩:=h1 H.length;simp only [ta,Q2,Bool.and_eq_true,Bool.not_eq_true',decide_eq_true_eq] at hp;have ya:aN ops=[]:=by
  simp_all [aN,List.map_eq_nil_iff,List.filter_eq_nil_iff,Bool.not_eq_true]
 have tQ:slotsOf ops=[]:=by
  simp_all [slotsOf,List.filterMap_eq_nil_iff]
 have bw8:ym ops lg=true:=by
  simp only [ym,Q2];rintro ⟨i,le⟩ DG e he;obtain ⟨j,hj,hji⟩:=List.getElem_of_mem DG;simp [List.length_zip] at hj;have hj1:j<ops.length:=by omega
  have hj2:j<lg.length:=by omega
  simp [List.getElem_zip] at hji;obtain ⟨rfl,rfl⟩:=hji;have hi:ops[j] ∈ ops:=List.getElem_mem hj1;have hlt:=(hp _ hi).2 e he;have this:e<lg.length:=by omega
  have hmk:ops[j].op.makes=false:=by
   have:=(hp _ hi).1;cases ho:ops[j].op<;>rw [ho] at this<;>first|rfl|exact this
  cases hr:ops[j].op.rdr with
  |true =>
   have h5:=(e3 e _ (n9 this)).1 (by simpa using Au hi hr he);simp_all
  |false =>
   have h5:=(e3 j _ (n9 hj2)).2 _ (n9 hj1) hr
   grind [K0]
 simp_all [List.length_nil,List.nil_append,S2,if_true,List.append_nil]
theorem Rx.call {f:FuncId}{xs:List y5}{u:List Nat}{v:c8}{args:List c8}(lD:A.prom f=false)(hm:A.mode f=1)(ha:∀ m,xs.map (A2.J2 T (pre++ .any::c9 m .any))=args)
  (hb:C5 args=0) (hc:Pf A f args v) (h2:Rx A l b dr l5 ops T H (pre++[v]) p7 Q):Rx A l b dr l5 (⟨.call f xs,none,none,u⟩::ops) T H pre p7 Q:=by
 obtain ⟨M,hc⟩:=hc;refine Rx.step (N1:=M) (rs:=[]) rfl rfl (fun n hn=> ?_) (fun rs=>by simp [K0]) h2;have h3:D0 (N9 A n l b) pre.length f args ⟨T,H,pre++ .any::c9 ops.length .any,p7⟩=some (put ⟨T,H,pre++ .any::c9 ops.length .any,p7⟩ pre.length v) :=
  gW lD hm hb (hc n hn)
 simp_all [z6,z8,E2,x9.D9,if_true,F3,y4,G5,put,M1]
def OT {o:BinOp}{c d e:Int}(h:o= .add/\c+d=e\/o= .sub/\c - d=e)(h0: -9223372036854775808<=e)(h1:e<9223372036854775808):P4 o (.int .i64 c) (.int .i64 d)=some (.int .i64 e):=by
 grind [P4,ak,cq,wrap_small]
end
abbrev K4:=List UInt8
def B0 {α:Type}(f:α->List Data)(l:List α):Data:= .slice l.length (l.flatMap f)
def num (n:Int):Data:= .int .i64 n
structure X0 where
 op:Int
 kind:Int
 int:Int
 text:K4
 col:Int
def X0.enc (t:X0):List Data:=[num t.op,num t.kind,num t.int,.str t.text,num t.col]
structure ek where
 name:K4
 type:Int
 space:K4
 refs:K4
 J8:List Int
 iZ:Int
 nK:Int
def ek.enc (c:ek):List Data:=[.str c.name,num c.type,.str c.space,.str c.refs,B0 (fun n=>[num n]) c.J8,num c.iZ,num c.nK]
structure jj where
 name:K4
 q7:List ek
 erase:Int
 bW:Int
def jj.enc (t:jj):List Data:=[.str t.name,B0 ek.enc t.q7,num t.erase,num t.bW]
structure OK where
 name:K4
 expr:List X0
def OK.enc (x:OK):List Data:=[.str x.name,B0 X0.enc x.expr]
structure Io where
 name:K4
 func:Int
 expr:List X0
def Io.enc (x:Io):List Data:=[.str x.name,num x.func,B0 X0.enc x.expr]
structure Vw where
 name:K4
 kind:Int
 left:K4
 right:K4
 on:List (Int×Int)
 wh:List X0
 items:List OK
 distinct:Bool
 D5:List Io
def Vw.enc (v:Vw):List Data:=[.str v.name,num v.kind,.str v.left,.str v.right,B0 (fun p=>[num p.1,num p.2]) v.on,B0 X0.enc v.wh,B0 OK.enc v.items,.bool v.distinct,B0 Io.enc v.D5]
structure oy where
 name:K4
 source:K4
 col:Int
def oy.enc (x:oy):List Data:=[.str x.name,.str x.source,num x.col]
structure nC where
 name:K4
 source:K4
 col:Int
 kind:Int
 width:Int
 depth:Int
def nC.enc (x:nC):List Data:=[.str x.name,.str x.source,num x.col,num x.kind,num x.width,num x.depth]
structure qL where
 name:K4
 source:K4
 col:Int
 ttl:Int
def qL.enc (x:qL):List Data:=[.str x.name,.str x.source,num x.col,num x.ttl]
structure oT where
 name:K4
 source:K4
 thr:Int
def oT.enc (x:oT):List Data:=[.str x.name,.str x.source,num x.thr]
structure tP where
 name:K4
 table:K4
def tP.enc (x:tP):List Data:=[.str x.name,.str x.table]
structure tN where
 name:K4
 tables:List K4
 keep:Int
def tN.enc (x:tN):List Data:=[.str x.name,B0 (fun s=>[.str s]) x.tables,num x.keep]
structure r9 where
 j9:List jj
 views:List Vw
 idxs:List oy
 M3:List nC
 N5:List qL
 R3:List oT
 S0:List tP
 V3:List tN
def r9.enc (c:r9):List Data:=[B0 jj.enc c.j9,B0 Vw.enc c.views,B0 oy.enc c.idxs,B0 nC.enc c.M3,B0 qL.enc c.N5,B0 oT.enc c.R3,B0 tP.enc c.S0,B0 tN.enc c.V3]
def ctI:CT:= .int .i64
def zD (n:Int):Prop:= -9223372036854775808<=n/\n<9223372036854775808
def Ns {α:Type}{e:List CT}{enc:α->List Data}{ok:α->Prop}(hr:∀ r,Z8 e r->∃ a,r=enc a/\ok a){d:Data}(h:Fits (.slice e) d) :
  ∃ l:List α,d=B0 enc l/\l.length<=maxLen/\∀ a,a ∈ l->ok a:=by
 obtain ⟨rows,rfl,hl,hall⟩:=h;have:∀ rows:List (List Data),(∀ r,r ∈ rows->Z8 e r)->∃ l:List α,l.length=rows.length/\rows.flatten=l.flatMap enc/\∀ a,a ∈ l->ok a:=by
  intro rows
  induction rows with
  |nil=>simp_all
  |cons r rs ih =>
   intro h;obtain ⟨a,ha,hok⟩:=hr r (h r (by simp));obtain ⟨l,h1,h2,h3⟩:=ih (fun r hr' =>h r (by simp [hr']));refine ⟨a::l,by simp [h1],by simp [h2,ha],?_⟩;simp_all
 obtain ⟨l,h1,h2,h3⟩:=this rows hall
 grind [B0]
def VB {d:Data}(h:Fits ctI d):∃ n,d=num n/\zD n:=by
 obtain ⟨n,rfl,hw⟩:=h;refine ⟨n,rfl,?_⟩;simp [Lit.wf] at hw;have hm:IntKind.i64.min= -9223372036854775808:=rfl
 grind [zD]
structure X0.ok (x:X0):Prop where
 op:zD x.op
 kind:zD x.kind
 int:zD x.int
 text:x.text.length<=maxLen
 col:zD x.col
structure ek.ok (x:ek):Prop where
 name:x.name.length<=maxLen
 type:zD x.type
 space:x.space.length<=maxLen
 refs:x.refs.length<=maxLen
 J8:x.J8.length<=maxLen/\∀ a,a ∈ x.J8->zD a
 iZ:zD x.iZ
 nK:zD x.nK
structure jj.ok (x:jj):Prop where
 name:x.name.length<=maxLen
 q7:x.q7.length<=maxLen/\∀ a,a ∈ x.q7->a.ok
 erase:zD x.erase
 bW:zD x.bW
structure OK.ok (x:OK):Prop where
 name:x.name.length<=maxLen
 expr:x.expr.length<=maxLen/\∀ a,a ∈ x.expr->a.ok
structure Io.ok (x:Io):Prop where
 name:x.name.length<=maxLen
 func:zD x.func
 expr:x.expr.length<=maxLen/\∀ a,a ∈ x.expr->a.ok
structure Vw.ok (x:Vw):Prop where
 name:x.name.length<=maxLen
 kind:zD x.kind
 left:x.left.length<=maxLen
 right:x.right.length<=maxLen
 on:x.on.length<=maxLen/\∀ a,a ∈ x.on->zD a.1/\zD a.2
 wh:x.wh.length<=maxLen/\∀ a,a ∈ x.wh->a.ok
 items:x.items.length<=maxLen/\∀ a,a ∈ x.items->a.ok
 distinct:True
 D5:x.D5.length<=maxLen/\∀ a,a ∈ x.D5->a.ok
structure oy.ok (x:oy):Prop where
 name:x.name.length<=maxLen
 source:x.source.length<=maxLen
 col:zD x.col
structure nC.ok (x:nC):Prop where
 name:x.name.length<=maxLen
 source:x.source.length<=maxLen
 col:zD x.col
 kind:zD x.kind
 width:zD x.width
 depth:zD x.depth
structure qL.ok (x:qL):Prop where
 name:x.name.length<=maxLen
 source:x.source.length<=maxLen
 col:zD x.col
 ttl:zD x.ttl
structure oT.ok (x:oT):Prop where
 name:x.name.length<=maxLen
 source:x.source.length<=maxLen
 thr:zD x.thr
structure tP.ok (x:tP):Prop where
 name:x.name.length<=maxLen
 table:x.table.length<=maxLen
structure tN.ok (x:tN):Prop where
 name:x.name.length<=maxLen
 tables:x.tables.length<=maxLen/\∀ a,a ∈ x.tables->a.length<=maxLen
 keep:zD x.keep
structure r9.ok (x:r9):Prop where
 j9:x.j9.length<=maxLen/\∀ a,a ∈ x.j9->a.ok
 views:x.views.length<=maxLen/\∀ a,a ∈ x.views->a.ok
 idxs:x.idxs.length<=maxLen/\∀ a,a ∈ x.idxs->a.ok
 M3:x.M3.length<=maxLen/\∀ a,a ∈ x.M3->a.ok
 N5:x.N5.length<=maxLen/\∀ a,a ∈ x.N5->a.ok
 R3:x.R3.length<=maxLen/\∀ a,a ∈ x.R3->a.ok
 S0:x.S0.length<=maxLen/\∀ a,a ∈ x.S0->a.ok
 V3:x.V3.length<=maxLen/\∀ a,a ∈ x.V3->a.ok
section
variable {A:Prog} {l:H7} {b:Nat}
variable {dr:Bool} {l5 ops:List o9} {T:List c8} {H:p9} {pre:List c8} {p7:List Touch} {Q:List c8->p9->List c8->Prop}
theorem wW {j:Nat}{v:c8}(h:pre[j]? =some v)(r:List c8):(pre++r)[j]? =some v:=by
 grind
def Rx.aj1 {op:x9}{j:Nat}{want w:Bool}{u:List Nat}(h:pre[j]? =some (.d (.bool w)))(hw:(w==want)=false)(hk:I5 ⟨T,H,pre++ .any::c9 ops.length .any,p7⟩ op=false)(ha:op.B6=false)
  (h2:Rx A l b dr l5 ops T H (pre++[.tuple []]) p7 Q):Rx A l b dr l5 (⟨op,none,some (j,want),u⟩::ops) T H pre p7 Q:=by
 refine Rx.step (N1:=0) (rs:=[]) hk ha (fun n _=> ?_) (fun rs=>by simp [K0]) h2
 grind [z6,z8,wW,put,M1,y4,G5]
theorem Ec {mask:List Bool}{strict n:Nat}(h:H.length=n):clean mask strict n ⟨T,H⟩=⟨X1 mask T,H⟩:=by
 grind [clean]
def HV {E:Env}{z7:Option Nat}{k j:Nat}{op:x9}{dst:Option Nat}{want w:Bool}{u:List Nat}{st:H6}(h:st.L[j]? =some (.d (.bool w)))(hw:(w==want)=true) :
  z6 E l5 z7 k ⟨op,dst,some (j,want),u⟩ st=z6 E l5 z7 k ⟨op,dst,none,u⟩ st:=by
 simp_all [z6,z8]
def Rx.wanted {op:x9}{dst:Option Nat}{j:Nat}{want w:Bool}{u:List Nat}(h:pre[j]? =some (.d (.bool w)))(hw:(w==want)=true)
  (h2:Rx A l b dr l5 (⟨op,dst,none,u⟩::ops) T H pre p7 Q):Rx A l b dr l5 (⟨op,dst,some (j,want),u⟩::ops) T H pre p7 Q:=by
 obtain ⟨r,N,hq,hr⟩:=h2;refine ⟨r,N,hq,fun n hn=> ?_⟩;have h3:=hr n hn;have h4:∀ E z7,z6 E l5 z7 pre.length ⟨op,dst,some (j,want),u⟩ ⟨T,H,pre++c9 (ops.length+1) .any,p7⟩=z6 E l5 z7 pre.length ⟨op,dst,none,u⟩ ⟨T,H,pre++c9 (ops.length+1) .any,p7⟩ :=
  fun E z7=>HV (wW h _) hw
 cases dr with
 |false =>
  simp_all [j4,if_false,List.length_cons,fQ]
 |true =>
  simp [List.length_cons,T3,kL] at h3 ⊢;intro na;rw [h4];obtain ⟨lg,e1,e2,e3⟩:=h3 na;refine ⟨lg,e1,e2,fun k e he=>⟨(e3 k e he).1,fun i hi hr=> ?_⟩⟩
  grind
def Rx.stepT {i:o9}{T' pre' :List c8}{H' :p9}{v:c8}{gp :List Touch}{rs:List Nat}{N1:Nat}(hl:pre'.length=pre.length)
  (h:∀ n,N1<=n->z6 (N9 A n l b) l5 none pre.length i ⟨T,H,pre++ .any::c9 ops.length .any,p7⟩=some (⟨T',H',pre' ++v::c9 ops.length .any,gp⟩,rs))
  (h2:Rx A l b false l5 ops T' H' (pre' ++[v]) gp Q):Rx A l b false l5 (i::ops) T H pre p7 Q:=by
 obtain ⟨r,N,hq,h2⟩:=h2;refine ⟨r,max N N1,hq,fun n hn=> ?_⟩
 grind [fQ]
def Rx.aN9 {x:y5}{u:List Nat}{v:c8}{cs:List c8}{s:Nat}(hx:Op T pre x v)(hc:v.cells? =some cs)(hs:T[s]?.isSome=true)
  (h2:Rx A l b false l5 ops (T.set s (.ptr H.length 0)) (H++[.cells cs]) (pre++[.ptr H.length 0]) (.slot s::p7) Q):Rx A l b false l5 (⟨.box x,some s,none,u⟩::ops) T H pre p7 Q:=by
 have hs:s<T.length:=by
  simp_all
 refine Rx.stepT (N1:=0) (rs:=[]) rfl (fun n _=> ?_) h2;have h3:∀ r:List c8,(pre++ .ptr H.length 0::r)[pre.length]? =some (.ptr H.length 0):=fun r=>by simp
 simp [z6,z8,E2,x9.D9,if_true,F3,hx.J2,hc,M4,newId,put,y4,G5,hs,A2.D8];simp [A2.J2,c8.J3]
def Rx.aV6 {s z n0:Nat}{cs:List Data}{u:List Nat}(hs:T[s]?.isSome=true)(h2:Rx A l b dr l5 ops (T.set s (.own z n0 cs)) H (pre++[.d (.slice n0 cs)]) (.slot s::p7) Q) :
  Rx A l b dr l5 (⟨.Q5 (.const (.own z n0 cs)),some s,none,u⟩::ops) T H pre p7 Q:=by
 have hs:s<T.length:=by
  simp_all
 refine Rx.step (N1:=0) (rs:=[]) rfl rfl (fun n _=> ?_) (eV s p7) h2;simp_all [z6,z8,E2,x9.D9,j4,if_false,A2.D8,put,M1,y4,G5,if_true]
def Ex.I7 {mask:List Bool}{body:q6}{R:G7->St->Prop}(Inv:Nat->List c8->p9->Prop)(hl:∀ k T' H',Inv k T' H' ->H'.length=H.length)
  (hb:∀ k T' H',Inv k T' H' ->Ex A l b body ⟨X1 mask T',H'⟩ (Bf R fun s=>∃ k',k' <k/\Inv k' s.T s.H)) {k:Nat} (h:Inv k T H):Ex A l b (.loop mask body) ⟨T,H⟩ R:=by
 refine Ex.loop (fun k s=>Inv k s.T s.H) (fun k s hs=> ?_) (k:=k) h;obtain ⟨T',H'⟩:=s
 grind [Ec]
end
theorem nN {α:Type}{enc:α->List Data}{sz:Nat}(hs:∀ a,(enc a).length=sz):∀ (l:List α) (i:Nat) (h:i<l.length),(l.flatMap enc).drop (i * sz)=enc l[i]++(l.drop (i+1)).flatMap enc
 |a::l,0,h=>by simp
 |a::l,i+1,h=>by
  have h1:=nN hs l i (by simpa using h);rw [List.flatMap_cons,Nat.succ_mul,Nat.add_comm,<- List.drop_drop];rw [show (enc a++l.flatMap enc).drop sz=l.flatMap enc by rw [<- hs a,List.drop_left]];simpa using h1
def Vq {α:Type}{enc:α->List Data}{sz:Nat}(hs:∀ a,(enc a).length=sz)(l:List α)(i:Nat)(h:i<l.length) :
  (l.flatMap enc).drop ((i:Int).toNat * sz)=enc l[i]++(l.drop (i+1)).flatMap enc:=by
 rw [P0];exact nN hs l i h
def r9.names (c:r9):List K4:=c.j9.map jj.name++c.views.map Vw.name++c.idxs.map oy.name++c.M3.map nC.name++c.N5.map qL.name++c.R3.map oT.name++c.S0.map tP.name++c.V3.map tN.name
def cat (c:r9):c8:= .agg (c.enc.map .d)
def r9.oB (c:r9):Prop:=c.j9.length<=1000/\c.views.length<=1000/\c.idxs.length<=1000/\c.M3.length<=1000/\c.N5.length<=1000/\c.R3.length<=1000/\c.S0.length<=1000/\c.V3.length<=1000
def kz {α:Type}(a b:Option α):Prop:=∀ r,a=some r->b=some r
theorem kz.refl {α:Type}(a:Option α):kz a a:=fun _ h=>h
def kz.no {α:Type}(b:Option α):kz none b:=fun _ h=>by cases h
def LeC (c c' :tU):Prop:=∀ f args H l,kz (c f args H l) (c' f args H l)
section
variable {cf Uy :tU} (hc:LeC cf Uy) {p:FuncId->Bool} {md:FuncId->Nat} {tR:FuncId->Bool} {l:H7} {e:Nat}
include hc
def Az (k:Nat)(f:FuncId)(args:List c8)(st:H6):kz (D0 ⟨cf,p,md,tR,l,e⟩ k f args st) (D0 ⟨Uy,p,md,tR,l,e⟩ k f args st):=by
 unfold D0;simp only;split
 .cases h:cf f args st.H l with
  |none=>exact kz.no _
  |some r=>rw [hc _ _ _ _ _ h];exact kz.refl _
 .split
  .split
   .cases h:cf f args (List.take (F6 st.H l.strict 8 (C5 args)) st.H) { l with base:=F6 st.H l.strict 8 (C5 args),strict:=F7 st.H l.strict (F6 st.H l.strict 8 (C5 args)) } with
    |none=>exact kz.no _
    |some r=>rw [hc _ _ _ _ _ h];exact kz.refl _
   .cases h:cf f args (List.take (F6 st.H l.strict 8 (C5 args)) st.H) ⟨0,F6 st.H l.strict 8 (C5 args),F6 st.H l.strict 8 (C5 args),F7 st.H l.strict (F6 st.H l.strict 8 (C5 args))⟩ with
    |none=>exact kz.no _
    |some r=>rw [hc _ _ _ _ _ h];exact kz.refl _
   .cases h:cf f args (List.take (F6 st.H l.strict 8 (C5 args)) st.H) (l.pG (args.headD .any).O5 (F6 st.H l.strict 8 (C5 args)) (F6 st.H l.strict 8 (C5 args)) (F7 st.H l.strict (F6 st.H l.strict 8 (C5 args)))) with
    |none=>exact kz.no _
    |some r=>rw [hc _ _ _ _ _ h];exact kz.refl _
  .exact kz.no _
def Vo (l5:List o9)(z7:Option Nat)(k:Nat)(st:H6)(op:x9):kz (F3 ⟨cf,p,md,tR,l,e⟩ l5 z7 k st op) (F3 ⟨Uy,p,md,tR,l,e⟩ l5 z7 k st op):=by
 cases op
 case call f xs=>exact Az hc k f _ st
 case F5 sz len z ps b=>cases b<;>exact kz.refl _
 case aO x xs =>
  simp [F3];split
  all_goals simp_all [Az,kz.no]
 all_goals exact kz.refl _
def Yb (l5:List o9)(z7:Option Nat)(k:Nat)(op:x9)(st:H6):kz (E2 ⟨cf,p,md,tR,l,e⟩ l5 z7 k op st) (E2 ⟨Uy,p,md,tR,l,e⟩ l5 z7 k op st):=by
 unfold E2;split
 .intro r hr
  cases hx:F3 ⟨cf,p,md,tR,l,e⟩ l5 z7 k st op with
  |none=>simp_all
  |some x =>
   rw [hx] at hr;rw [Vo hc l5 z7 k st op _ hx];exact hr
 .exact kz.refl _
def KX (l5:List o9)(z7:Option Nat)(k:Nat)(i:o9)(st:H6):kz (z6 ⟨cf,p,md,tR,l,e⟩ l5 z7 k i st) (z6 ⟨Uy,p,md,tR,l,e⟩ l5 z7 k i st):=by
 unfold z6;split
 .intro r hr
  cases hx:E2 ⟨cf,p,md,tR,l,e⟩ l5 z7 k i.op st with
  |none=>simp_all
  |some x =>
   rw [hx] at hr;rw [Yb hc l5 z7 k i.op st _ hx];exact hr
 all_goals simp_all [kz.refl]
theorem EO (l5:List o9):∀ (is:List o9) (k:Nat) (st:H6),kz (fQ ⟨cf,p,md,tR,l,e⟩ l5 is k st) (fQ ⟨Uy,p,md,tR,l,e⟩ l5 is k st)
 |[],_,_=>kz.refl _
 |i::is,k,st=>by
  unfold fQ;intro r hr;cases hx:z6 ⟨cf,p,md,tR,l,e⟩ l5 none k i st with
  |none=>simp_all
  |some x =>
   rw [hx] at hr;rw [KX hc l5 none k i st _ hx];exact EO l5 is (k+1) x.1 r hr
def Ya (l5:List o9)(z7:Option Nat)(k:Nat)(i:o9)(st:H6):kz (kL ⟨cf,p,md,tR,l,e⟩ l5 z7 k i st) (kL ⟨Uy,p,md,tR,l,e⟩ l5 z7 k i st):=by
 unfold kL;split
 .exact kz.refl _
 .intro r hr
  cases hx:z6 ⟨cf,p,md,tR,l,e⟩ l5 z7 k i st with
  |none=>simp_all
  |some x =>
   rw [hx] at hr;rw [KX hc l5 z7 k i st _ hx];exact hr
theorem BN (l5:List o9):∀ (is:List o9) (k na:Nat) (st:H6),kz (T3 ⟨cf,p,md,tR,l,e⟩ l5 is k na st) (T3 ⟨Uy,p,md,tR,l,e⟩ l5 is k na st)
 |[],_,_,_=>kz.refl _
 |i::is,k,na,st=>by
  unfold T3;intro r hr;cases hx:kL ⟨cf,p,md,tR,l,e⟩ l5 (if i.op.B6 then some na else none) k i st with
  |none=>simp_all
  |some x =>
   rw [hx] at hr;rw [Ya hc l5 _ k i st _ hx];simp at hr ⊢;cases hy:T3 ⟨cf,p,md,tR,l,e⟩ l5 is (k+1) (if i.op.B6 then na+1 else na) x.1 with
   |none=>simp_all
   |some y =>
    rw [hy] at hr;rw [BN l5 is (k+1) _ x.1 _ hy];exact hr
def uK (l5:List o9)(draw:Bool)(T:List c8)(H:p9):kz (S2 ⟨cf,p,md,tR,l,e⟩ l5 draw T H) (S2 ⟨Uy,p,md,tR,l,e⟩ l5 draw T H):=by
 unfold S2;split
 .intro r hr
  cases hx:T3 ⟨cf,p,md,tR,l,e⟩ l5 l5 0 H.length ⟨T,H++aN l5,c9 l5.length .any,slotsOf l5⟩ with
  |none=>simp_all
  |some x =>
   rw [hx] at hr;rw [BN hc l5 l5 0 _ _ _ hx];exact hr
 simp_all [EO]
end
theorem JV {body body' :St->Option (G7×St)}(hb:∀ st,kz (body st) (body' st))(mask:List Bool)(strict n:Nat):∀ (k k' :Nat) (_:k<=k') (st:St),kz (iE body mask strict n k st) (iE body' mask strict n k' st)
 |0,_,_,_=>kz.no _
 |k+1,0,h,_=>by omega
 |k+1,k' +1,h,st=>by
  unfold iE;intro r hr;cases hx:body (clean mask strict n st) with
  |none=>simp_all
  |some x =>
   rw [hx] at hr;rw [hb _ _ hx];obtain ⟨x1,x2⟩:=x;cases x1 with
   |normal=>exact JV hb mask strict n k k' (by omega) x2 r hr
   |exit i=>exact hr
   |ret=>exact hr
theorem hU {cf Uy :tU}(hc:LeC cf Uy){p:FuncId->Bool}{md:FuncId->Nat}{tR:FuncId->Bool}{l:H7}{e n n' :Nat}(hn:n<=n'):∀ (c:q6) (st:St),kz (exec ⟨cf,p,md,tR,l,e⟩ n c st) (exec ⟨Uy,p,md,tR,l,e⟩ n' c st)
 | .skip,_=>kz.refl _
 | .exit _,_=>kz.refl _
 | .ret,_=>kz.refl _
 | .bad,_=>kz.refl _
 | .fz _,_=>kz.refl _
 | .region ops draw,st=>by
  unfold exec;intro r hr;cases hx:S2 ⟨cf,p,md,tR,l,e⟩ ops draw st.T st.H with
  |none=>simp_all
  |some x =>
   rw [hx] at hr;rw [uK hc ops draw st.T st.H _ hx];exact hr
 | .seq a b,st=>by
  unfold exec;intro r hr;cases hx:exec ⟨cf,p,md,tR,l,e⟩ n a st with
  |none=>simp_all
  |some x =>
   rw [hx] at hr;rw [hU hc hn a st _ hx];obtain ⟨x1,x2⟩:=x;cases x1 with
   |normal=>exact hU hc hn b x2 r hr
   |exit i=>exact hr
   |ret=>exact hr
 | .cond c a b,st=>by
  unfold exec;split
  .exact hU hc hn a st
  .exact hU hc hn b st
  .exact kz.refl _
 | .test ops draw c a b,st=>by
  unfold exec;intro r hr;cases hx:S2 ⟨cf,p,md,tR,l,e⟩ ops draw st.T st.H with
  |none=>simp_all
  |some x =>
   rw [hx] at hr;rw [uK hc ops draw st.T st.H _ hx];simp at hr ⊢;split at hr
   .exact hU hc hn a _ r hr
   .exact hU hc hn b _ r hr
   .cases hr
 | .block id body,st=>by
  unfold exec;intro r hr;cases hx:exec ⟨cf,p,md,tR,l,e⟩ n body st with
  |none=>simp_all
  |some x =>
   rw [hx] at hr;rw [hU hc hn body st _ hx];exact hr
 | .loop mask body,st=>by
  exact JV (fun st=>hU hc hn body st) mask _ _ n n' hn st
theorem Gs (A:Prog):∀ (n n' :Nat),n<=n' ->LeC (call A n) (call A n')
 |0,_,_=>fun _ _ _ _=>kz.no _
 |n+1,0,h=>by omega
 |n+1,n' +1,h=>fun f args H l=>by
  unfold call;split
  .exact kz.refl _
  .split
   .rename_i af _
    unfold iA;split
    .intro r hr
     cases hx:exec ⟨call A n,A.prom,A.mode,A.idle,l,H.length⟩ n af.body ⟨args++c9 (af.names.length - args.length) .any,H⟩ with
     |none=>simp_all
     |some x =>
      rw [hx] at hr;rw [hU (Gs A n n' (by omega)) (by omega) _ _ _ hx];exact hr
    .exact kz.no _
   .exact kz.refl _
def Pf.af9 {A:Prog}{n:Nat}{f:FuncId}{args:List c8}{v:c8}(h:call A n f args [] an=some (v,[])):Pf A f args v :=
 ⟨n,fun m hm=>Gs A n m hm f args [] an _ h⟩
open Go.ChangeShapes Go.WideShapes Go.ChangeAt Go.RowKit
section
variable {H:Type} {enc:TypeId×Value->H} {P:Program} {w:World} {held:Bool} {base:Nat} {spare:Nat->Bool}
def Yt {t e:TypeId}{fuel:Nat}{a:Addr}{len cap:Nat}{x:DataW H×List MemPlace}(hu:P.underlying t=some (.slice e))(h:DataW.trod enc P w base spare held fuel t [.slice (some a) len cap]=some x):∃ elems rest,x.1= .slice elems rest/\elems.length=len:=by
 cases fuel with
 |zero=>simp [DataW.trod] at h
 |succ fuel =>
  unfold DataW.trod at h
  grind [Option.bind_eq_some_iff,Option.map_eq_some_iff,List.length_map,jo,List.length_range]
def Szd (P:Program)(ts:List TypeId)(as:List c8):Prop:=∀ (j:Nat) (t e:TypeId) (n:Nat) (cells:List Data),ts[j]? =some t->P.underlying t=some (.slice e)->as[j]? =some (.d (.slice n cells))->n * P.bytesOf e<=reachBytes
theorem Yj:∀ (ts:List TypeId) (vs:List Value) (ds:List (DataW H)) (ps:List MemPlace) (as:List c8),DataW.TrodAll enc P w base spare held ts vs ds ps->J4 (G0 w) I0 N0 w as vs->(DataW.weightsEach P ts ds).all (·<=reachBytes)=true->Szd P ts as
 |[],_,_,_,_,_,_,_=>fun j t e n cells ht=>by simp at ht
 |t::ts,vs,ds,ps,as,h,hv,hs=>fun j t' e n cells ht hu ha=>by
  obtain ⟨v,vs1,d,ds1,a,b,rfl,rfl,rfl,h1,h2⟩:=Go.ChangeShapes.trodAll_cons h;cases as with
  |nil=>simp at ha
  |cons a0 as =>
   obtain ⟨v',xs,e1,hv1,hv2⟩:=hv;cases e1;simp only [DataW.weightsEach,List.all_append,Bool.and_eq_true] at hs;cases j with
   |succ j=>exact Yj ts _ _ _ as h2 hv2 hs.2 j t' e n cells (by simp_all) hu (by simp_all)
   |zero =>
    simp [List.getElem?_cons_zero,Option.some.injEq] at ht ha;subst ht ha
    rcases hv1 with ⟨_,rfl,_⟩|⟨bb,o,cap,rfl,_,_⟩
    .simp
    .obtain ⟨fuel,hf⟩:=h1
     obtain ⟨elems,rest,e2,e3⟩:=Yt hu hf;have:=sized_slice (ts:=[t]) (ds:=[.slice elems rest]) (by simp_all [DataW.weightsEach,List.all_append,Bool.and_eq_true]) (j:=0) rfl rfl hu
     grind
end
def DH {H:Type}{enc:TypeId×Value->H}{P:Program}{A:Prog}(hok:oS P A){fid:FuncId}{f:Func}{s:ChangeSpec}(hvars:s.vars=[]){tb:TypeId}(hrt:f.resultTypes= #[tb])(htb:P.underlying tb=some .bool)
  {ls:List (List CT)} (Tv:Gi P f.params.toList ls=true) {W:World} {base:Nat} {args:Array Value} {ds gs:List (DataW H)} {before:List MemPlace} {r:Reach}
  (hfn:s.fn H ds={ results:=[.lit (.bool true)],args:=ds })
  (hval:∀ (j:Nat) t v,f.params[j]? =some t->args[j]? =some v->Value.okWide P W r base t v) (hW:DataW.Whole enc P f.params.toList s.vars false W args.toList ds gs before)
  (hsz:(DataW.weightsEach P (f.params.toList++s.plain.varTypes P) (ds++gs)).all (·<=reachBytes)=true)
  (aS7:∀ as,qK P f.params.toList ls as->Szd P f.params.toList as->∃ n,call A n fid as [] an=some (.d (.bool true),[])) :
  Calls P fid args W fun e W' =>∃ v,e= .returned v/\s.post enc P f false true false false W args v W' :=by
 have hW' :=hW;obtain ⟨p,q,hA,hV,rfl,hfz,hnd⟩:=hW;rw [hvars] at hV;obtain ⟨rfl,rfl⟩:=trodVars_none hV;have by6 :(DataW.weightsEach P f.params.toList ds).all (·<=reachBytes)=true:=by
  simp_all [ChangeSpec.plain,DataSpec.varTypes,List.append_nil]
 obtain ⟨⟨as,a1,a2⟩,a3⟩:=OQ f.params.toList ls args.toList ds p Tv (fun j t v ht hv=>hval j t v (by simp_all) (by simp_all)) hA;obtain ⟨n,hn⟩:=aS7 as a1 (Yj _ _ _ _ _ hA a2 by6);refine (TE hok hn a2).mono ?_;rintro e W' ⟨rfl,hK⟩;have aQ5 :s.fn H (ds++[])={ results:=[.lit (.bool true)],args:=ds }:=by simp_all
 refine ⟨_,rfl,TM (pa:=p) (pv:=[]) hW' hK (fun b sp hd=> ?_) (fun sp hsp=> ?_) (fun sp _=> ?_) rfl (fun j t v ht hv=> ?_)⟩
 .rw [aQ5,hrt]
  exact trodAll_cons_mk (shut_bool htb _) trodAll_mk0
 .simp_all
 .rw [aQ5,hvars]
  rfl
 grind [Value.resultList,okWide_bool_mk]
end Go.A2


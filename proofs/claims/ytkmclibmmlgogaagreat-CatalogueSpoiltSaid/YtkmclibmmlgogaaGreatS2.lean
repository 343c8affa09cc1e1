/- Texts S9 S10 S11 S12 S13 S14 (made short by a program) -/
import Derived.Test.YtkmclibmmlgogaaGreatS1
set_option linter.unusedVariables false
set_option linter.unusedSimpArgs false
set_option linter.unusedSectionVars false
open Bool renaming and_eq_true → b5, false_eq_true → b7, not_eq_true' → j5
open List renaming drop_of_length_le → k9, getElem?_append_left → x9, getElem?_append_right → s7, mem_cons → C6, mem_singleton → B0, replicate → c9, take_of_length_le → q5
open Nat renaming beq → r9, ble → L3, eq_of_beq_eq_true → b9, le_of_ble_eq_true → o7, le_refl → n5, lt_or_ge → u9
namespace Go.y3.Sh
open Go.y3
inductive Fk where
 |no
 |b (j:Nat)
 |i (j:Nat)
 |l (i:Nat)
def Vj (B:fZ):SV->Fk
 | .d z=>match z.pV B with
  |some (some i,lo,hi)=>if Nat.blt lo hi then .l i else .no
  |_=> .no
 |_=> .no
def ai5 (s:SS):q9->Fk
 | .pick (.loc j) _ _=> .b j
 | .C4 sz x (.loc j)=>match bO s.T s.L x with
  | .D4 .. =>if r9 sz 7 then .no else .i j
  |_=> .no
 | .append _ _ ob x y=>if ob then Vj s.B (bO s.T s.L y) else match bO s.T s.L x with
  | .D4 .. =>Vj s.B (bO s.T s.L y)
  |_=> .no
 |_=> .no
def OL (s:SS)(op:q9):List SS:=match ai5 s op with
 | .no=>[s]
 | .b j=>Ev s j
 | .i j=>OJ s j
 | .l i=>OK s i
def Yh (s:SS):q9->SS
 | .load none x=>match bO s.T s.L x with
  | .ptr id off=>Py s id off
  |_=>s
 |_=>s
def DC (L:List SV):Option (Nat×Bool)->Option Bool
 |none=>some true
 |some (j,want)=>match L[j]? with
  |some (.d x)=>match x.bool? with
   |some (.t b)=>some (b==want)
   |_=>none
  |some (.tuple [])=>some false
  |_=>none
def jW (u5:Option Nat)(s:SS)(k:Nat):Option Nat->Option SS
 |none=>some s
 |some t=>match u5 with
  |none=>if Nat.blt t s.T.length then some { (aQ s (.loc k)).2 with T:=s.T.set t (aQ s (.loc k)).1,n6:= .slot t::s.n6 } else none
  |some _=>if Nat.blt t s.T.length&&EA s.n6 t then some { (aQ s (.loc k)).2 with T:=s.T.set t (aQ s (.loc k)).1 } else none
section
variable (A:Prog) (sem:Sem) (lim:G9) (entry:Nat) (j4:List n8) (u5:Option Nat) (k:Nat)
def IV (op:q9)(s:SS):Option (List (SS×List Nat)) :=
 if op.E2 then match YL A sem lim entry j4 u5 k s op with
  |some outs=>some (outs.map fun o=>(o,[]))
  |none=>none
 else match op with
  | .O3 x=>some [(nh (aQ s x).2 k (aQ s x).1,[])]
  |op=>match yz (bO s.T s.L) s.H s.B op with
   |some (v,rs)=>some [(nh s k v,rs)]
   |none=>none
def aq0 (dst:Option Nat)(o:SS×List Nat):Option (List (SS×List Nat)):=match jW u5 (Pz o.1 k) k dst with
 |some s' =>some [(s',o.2)]
 |none=>none
def sdo (i:n8)(s:SS):Option (List (SS×List Nat)):=match IV A sem lim entry j4 u5 k i.op (Yh s i.op) with
 |some outs=>fc (aq0 u5 k i.dst) outs
 |none=>none
def QW (i:n8)(s:SS):Option (List (SS×List Nat)):=match DC s.L i.guard with
 |some true=>fc (sdo A sem lim entry j4 u5 k i) (OL s i.op)
 |some false=>match jW u5 (nh s k (.tuple [])) k i.dst with
  |some s' =>some [(s',[])]
  |none=>none
 |none=>none
def QV (i:n8)(s:SS):Option (List (SS×List Nat)):=fc (QW A sem lim entry j4 u5 k i) (match i.guard with
 |some (j,_)=>Ev s j
 |none=>[s])
end
section
variable {C:Ctx} {vs:List Nat} {s:SS} {st:E5} {A:Prog} {sem:Sem}
theorem SX (hs:s.g C vs st)(op:q9):∃ s',s' ∈ OL s op/\s'.g C vs st:=by
 unfold OL;split
 all_goals simp_all [B0,JI,SU,SW]
theorem Yi (hs:s.g C vs st)(op:q9):∃ ws,Le vs ws/\(Yh s op).g C ws st:=by
 unfold Yh;split
 ·split
  ·exact Tx hs _ _
  grind [Le.refl]
 grind [Le.refl]
theorem Bo (hs:s.g C vs st){gd:Option (Nat×Bool)}{t:Bool}(h:DC s.L gd=some t):y4 st.L gd=some t:=by
 cases gd with
 |none=>exact h
 |some p =>
  simp [DC] at h;split at h
  ·rename_i x e
   obtain ⟨a,h1,h2⟩:=q6.get hs.2.2.1 e
   grind [aF,SD.dc,y4]
  ·rename_i e
   obtain ⟨a,h1,h2⟩:=q6.get hs.2.2.1 e;simp_all [SV.g,q6.g,y4]
  ·cases h
theorem Bm (hs:s.g C vs st){u5:Option Nat}{k:Nat}{dst:Option Nat}{s' :SS}(h:jW u5 s k dst=some s'):∃ st',q8 u5 st k dst=some st' /\s'.g C vs st' :=by
 cases dst with
 |none=>simp [jW,Option.some.injEq] at h;subst h;exact ⟨st,by cases u5<;>rfl,hs⟩
 |some t =>
  have hlen:=q6.len hs.1;obtain ⟨hv,hT,hH,hL,ht,hB⟩:=wo hs (.loc k);cases u5 with
  |none =>
   simp only [jW] at h;split at h
   ·cases h
    refine ⟨{ (D7 st (.loc k)).2 with T:=st.T.set t (D7 st (.loc k)).1,n6:= .slot t::st.n6 },?_,q6.set hs.1 t hv,hH,hL,congrArg (Touch.slot t::·) hs.2.2.2.1,hB⟩;simp_all [q8,F3,if_pos]
   ·cases h
  |some q =>
   simp only [jW] at h;split at h
   ·rename_i hc
    simp [b5] at hc;have mE:=hc.2;unfold EA at mE;rw [<- hs.2.2.2.1] at mE;cases h;refine ⟨{ (D7 st (.loc k)).2 with T:=st.T.set t (D7 st (.loc k)).1 },?_,q6.set hs.1 t hv,hH,hL,ht,hB⟩;simp_all [q8,W5,if_pos,Bool.and_true,decide_eq_true_eq]
   ·cases h
variable (eA:ee C A sem)
include eA
theorem QX (hs:s.g C vs st){l:G9}{b:Nat}{j4:List n8}{u5:Option Nat}{k:Nat}{op:q9}{outs:List (SS×List Nat)}(h:IV A sem l b j4 u5 k op s=some outs) :
  ∃ st' rs N,(∃ o,o ∈ outs/\o.2=rs/\o.1.g C vs st')/\∀ n,N<=n->D6 (M4 A n l b) j4 u5 k op st=some (st',rs):=by
 unfold IV at h;split at h
 ·split at h
  ·rename_i os hos
   cases h;obtain ⟨st',N,⟨o,h1,h2⟩,h3⟩:=YM eA (b:=b) hs hos;exact ⟨st',[],N,⟨_,List.mem_map.2 ⟨o,h1,rfl⟩,rfl,h2⟩,fun n hn=>by simp_all [D6,if_true]⟩
  ·cases h
 ·have he:op.E2=false:=by simp_all
  split at h
  ·rename_i x _
   cases h;obtain ⟨h1,h2⟩:=wo hs x;exact ⟨_,[],0,⟨_,B0.2 rfl,rfl,bN h2 k h1⟩,fun n _=>by rfl⟩
  ·split at h
   ·rename_i v rs hp
    cases h;obtain ⟨r,h1,h2⟩:=Uq hs.2.2.2.2 (SS.F5 hs) hs.2.1 hp;refine ⟨_,rs,0,⟨_,B0.2 rfl,rfl,bN hs k h2⟩,fun n _=> ?_⟩;simp_all [D6,b7,if_false,absurd]
   ·cases h
theorem ap7 (hs:s.g C vs st){l:G9}{b:Nat}{j4:List n8}{u5:Option Nat}{k:Nat}{i:n8}{outs:List (SS×List Nat)}(hw:y4 st.L i.guard=some true)(h:sdo A sem l b j4 u5 k i s=some outs) :
  ∃ st' rs N,(∃ o,o ∈ outs/\o.2=rs/\∃ ws,Le vs ws/\o.1.g C ws st')/\∀ n,N<=n->y6 (M4 A n l b) j4 u5 k i st=some (st',rs):=by
 unfold sdo at h;split at h
 ·rename_i os hos
  obtain ⟨ws,l1,h1⟩:=Yi hs i.op;obtain ⟨S4,rs,N,⟨o,o1,o2,o3⟩,h2⟩:=QX eA h1 hos;obtain ⟨x,hx,hm⟩:=V7 h o o1;unfold aq0 at hx;split at hx
  ·rename_i s' hs'
   cases hx;obtain ⟨YZ,l2,h3⟩:=Ty o3 k;obtain ⟨aB,h4,h5⟩:=Bm h3 hs';refine ⟨aB,rs,N,⟨_,hm _ (B0.2 rfl),o2,YZ,l1.trans l2,h5⟩,fun n hn=> ?_⟩;simp_all [y6]
  ·cases hx
 ·cases h
theorem Kv (hs:s.g C vs st){l:G9}{b:Nat}{j4:List n8}{u5:Option Nat}{k:Nat}{i:n8}{outs:List (SS×List Nat)}(h:QV A sem l b j4 u5 k i s=some outs) :
  ∃ st' rs N,(∃ o,o ∈ outs/\o.2=rs/\∃ ws,Le vs ws/\o.1.g C ws st')/\∀ n,N<=n->y6 (M4 A n l b) j4 u5 k i st=some (st',rs):=by
 obtain ⟨s1,m1,g1⟩:∃ s',s' ∈ (match i.guard with|some (j,_)=>Ev s j|none=>[s])/\s'.g C vs st:=by
  split
  all_goals simp_all [JI,B0]
 obtain ⟨x,hx,hm⟩:=V7 h s1 m1;unfold QW at hx;split at hx
 ·rename_i hw
  have hw:=Bo g1 hw;obtain ⟨s2,m2,g2⟩:=SX g1 i.op;obtain ⟨y,hy,hm2⟩:=V7 hx s2 m2;obtain ⟨st',rs,N,⟨o,o1,o2,o3⟩,h3⟩:=ap7 eA g2 hw hy;exact ⟨st',rs,N,⟨o,hm _ (hm2 _ o1),o2,o3⟩,h3⟩
 ·rename_i hw
  have hw:=Bo g1 hw;split at hx
  ·rename_i s' hs'
   cases hx;obtain ⟨aB,h4,h5⟩:=Bm (bN g1 k (v:= .tuple []) (a:= .tuple []) (by simp_all [SV.g,q6.g])) hs';exact ⟨aB,[],0,⟨_,hm _ (B0.2 rfl),rfl,vs,Le.refl _,h5⟩,fun n _=>by simp_all [y6]⟩
  ·cases hx
 ·cases hx
end
section
variable (A:Prog) (sem:Sem) (lim:G9) (entry:Nat) (j4:List n8)
def rR:List n8->Nat->SS->Option (List SS)
 |[],_,s=>some [s]
 |i::is,k,s=>match QV A sem lim entry j4 none k i s with
  |some outs=>fc (fun o=>rR is (k+1) o.1) outs
  |none=>none
def QU (s:SS):q9->Option Nat
 | .call f xs=>if A.prom f then some s.H.length else match wK s.H,q6.V8 (xs.map (bO s.T s.L)) with
  |some bs,some b0=>some (T9 bs lim.strict 8 b0)
  |_,_=>none
 | .aO _ _=>none
 |_=>some 0
def Kp (s:SS):q9->Bool
 | .append _ _ _ x _=>match bO s.T s.L x with
  | .d _=>false
  | .I8=>false
  |_=>true
 |_=>false
def Km (s:SS)(op:q9)(a:n8):Bool:=match op,a.op with
 | .append _ _ _ x _,.O3 (.slot t)=>a.dst.isNone&&a.guard.isNone&&(match bO s.T s.L x,s.T[t]? with
  | .D4 id _ _ _,some (.ptr j _)=> !r9 j id
  |_,_=>false)
 |_,_=>false
def FL:List n8->Nat->Nat->SS->Option (List (SS×List ju))
 |[],_,_,s=>some [(s,[])]
 |i::is,k,na,s=>if Kp s i.op&&j4.any (fun a=>a.cg.contains k&& !Km s i.op a) then none else match QU A lim s i.op with
  |some Dj=>match QV A sem lim entry j4 (if i.op.z8 then some na else none) k i s with
   |some outs=>fc (fun o=>match FL is (k+1) (if i.op.z8 then na+1 else na) o.1 with
    |some rs=>some (rs.map fun r=>(r.1,⟨o.2,kO (if i.op.z8 then some na else none)++o.1.n6.take (o.1.n6.length - s.n6.length),Dj,(if i.op.z8 then some na else none).getD 0⟩::r.2))
    |none=>none) outs
   |none=>none
  |none=>none
def wg (draw:Bool)(T:List SV)(H:List SO)(B:fZ):Option (List SS) :=
 if draw then match FL A sem lim entry j4 j4 0 H.length ⟨T,H++(j4.filter (·.op.z8)).map (fun _=> .dead),c9 j4.length .any,slotsOf j4,B⟩ with
  |some outs=>if outs.all (fun o=>uv j4 o.2) then some (outs.map (·.1)) else none
  |none=>none
 else rR A sem lim entry j4 j4 0 ⟨T,H,c9 j4.length .any,[],B⟩
end
section
variable {C:Ctx} {A:Prog} {sem:Sem} (eA:ee C A sem)
theorem Ci {vs:List Nat}:∀ n,q6.g C vs (c9 n .any) (c9 n .any)
 |0=>by simp [q6.g]
 |n+1=>by exact ⟨_,_,rfl,rfl,Ci n⟩
theorem JA {vs:List Nat}:∀ l:List n8,H6.g C vs (l.map fun _=> .dead) (l.map fun _=> .dead)
 |[]=>by simp [H6.g]
 |_::l=>by exact ⟨_,_,rfl,rfl,JA l⟩
include eA
theorem Bk {l:G9}{b:Nat}{j4:List n8}:∀ (ops:List n8) (k:Nat) {vs:List Nat} {s:SS} {st:E5} {outs:List SS},s.g C vs st->rR A sem l b j4 ops k s=some outs ->
  ∃ r N,(∃ o,o ∈ outs/\∃ ws,Le vs ws/\o.g C ws r)/\∀ n,N<=n->dH (M4 A n l b) j4 ops k st=some r
 |[],k,vs,s,st,outs,hs,h=>by
  simp [rR,Option.some.injEq] at h;subst h;exact ⟨st,0,⟨s,B0.2 rfl,vs,Le.refl _,hs⟩,fun _ _=>rfl⟩
 |i::is,k,vs,s,st,outs,hs,h=>by
  simp [rR] at h;split at h
  ·rename_i os hos
   obtain ⟨st',rs,N,⟨o,o1,o2,ws,l1,o3⟩,h1⟩:=Kv eA hs hos;obtain ⟨x,hx,hm⟩:=V7 h o o1;obtain ⟨r,N2,⟨o',p1,YZ,l2,p2⟩,h2⟩:=Bk is (k+1) o3 hx;refine ⟨r,max N N2,⟨o',hm _ p1,YZ,l1.trans l2,p2⟩,fun n hn=> ?_⟩
   grind [dH]
  ·cases h
omit eA in
theorem Us {l:G9}{b n:Nat}{vs:List Nat}{s:SS}{st:E5}(hs:s.g C vs st){op:q9}{m:Nat}(h:QU A l s op=some m):M3 (M4 A n l b) st op=m:=by
 unfold QU at h;split at h
 ·rename_i f xs
  have fR:(M4 A n l b).prom f=A.prom f:=rfl;have hlim:(M4 A n l b).lim=l:=rfl;split at h
  ·rename_i hp
   cases h;simp [M3,fR,hp];exact H6.len hs.2.1
  ·rename_i hp
   split at h
   ·rename_i bs b0 NS hb0
    cases h;simp [M3,fR];rw [if_neg hp,hlim,tf,Cm NS hs.2.1,q6.bD hb0 (q6.XB (SS.F5 hs) xs)]
   ·cases h
 ·cases h
 ·cases h
  cases op<;>first
   |rfl
   |simp_all
   |simp_all
omit eA in
theorem Un {vs:List Nat}{s:SS}{st:E5}(hs:s.g C vs st){op:q9}(h:¬ Kp s op=true):F4 st op=false:=by
 unfold Kp at h;split at h
 ·rename_i sz bytes ob x y
  have hx:=SS.F5 hs x
  grind [aF,F4,SV.g,absurd]
 ·cases op<;>first
   |rfl
   |grind
omit eA in
theorem Uh {vs:List Nat}{s:SS}{st:E5}(hs:s.g C vs st){op:q9}{a:n8}(h:Km s op a=true):calm st op a=true:=by
 unfold Km at h;unfold calm;split at h
 ·rename_i sz Oi ob x y t ho
  simp only [b5] at h;simp only [ho,h.1.1,h.1.2,Bool.true_and];have h3:=h.2;split at h3
  ·rename_i id z lo n j o e1 e2
   have hx:=SS.F5 hs x;rw [e1] at hx;simp only [SV.g] at hx;obtain ⟨v,g1,g2⟩:=q6.get hs.1 e2;rw [bM g2] at g1;simp only [hx,g1,h3]
  ·cases h3
 ·cases h
theorem Ku {l:G9}{b:Nat}{j4:List n8}:∀ (ops:List n8) (k na:Nat) {vs:List Nat} {s:SS} {st:E5} {outs:List (SS×List ju)},s.g C vs st->FL A sem l b j4 ops k na s=some outs ->
  ∃ r lg N,(∃ o,o ∈ outs/\o.2=lg/\∃ ws,Le vs ws/\o.1.g C ws r)/\∀ n,N<=n->Q8 (M4 A n l b) j4 ops k na st=some (r,lg)
 |[],k,na,vs,s,st,outs,hs,h=>by
  simp only [FL,Option.some.injEq] at h;subst h;exact ⟨st,[],0,⟨_,B0.2 rfl,rfl,vs,Le.refl _,hs⟩,fun _ _=>rfl⟩
 |i::is,k,na,vs,s,st,outs,hs,h=>by
  simp only [FL] at h;split at h
  ·cases h
  ·rename_i hk
   have hk:(F4 st i.op&&j4.any (fun a=>a.cg.contains k&& !calm st i.op a))=false:=by
    cases hu:Kp s i.op with
    |false=>rw [Un hs (by simp [hu])];rfl
    |true =>
     rw [hu,Bool.true_and] at hk;have h0:(j4.any fun a=>a.cg.contains k&& !calm st i.op a)=false:=by
      rw [List.any_eq_false];intro a ha hc;simp only [b5,j5] at hc;refine hk (List.any_eq_true.2 ⟨a,ha,?_⟩);simp only [hc.1,Bool.true_and,j5];cases hs' :Km s i.op a with
      |false=>rfl
      |true=>rw [Uh hs hs'] at hc;cases hc.2
     rw [h0,Bool.and_false]
   split at h
   ·rename_i Dj OZ
    split at h
    ·rename_i os hos
     obtain ⟨st',rs,N,⟨o,o1,o2,ws,l1,o3⟩,h1⟩:=Kv eA hs hos;obtain ⟨x,hx,hm⟩:=V7 h o o1;split at hx
     ·rename_i rr hrr
      cases hx;obtain ⟨r,lg,N2,⟨o',p1,p2,YZ,l2,p3⟩,h2⟩:=Ku is (k+1) _ o3 hrr;refine ⟨r,_,max N N2,⟨_,hm _ (List.mem_map.2 ⟨o',p1,rfl⟩),rfl,YZ,l1.trans l2,p3⟩,fun n hn=> ?_⟩;have hg3:=o3.2.2.2.1;simp only [Q8,iQ,hk,b7,if_false,h1 n (by omega),h2 n (by omega),cP,Us hs OZ,o2,p2,hg3,hs.2.2.2.1]
     ·cases hx
    ·cases h
   ·cases h
theorem Bj {l:G9}{b:Nat}{j4:List n8}{draw:Bool}{vs:List Nat}{T:List SV}{H:List SO}{B:fZ}{T' :List b6}{H' :o6}{outs:List SS}(hT:q6.g C vs T T')(hH:H6.g C vs H H')(hB:Bg vs B)(h:wg A sem l b j4 draw T H B=some outs) :
  Rn A l b j4 draw T' H' fun T2 H2 L2=>∃ o,o ∈ outs/\∃ ws,Le vs ws/\q6.g C ws o.T T2/\H6.g C ws o.H H2/\q6.g C ws o.L L2/\Bg ws o.B:=by
 unfold wg at h;split at h
 ·split at h
  ·rename_i os hos
   split at h
   ·cases h
    have hlen:=H6.len hH;obtain ⟨r,lg,N,⟨o,o1,o2,ws,l1,o3⟩,h1⟩:=Ku eA j4 0 H.length (st:=⟨T',H' ++Z1 j4,c9 j4.length .any,slotsOf j4⟩) ⟨hT,H6.app hH (JA _),Ci _,rfl,hB⟩ hos;refine ⟨r,N,⟨o.1,List.mem_map.2 ⟨o,o1,rfl⟩,ws,l1,o3.1,o3.2.1,o3.2.2.1,o3.2.2.2.2⟩,fun n hn=> ?_⟩
    grind [P6]
   ·cases h
  ·cases h
 ·obtain ⟨r,N,⟨o,o1,ws,l1,o3⟩,h1⟩:=Bk eA j4 0 (st:=⟨T',H',c9 j4.length .any,[]⟩) ⟨hT,hH,Ci _,rfl,hB⟩ h
  refine ⟨r,N,⟨o,o1,ws,l1,o3.1,o3.2.1,o3.2.2.1,o3.2.2.2.2⟩,fun n hn=> ?_⟩;simp_all [P6,if_neg]
end
structure CS where
 T:List SV
 H:List SO
 B:fZ
def CS.g (C:Ctx)(vs:List Nat)(s:CS)(st:St):Prop:=q6.g C vs s.T st.T/\H6.g C vs s.H st.H/\Bg vs s.B
def Rf:Option Nat->Option Nat->Option Nat
 |some i,some j=>if r9 i j then some i else none
 |_,_=>none
def FR:Option Nat->Option Nat->Bool
 |some i,some j=>r9 i j
 |none,none=>true
 |_,_=>false
def SD.mark:SD->Option Nat
 | .pr k _=>some k
 |_=>none
mutual
def SV.join:SV->SV->Option SV
 | .any,y=>match y with
  | .any=>some .any
  |_=>some .top
 | .top,_=>some .top
 | .d x,y=>match y with
  | .d y=>if FR x.mark y.mark then some (.d (x.join y)) else none
  | .own _ y=>some (.q (x.join y))
  | .q y=>some (.q (x.join y))
  | .any=>some .top
  | .top=>some .top
  |_=>none
 | .own z x,y=>match y with
  | .own z' y=>if r9 z z' then some (.own z (x.join y)) else none
  | .d y=>some (.q (x.join y))
  | .q y=>some (.q (x.join y))
  | .any=>some .top
  | .top=>some .top
  |_=>none
 | .q x,y=>match y with
  | .own _ y=>some (.q (x.join y))
  | .d y=>some (.q (x.join y))
  | .q y=>some (.q (x.join y))
  | .any=>some .top
  | .top=>some .top
  |_=>none
 | .I8,y=>match y with
  | .I8=>some .I8
  | .any=>some .top
  | .top=>some .top
  |_=>none
 | .ptr i o,y=>match y with
  | .ptr i' o' =>if r9 i i' &&r9 o o' then some (.ptr i o) else none
  | .any=>some .top
  | .top=>some .top
  |_=>none
 | .Q5 _,_=>some .top
 | .wp i l z c,y=>match y with
  | .wp i' l' z' c' =>if r9 i i' &&r9 l l' &&r9 z z' &&r9 c c' then some (.wp i l z c) else none
  | .any=>some .top
  | .top=>some .top
  |_=>none
 | .D4 i z l n,y=>match y with
  | .D4 i' z' l' n' =>if r9 i i' &&r9 z z' &&r9 l l' &&r9 n n' then some (.D4 i z l n) else none
  | .any=>some .top
  | .top=>some .top
  |_=>none
 | .agg p l,y=>match y with
  | .agg p' l' =>match q6.join l l' with
   |some r=>some (.agg (Rf p p') r)
   |none=>none
  | .any=>some .top
  | .top=>some .top
  |_=>none
 | .tuple l,y=>match y with
  | .tuple l' =>match q6.join l l' with
   |some r=>some (.tuple r)
   |none=>none
  | .any=>some .top
  | .top=>some .top
  |_=>none
 | .bn k,y=>match y with
  | .bn k' =>if r9 k k' then some (.bn k) else none
  | .any=>some .top
  | .top=>some .top
  |_=>none
def q6.join:List SV->List SV->Option (List SV)
 |[],ys=>match ys with
  |[]=>some []
  |_=>none
 |x::xs,ys=>match ys with
  |y::ys=>match x.join y,q6.join xs ys with
   |some a,some r=>some (a::r)
   |_,_=>none
  |[]=>none
end
def SO.join:SO->SO->Option SO
 | .dead,.dead=>some .dead
 | .cells p l,.cells p' l' =>if FR p p' then match q6.join l l' with
   |some r=>some (.cells p r)
   |none=>none
  else none
 | .pr k,.pr k' =>if r9 k k' then some (.pr k) else none
 | .bn k,.bn k' =>if r9 k k' then some (.bn k) else none
 | .yd k b,.yd k' b' =>if r9 k k' &&r9 b b' then some (.yd k b) else none
 |_,_=>none
def H6.join:List SO->List SO->Option (List SO)
 |[],[]=>some []
 |x::xs,y::ys=>match x.join y,H6.join xs ys with
  |some a,some r=>some (a::r)
  |_,_=>none
 |_,_=>none
def Ij (a b:Nat×Nat):Nat×Nat:=(min a.1 b.1,max a.2 b.2)
def NY (B1 B2:fZ):Option fZ:=if (B1.drop B2.length++B2.drop B1.length).all (fun p=>L3 p.1 p.2) then some (List.zipWith Ij B1 B2++(B1.drop B2.length++B2.drop B1.length)) else none
def jP (kp:List Nat)(s t:CS):Bool:=kp.all fun j=>match s.T[j]?,t.T[j]? with
 |some (.d (.lit (.int _ a))),some (.d (.lit (.int _ b)))=>decide (a=b)
 |_,_=>true
def CS.join (kp:List Nat)(s t:CS):Option CS:=if jP kp s t then match q6.join s.T t.T,H6.join s.H t.H,NY s.B t.B with
 |some T,some H,some B=>some ⟨T,H,B⟩
 |_,_,_=>none
 else none
def Pb (kp:List Nat)(s:CS):List CS->List CS
 |[]=>[s]
 |t::r=>match CS.join kp t s with
  |some u=>u::r
  |none=>t::Pb kp s r
def mN (kp:List Nat):List CS->List CS
 |[]=>[]
 |s::r=>Pb kp s (mN kp r)
section
variable {C:Ctx} {vs:List Nat}
theorem Dc {x:SV}{v:b6}(h:x.g C vs v){y:SD}(hx:x.data? =some y:=by rfl):∃ d,v.G4= .d d/\y.g C vs d:=by
 cases x<;>simp [SV.data?,reduceCtorEq,Option.some.injEq] at hx<;>subst hx<;>simp [SV.g] at h
 ·obtain ⟨d,rfl,h2⟩:=h;exact ⟨d,rfl,h2⟩
 ·obtain ⟨a,b,rfl,h2⟩:=h;exact ⟨_,rfl,h2⟩
 ·subst h;exact ⟨_,rfl,by simp [SD.g]⟩
 ·exact h
theorem Db {x:SD}{v:b6}{d:Data}(h0:v.G4= .d d)(h:x.g C vs d):(SV.q x).g C vs v:=by simp_all [SV.g]
theorem YV {p q:Option Nat}{k:Nat}(h:Rf p q=some k):p=some k:=by
 simp_all [Rf]<;>grind
theorem YW {p q:Option Nat}{k:Nat}(h:Rf p q=some k):q=some k:=by
 simp_all [Rf]<;>grind
theorem FT {p q:Option Nat}(h:FR p q=true):p=q:=by
 unfold FR at h
 grind [b9]
mutual
theorem SV.S8:∀ (x y:SV) {z:SV} {v:b6},x.join y=some z->x.g C vs v->z.g C vs v
 | .any,y,z,_,h,hg=>by
  cases y<;>simp only [SV.join,Option.some.injEq] at h<;>subst h<;>first|exact hg|simp [SV.g]
 | .top,y,z,_,h,hg=>by simp only [SV.join,Option.some.injEq] at h;subst h;exact hg
 | .d x,y,z,_,h,hg=>by
  cases y<;>simp only [SV.join,Option.some.injEq,reduceCtorEq] at h<;>(try split at h)<;>first
   |(cases h;simp [SV.g];done)
   |(cases h;obtain ⟨d,rfl,h1⟩:=aF hg;exact bT (SD.S8 _ _ h1))
   |(cases h;obtain ⟨d,h0,h1⟩:=Dc hg;exact Db h0 (SD.S8 _ _ h1))
   |(cases h;done)
 | .q x,y,z,_,h,hg=>by
  cases y<;>simp only [SV.join,Option.some.injEq,reduceCtorEq] at h<;>subst h<;>first
   |(simp [SV.g];done)
   |(obtain ⟨d,h0,h1⟩:=Dc hg;exact Db h0 (SD.S8 _ _ h1))
 | .own w x,y,z,_,h,hg=>by
  cases y<;>simp only [SV.join,Option.some.injEq,reduceCtorEq] at h
  ·subst h;simp [SV.g]
  ·subst h;simp [SV.g]
  ·subst h;obtain ⟨d,h0,h1⟩:=Dc hg;exact Db h0 (SD.S8 _ _ h1)
  ·split at h
   ·cases h
    obtain ⟨len,cells,rfl,h1⟩:=pZ hg;simp only [SV.g];exact ⟨_,_,rfl,SD.S8 _ _ h1⟩
   ·cases h
  ·subst h;obtain ⟨d,h0,h1⟩:=Dc hg;exact Db h0 (SD.S8 _ _ h1)
 | .I8,y,z,_,h,hg=>by
  cases y<;>simp only [SV.join,Option.some.injEq,reduceCtorEq] at h<;>subst h<;>first|exact hg|simp [SV.g]
 | .ptr i o,y,z,_,h,hg=>by
  cases y<;>simp only [SV.join,Option.some.injEq,reduceCtorEq] at h
  ·subst h;simp [SV.g]
  ·subst h;simp [SV.g]
  ·split at h
   ·cases h;exact hg
   ·cases h
 | .wp i l w c,y,z,_,h,hg=>by
  cases y<;>simp only [SV.join,Option.some.injEq,reduceCtorEq] at h
  ·subst h;simp [SV.g]
  ·subst h;simp [SV.g]
  ·split at h
   ·cases h;exact hg
   ·cases h
 | .Q5 _,y,z,_,h,hg=>by simp only [SV.join,Option.some.injEq] at h;subst h;simp [SV.g]
 | .D4 i w l n,y,z,_,h,hg=>by
  cases y<;>simp only [SV.join,Option.some.injEq,reduceCtorEq] at h
  ·subst h;simp [SV.g]
  ·subst h;simp [SV.g]
  ·split at h
   ·cases h;exact hg
   ·cases h
 | .agg p l,y,z,_,h,hg=>by
  cases y<;>simp only [SV.join,Option.some.injEq,reduceCtorEq] at h
  ·subst h;simp [SV.g]
  ·subst h;simp [SV.g]
  ·split at h
   ·rename_i r hr
    cases h;simp only [SV.g] at hg ⊢;obtain ⟨cs,rfl,h1,h2⟩:=hg;exact ⟨cs,rfl,q6.S8 _ _ hr h1,fun k hk=>h2 k (YV hk)⟩
   ·cases h
 | .tuple l,y,z,_,h,hg=>by
  cases y<;>simp only [SV.join,Option.some.injEq,reduceCtorEq] at h
  ·subst h;simp [SV.g]
  ·subst h;simp [SV.g]
  ·split at h
   ·rename_i r hr
    cases h;simp only [SV.g] at hg ⊢;obtain ⟨cs,rfl,h1⟩:=hg;exact ⟨cs,rfl,q6.S8 _ _ hr h1⟩
   ·cases h
 | .bn k,y,z,_,h,hg=>by
  cases y<;>simp only [SV.join,Option.some.injEq,reduceCtorEq] at h
  ·subst h;simp [SV.g]
  ·subst h;simp [SV.g]
  ·split at h
   ·rename_i e
    have e:=b9 e;subst e;cases h;exact hg
   ·cases h
theorem q6.S8:∀ (x y:List SV) {z:List SV} {v:List b6},q6.join x y=some z->q6.g C vs x v->q6.g C vs z v
 |[],y,z,_,h,hg=>by cases y<;>simp only [q6.join,Option.some.injEq,reduceCtorEq] at h;subst h;exact hg
 |x::xs,y,z,_,h,hg=>by
  cases y<;>simp only [q6.join,reduceCtorEq] at h;split at h
  ·rename_i a r ha hr
   cases h;simp only [q6.g] at hg ⊢;obtain ⟨d,ds,rfl,h1,h2⟩:=hg;exact ⟨d,ds,rfl,SV.S8 _ _ ha h1,q6.S8 _ _ hr h2⟩
  ·cases h
end
mutual
theorem SV.S9:∀ (x y:SV) {z:SV} {v:b6},x.join y=some z->y.g C vs v->z.g C vs v
 | .any,y,z,_,h,hg=>by
  cases y<;>simp only [SV.join,Option.some.injEq] at h<;>subst h<;>first|exact hg|simp [SV.g]
 | .top,y,z,_,h,hg=>by simp only [SV.join,Option.some.injEq] at h;subst h;simp [SV.g]
 | .d x,y,z,_,h,hg=>by
  cases y<;>simp only [SV.join,Option.some.injEq,reduceCtorEq] at h<;>(try split at h)<;>first
   |(cases h;simp [SV.g];done)
   |(cases h;obtain ⟨d,rfl,h1⟩:=aF hg;exact bT (SD.S9 _ _ h1))
   |(cases h;obtain ⟨d,h0,h1⟩:=Dc hg;exact Db h0 (SD.S9 _ _ h1))
   |(cases h;done)
 | .q x,y,z,_,h,hg=>by
  cases y<;>simp only [SV.join,Option.some.injEq,reduceCtorEq] at h<;>subst h<;>first
   |(simp [SV.g];done)
   |(obtain ⟨d,h0,h1⟩:=Dc hg;exact Db h0 (SD.S9 _ _ h1))
 | .own w x,y,z,_,h,hg=>by
  cases y<;>simp only [SV.join,Option.some.injEq,reduceCtorEq] at h
  ·subst h;simp [SV.g]
  ·subst h;simp [SV.g]
  ·subst h;obtain ⟨d,h0,h1⟩:=Dc hg;exact Db h0 (SD.S9 _ _ h1)
  ·split at h
   ·rename_i e
    have e:=b9 e;subst e;cases h;obtain ⟨len,cells,rfl,h1⟩:=pZ hg;simp only [SV.g];exact ⟨_,_,rfl,SD.S9 _ _ h1⟩
   ·cases h
  ·subst h;obtain ⟨d,h0,h1⟩:=Dc hg;exact Db h0 (SD.S9 _ _ h1)
 | .I8,y,z,_,h,hg=>by
  cases y<;>simp only [SV.join,Option.some.injEq,reduceCtorEq] at h<;>subst h<;>first|exact hg|simp [SV.g]
 | .ptr i o,y,z,_,h,hg=>by
  cases y<;>simp only [SV.join,Option.some.injEq,reduceCtorEq] at h
  ·subst h;simp [SV.g]
  ·subst h;simp [SV.g]
  ·split at h
   ·rename_i e
    simp only [b5] at e;have e1:=b9 e.1;have e2:=b9 e.2;subst e1 e2;cases h;exact hg
   ·cases h
 | .wp i l w c,y,z,_,h,hg=>by
  cases y<;>simp only [SV.join,Option.some.injEq,reduceCtorEq] at h
  ·subst h;simp [SV.g]
  ·subst h;simp [SV.g]
  ·split at h
   ·rename_i e
    simp only [b5] at e;have e1:=b9 e.1.1.1;have e2:=b9 e.1.1.2;have e3:=b9 e.1.2;have e4:=b9 e.2;subst e1 e2 e3 e4;cases h;exact hg
   ·cases h
 | .Q5 _,y,z,_,h,hg=>by simp only [SV.join,Option.some.injEq] at h;subst h;simp [SV.g]
 | .D4 i w l n,y,z,_,h,hg=>by
  cases y<;>simp only [SV.join,Option.some.injEq,reduceCtorEq] at h
  ·subst h;simp [SV.g]
  ·subst h;simp [SV.g]
  ·split at h
   ·rename_i e
    simp only [b5] at e;have e1:=b9 e.1.1.1;have e2:=b9 e.1.1.2;have e3:=b9 e.1.2;have e4:=b9 e.2;subst e1 e2 e3 e4;cases h;exact hg
   ·cases h
 | .agg p l,y,z,_,h,hg=>by
  cases y<;>simp only [SV.join,Option.some.injEq,reduceCtorEq] at h
  ·subst h;simp [SV.g]
  ·subst h;simp [SV.g]
  ·split at h
   ·rename_i r hr
    cases h;simp only [SV.g] at hg ⊢;obtain ⟨cs,rfl,h1,h2⟩:=hg;exact ⟨cs,rfl,q6.S9 _ _ hr h1,fun k hk=>h2 k (YW hk)⟩
   ·cases h
 | .tuple l,y,z,_,h,hg=>by
  cases y<;>simp only [SV.join,Option.some.injEq,reduceCtorEq] at h
  ·subst h;simp [SV.g]
  ·subst h;simp [SV.g]
  ·split at h
   ·rename_i r hr
    cases h;simp only [SV.g] at hg ⊢;obtain ⟨cs,rfl,h1⟩:=hg;exact ⟨cs,rfl,q6.S9 _ _ hr h1⟩
   ·cases h
 | .bn k,y,z,_,h,hg=>by
  cases y<;>simp only [SV.join,Option.some.injEq,reduceCtorEq] at h
  ·subst h;simp [SV.g]
  ·subst h;simp [SV.g]
  ·split at h
   ·rename_i e
    have e:=b9 e;subst e;cases h;exact hg
   ·cases h
theorem q6.S9:∀ (x y:List SV) {z:List SV} {v:List b6},q6.join x y=some z->q6.g C vs y v->q6.g C vs z v
 |[],y,z,_,h,hg=>by cases y<;>simp only [q6.join,Option.some.injEq,reduceCtorEq] at h;subst h;exact hg
 |x::xs,y,z,_,h,hg=>by
  cases y<;>simp only [q6.join,reduceCtorEq] at h;split at h
  ·rename_i a r ha hr
   cases h;simp only [q6.g] at hg ⊢;obtain ⟨d,ds,rfl,h1,h2⟩:=hg;exact ⟨d,ds,rfl,SV.S9 _ _ ha h1,q6.S9 _ _ hr h2⟩
  ·cases h
end
theorem SO.ji {x y z:SO}{o:y7}(h:x.join y=some z):(x.g C vs o->z.g C vs o)/\(y.g C vs o->z.g C vs o):=by
 cases x<;>cases y<;>simp only [SO.join,Option.some.injEq,reduceCtorEq] at h
 ·subst h;exact ⟨id,id⟩
 ·split at h
  ·rename_i hp
   have hp:=FT hp;subst hp;split at h
   ·rename_i r hr
    cases h;exact ⟨fun ⟨cs,h1,h2,h3⟩=>⟨cs,h1,q6.S8 _ _ hr h2,h3⟩,fun ⟨cs,h1,h2,h3⟩=>⟨cs,h1,q6.S9 _ _ hr h2,h3⟩⟩
   ·cases h
  ·cases h
 ·split at h
  ·rename_i e
   have e:=b9 e;subst e;cases h;exact ⟨id,id⟩
  ·cases h
 ·split at h
  ·rename_i e
   have e:=b9 e;subst e;cases h;exact ⟨id,id⟩
  ·cases h
 ·split at h
  ·rename_i e
   simp only [b5] at e;have e1:=b9 e.1;have e2:=b9 e.2;subst e1 e2;cases h;exact ⟨id,id⟩
  ·cases h
theorem H6.ji:∀ {x y z:List SO} {o:o6},H6.join x y=some z->(H6.g C vs x o->H6.g C vs z o)/\(H6.g C vs y o->H6.g C vs z o)
 |[],[],z,o,h=>by simp_all [H6.join,Option.some.injEq]
 |[],_::_,z,o,h=>by simp [H6.join] at h
 |_::_,[],z,o,h=>by simp [H6.join] at h
 |x::xs,y::ys,z,o,h=>by
  simp [H6.join] at h;split at h
  ·rename_i a r ha hr
   cases h;refine ⟨fun hg=> ?_,fun hg=> ?_⟩
   ·obtain ⟨d,ds,rfl,h1,h2⟩:=hg
    exact ⟨d,ds,rfl,(SO.ji ha).1 h1,(H6.ji hr).1 h2⟩
   ·obtain ⟨d,ds,rfl,h1,h2⟩:=hg
    exact ⟨d,ds,rfl,(SO.ji ha).2 h1,(H6.ji hr).2 h2⟩
  ·cases h
theorem Bg.Wv:∀ (R:fZ) {vs:List Nat} {B:fZ},Bg vs B->R.all (fun p=>L3 p.1 p.2)=true->∃ ws,Le vs ws/\Bg ws (B++R)
 |[],vs,B,h,_=>⟨vs,Le.refl _,by simpa using h⟩
 |p::R,vs,B,h,hr=>by
  simp only [List.all_cons,b5,Nat.ble_eq] at hr;obtain ⟨ws,h1,h2⟩:=Bg.Wv R (h.add (p:=p) (m:=p.1) (n5 _) hr.1) hr.2;exact ⟨ws,(Le.app _ _).trans h1,by simp_all⟩
theorem UA {B1 B2:fZ}{i lo hi:Nat}(h:(List.zipWith Ij B1 B2)[i]? =some (lo,hi)):∃ a b,B1[i]? =some a/\B2[i]? =some b/\lo=min a.1 b.1/\hi=max a.2 b.2:=by
 grind [Option.some.injEq,Ij,Prod.mk.injEq]
theorem Bg.ar9 {B1 B2:fZ}(hB:Bg vs B1):Bg vs (List.zipWith Ij B1 B2++B1.drop B2.length):=by
 refine ⟨by simp [hB.1];omega,fun i lo hi h=> ?_⟩
 rcases u9 i (List.zipWith Ij B1 B2).length with hl|hl
 ·rw [x9 hl] at h
  obtain ⟨a,b,h1,h2,h3,h4⟩:=UA h;obtain ⟨m,e1,e2,e3⟩:=hB.2 i a.1 a.2 h1
  grind
 ·rw [s7 hl,List.getElem?_drop] at h
  simp [List.length_zipWith] at h hl
  rcases Nat.le_total B1.length B2.length with hc|hc
  ·grind
  ·rw [show B2.length+(i - min B1.length B2.length)=i by omega] at h
   exact hB.2 _ _ _ h
theorem Bg.as0 {B1 B2:fZ}(hB:Bg vs B2):Bg vs (List.zipWith Ij B1 B2++B2.drop B1.length):=by
 grind [Bg.ar9,List.zipWith,Ij,List.zipWith_comm,Nat.min_comm,Nat.max_comm]
theorem Jm {B1 B2 B:fZ}(h:NY B1 B2=some B):(Bg vs B1->∃ ws,Le vs ws/\Bg ws B)/\(Bg vs B2->∃ ws,Le vs ws/\Bg ws B):=by
 unfold NY at h;split at h
 ·rename_i hall
  cases h;rw [List.all_append,b5] at hall;refine ⟨fun hB=> ?_,fun hB=> ?_⟩
  ·rw [<- List.append_assoc]
   exact Bg.Wv _ hB.ar9 hall.2
  ·rcases Nat.le_total B1.length B2.length with hc|hc
   ·rw [show B1.drop B2.length=[] from k9 hc,List.nil_append]
    exact ⟨vs,Le.refl _,hB.as0⟩
   ·have h2:B2.drop B1.length=[]:=k9 hc
    have:=hB.as0 (B1:=B1)
    grind [Bg.Wv]
 ·cases h
theorem CS.ji {kp:List Nat}{s t u:CS}{st:St}(h:CS.join kp s t=some u):(s.g C vs st->∃ ws,Le vs ws/\u.g C ws st)/\(t.g C vs st->∃ ws,Le vs ws/\u.g C ws st):=by
 unfold CS.join at h;split at h
 ·split at h
  ·rename_i T H B hT hH hB
   cases h;refine ⟨fun ⟨h1,h2,h3⟩=> ?_,fun ⟨h1,h2,h3⟩=> ?_⟩
   ·obtain ⟨ws,l1,h4⟩:=(Jm hB).1 h3
    exact ⟨ws,l1,q6.O0 l1 _ (q6.S8 _ _ hT h1),H6.O0 l1 _ ((H6.ji hH).1 h2),h4⟩
   ·obtain ⟨ws,l1,h4⟩:=(Jm hB).2 h3
    exact ⟨ws,l1,q6.O0 l1 _ (q6.S9 _ _ hT h1),H6.O0 l1 _ ((H6.ji hH).2 h2),h4⟩
  ·cases h
 ·cases h
theorem Ik {kp:List Nat}{st:St}:∀ (s:CS) (l:List CS),(s.g C vs st->∃ t,t ∈ Pb kp s l/\∃ ws,Le vs ws/\t.g C ws st)/\∀ t,t ∈ l->t.g C vs st->∃ u,u ∈ Pb kp s l/\∃ ws,Le vs ws/\u.g C ws st
 |s,[]=>⟨fun h=>⟨s,B0.2 rfl,vs,Le.refl _,h⟩,fun t h=>by cases h⟩
 |s,q::r=>by
  simp only [Pb];split
  ·rename_i u hu
   refine ⟨fun h=> ?_,fun t ht h=> ?_⟩
   ·obtain ⟨ws,l1,h1⟩:=(CS.ji hu).2 h
    grind
   ·rcases C6.1 ht with rfl|ht
    ·obtain ⟨ws,l1,h1⟩:=(CS.ji hu).1 h
     grind
    grind [List.mem_cons_of_mem,Le.refl]
  ·obtain ⟨h1,h2⟩:=Ik s r
   refine ⟨fun h=> ?_,fun t ht h=> ?_⟩
   ·obtain ⟨t,m,h3⟩:=h1 h
    exact ⟨t,List.mem_cons_of_mem _ m,h3⟩
   grind [List.mem_cons_self,Le.refl,List.mem_cons_of_mem]
theorem mO {kp:List Nat}{st:St}:∀ (l:List CS) {vs:List Nat} {s:CS},s ∈ l->s.g C vs st->∃ t,t ∈ mN kp l/\∃ ws,Le vs ws/\t.g C ws st
 |q::r,vs,s,hm,h=>by
  rcases C6.1 hm with rfl|hm
  ·simp_all [Ik,mN]
  ·obtain ⟨t,m,ws,l1,h1⟩:=mO r hm h
   obtain ⟨u,m2,YZ,l2,h2⟩:=(Ik q (mN kp r)).2 t m h1;exact ⟨u,m2,YZ,l1.trans l2,h2⟩
end
def uC:List Bool->List SV->List SV
 |true::m,v::vs=>v::uC m vs
 |false::m,_::vs=> .any::uC m vs
 |[],_::vs=> .any::uC [] vs
 |_,[]=>[]
def IL (mask:List Bool)(strict n:Nat)(s:CS):Option CS:=match q6.V8 (uC mask s.T),wK s.H with
 |some a,some bs=>if L3 a n&&L3 (wH ((bs.take n).drop strict)) n then some ⟨uC mask s.T,s.H.take n,s.B⟩ else some ⟨uC mask s.T,s.H,s.B⟩
 |_,_=>none
def yA:List SV->Nat->Option (Nat×Nat×Nat×Nat×Nat)
 |[],_=>none
 | .D4 id sz lo len::_,i=>some (i,id,sz,lo,len)
 | .top::_,_=>none
 | .bn _::_,_=>none
 |_::r,i=>yA r (i+1)
def sfz (lim:G9)(entry t:Nat)(s:CS):Option CS:=match s.T[t]? with
 |some (.ptr b o)=>if r9 o 0 then match s.H[b]? with
  |some (.cells _ cs)=>match yA cs 0 with
   |some (i,id,sz,lo,len)=>match Ur s.H id lo (len * sz) with
    |some l=>match iN l with
     |some xs=>if L3 lim.base id&&L3 entry id&&lim.may id&&L3 lim.base b&& !(r9 id b)&&r9 xs.length (len * sz) then
       some ⟨q6.kill id s.T,((s.H.take lim.base++(s.H.drop lim.base).map (SO.kill id)).set id .dead).set b (.cells none ((q6.kill id cs).set i (.d (mkSlice sz len xs)))),s.B⟩
      else none
     |none=>none
    |none=>none
   |none=>none
  |_=>none
  else none
 |_=>none
abbrev DQ:=List n8->Bool->q7->CS->Option (List CS×List CS)
def xN:List (E4×CS)->List CS
 |[]=>[]
 |(.normal,s)::r=>s::xN r
 |_::r=>xN r
def xg:List (E4×CS)->List (E4×CS)
 |[]=>[]
 |(.normal,_)::r=>xg r
 |x::r=>x::xg r
def VY (id:Nat):List (E4×CS)->List (E4×CS)
 |[]=>[]
 |(.exit i,s)::r=>(if r9 i id then .normal else .exit i,s)::VY id r
 |x::r=>x::VY id r
def FH (kp:List Nat)(body:CS->Option (List (E4×CS)))(mask:List Bool)(strict n:Nat):Nat->List CS->Option (List (E4×CS))
 |0,l=>if l.isEmpty then some [] else none
 |k+1,l=>if l.isEmpty then some [] else
  match fc (fun s=>match IL mask strict n s with
   |some s' =>body s'
   |none=>none) l with
  |some outs=>match FH kp body mask strict n k (mN kp (xN outs)) with
   |some r=>some (xg outs++r)
   |none=>none
  |none=>none
def branch (v:SV)(s:CS):Option (List CS×List CS):=match v with
 | .d x=>match x.bool? with
  |some (.t b)=>some (if b then ([s],[]) else ([],[s]))
  |some (.u c)=>some (match rG s.B c true with|some B' =>[{ s with B:=B' }]|none=>[],match rG s.B c false with|some B' =>[{ s with B:=B' }]|none=>[])
  |none=>none
 |_=>none
def qx:List SS->q7->Option (List CS×List CS)
 |[],_=>some ([],[])
 |o::r,c=>match branch (bO o.T o.L c) ⟨o.T,o.H,o.B⟩,qx r c with
  |some (p,q),some (p',q')=>some (p++p',q++q')
  |_,_=>none
section
variable (A:Prog) (sem:Sem) (hook:DQ) (kp:List Nat) (lim:G9) (entry fuel:Nat)
def aX:o8->CS->Option (List (E4×CS))
 | .skip,s=>some [(.normal,s)]
 | .region ops draw,s=>match wg A sem lim entry ops draw s.T s.H s.B with
  |some outs=>some (outs.map fun o=>(.normal,⟨o.T,o.H,o.B⟩))
  |none=>none
 | .seq a b,s=>match aX a s with
  |some outs=>match fc (aX b) (mN kp (xN outs)) with
   |some r=>some (xg outs++r)
   |none=>none
  |none=>none
 | .cond c a b,s=>match branch (bO s.T [] c) s with
  |some (p,q)=>match fc (aX a) p,fc (aX b) q with
   |some x,some y=>some (x++y)
   |_,_=>none
  |none=>none
 | .test ops draw c a b,s=>match (match hook ops draw c s with
   |some pq=>some pq
   |none=>match wg A sem lim entry ops draw s.T s.H s.B with
    |some outs=>qx outs c
    |none=>none) with
  |some (p,q)=>match fc (aX a) (mN kp p),fc (aX b) (mN kp q) with
   |some x,some y=>some (x++y)
   |_,_=>none
  |none=>none
 | .block id body,s=>match aX body s with
  |some outs=>some (VY id outs)
  |none=>none
 | .loop mask body,s=>FH kp (aX body) mask lim.strict s.H.length fuel [s]
 | .exit id,s=>some [(.exit id,s)]
 | .ret,s=>some [(.ret,s)]
 | .fz t,s=>match sfz lim entry t s with
  |some s' =>some [(.normal,s')]
  |none=>none
 | .bad,_=>none
end
def SG (A:Prog)(l:G9)(b:Nat)(mask:List Bool)(body:o8)(n0:Nat)(st:St)(Q:E4->St->Prop):Prop :=
 ∃ x s N,Q x s/\∀ n,N<=n->∀ j,N<=j->fm (exec (M4 A n l b) n body) mask l.strict n0 j st=some (x,s)
section
variable {A:Prog} {l:G9} {b:Nat}
theorem SG.step {mask:List Bool}{body:o8}{n0:Nat}{st:St}{Q:E4->St->Prop}(h:Ex A l b body (clean mask l.strict n0 st) (xq Q fun s' =>SG A l b mask body n0 s' Q)):SG A l b mask body n0 st Q:=by
 obtain ⟨x,s1,N,hq,h1⟩:=h;cases x with
 |normal =>
  obtain ⟨x,s2,N2,Sv,h2⟩:=hq;refine ⟨x,s2,max N N2+1,Sv,fun n hn j hj=> ?_⟩;obtain ⟨j,rfl⟩:∃ j',j=j' +1:=⟨j - 1,by omega⟩
  grind [fm]
 |exit i =>
  refine ⟨_,_,N+1,hq,fun n hn j hj=> ?_⟩;obtain ⟨j,rfl⟩:∃ j',j=j' +1:=⟨j - 1,by omega⟩
  grind [fm]
 |ret =>
  refine ⟨_,_,N+1,hq,fun n hn j hj=> ?_⟩;obtain ⟨j,rfl⟩:∃ j',j=j' +1:=⟨j - 1,by omega⟩
  grind [fm]
theorem Ex.ofL {mask:List Bool}{body:o8}{st:St}{Q:E4->St->Prop}(h:SG A l b mask body st.H.length st Q):Ex A l b (.loop mask body) st Q:=by
 obtain ⟨x,s,N,hq,h⟩:=h;exact ⟨x,s,N,hq,fun n hn=>by exact h n hn n hn⟩
theorem SG.mono {mask:List Bool}{body:o8}{n0:Nat}{st:St}{Q R:E4->St->Prop}(h:SG A l b mask body n0 st Q)(k:∀ x s,Q x s->R x s):SG A l b mask body n0 st R:=by
 obtain ⟨x,s,N,hq,h⟩:=h;exact ⟨x,s,N,k x s hq,h⟩
def Cc (C:Ctx)(A:Prog)(l:G9)(b:Nat)(hook:DQ):Prop:=∀ ops dr c s p q,hook ops dr c s=some (p,q)->∀ vs T H,CS.g C vs s ⟨T,H⟩ ->
 Rn A l b ops dr T H fun T' H' L=>∃ t,F5 T' L c= .d (.bool t)/\∃ o,o ∈ (if t then p else q)/\∃ ws,Le vs ws/\o.g C ws ⟨T',H'⟩
variable {C:Ctx}
def Post (C:Ctx)(vs:List Nat)(outs:List (E4×CS))(x:E4)(st:St):Prop:=∃ o,o ∈ outs/\o.1=x/\∃ ws,Le vs ws/\o.2.g C ws st
theorem Post.sub {vs ws:List Nat}{o1 o2:List (E4×CS)}{x:E4}{st:St}(h:Post C ws o1 x st)(hl:Le vs ws)(hs:∀ o,o ∈ o1->o ∈ o2):Post C vs o2 x st:=by
 obtain ⟨o,h1,h2,us,l1,h3⟩:=h;exact ⟨o,hs o h1,h2,us,hl.trans l1,h3⟩
theorem tF:∀ {l:List (E4×CS)} {o:E4×CS},o ∈ l->o.1= .normal->o.2 ∈ xN l
 |(e,s)::r,o,hm,h=>by
  rcases C6.1 hm with rfl|hm
  ·simp_all [xN]
  ·have:=tF hm h
   cases e<;>simp [xN,this]
theorem jD:∀ {l:List (E4×CS)} {o:E4×CS},o ∈ l->o.1≠ .normal->o ∈ xg l
 |(e,s)::r,o,hm,h=>by
  rcases C6.1 hm with rfl|hm
  ·simp_all [xg]
  ·have:=jD hm h
   cases e<;>simp [xg,this]
theorem KC {id:Nat}:∀ {l:List (E4×CS)} {o:E4×CS},o ∈ l->(match o.1 with| .exit i=>if i=id then (E4.normal,o.2) else (E4.exit i,o.2)|x=>(x,o.2)) ∈ VY id l
 |(e,s)::r,o,hm=>by
  rcases C6.1 hm with rfl|hm
  ·cases e with
   |exit i =>
    simp_all [VY]<;>grind
   |normal=>simp [VY]
   |ret=>simp [VY]
  ·have:=KC (id:=id) hm
   cases e<;>simp [VY,C6]<;>exact .inr this
theorem vZ {vs:List Nat}:∀ (m:List Bool) {x:List SV} {v:List b6},q6.g C vs x v->q6.g C vs (uC m x) (V0 m v)
 |m,[],_,h=>by simp_all [q6.g,uC,V0]
 |[],x::xs,_,h=>by
  obtain ⟨d,ds,rfl,h1,h2⟩:=h;exact ⟨_,_,rfl,rfl,vZ [] h2⟩
 |true::m,x::xs,_,h=>by
  obtain ⟨d,ds,rfl,h1,h2⟩:=h;exact ⟨_,_,rfl,h1,vZ m h2⟩
 |false::m,x::xs,_,h=>by
  obtain ⟨d,ds,rfl,h1,h2⟩:=h;exact ⟨_,_,rfl,rfl,vZ m h2⟩
theorem QD {vs:List Nat}{s s' :CS}{st:St}{mask:List Bool}{strict n:Nat}(hs:s.g C vs st)(h:IL mask strict n s=some s'):s'.g C vs (clean mask strict n st):=by
 obtain ⟨hT,hH,hB⟩:=hs;have hm:=vZ mask hT;unfold IL at h;split at h
 ·rename_i a bs ha NS
  have e1:=q6.bD ha hm;have e2:=Cm NS hH;split at h
  ·rename_i hc
   simp [b5,Nat.ble_eq] at hc;cases h;unfold clean;rw [if_pos ⟨by omega,by simp_all [nQ]⟩];exact ⟨hm,H6.take hH n,hB⟩
  ·cases h
   unfold clean;rw [if_neg (by simp_all [nQ])];exact ⟨hm,hH,hB⟩
 ·cases h
theorem aZ {vs:List Nat}:∀ {x:List SV} {v:List b6} {k:Nat} {r:Nat×Nat×Nat×Nat×Nat},q6.g C vs x v->yA x k=some r->ep v k=some r
 |[],_,_,_,_,h=>by simp [yA] at h
 |x::xs,_,k,r,hg,h=>by
  simp only [q6.g] at hg;obtain ⟨d,ds,rfl,h1,h2⟩:=hg;cases x<;>simp only [yA,reduceCtorEq] at h<;>simp only [SV.g] at h1
  ·subst h1;simp only [ep];exact aZ h2 h
  ·obtain ⟨_,rfl,_⟩:=h1;simp only [ep];exact aZ h2 h
  ·obtain ⟨_,_,rfl,_⟩:=h1;simp only [ep];exact aZ h2 h
  ·subst h1;simp only [ep];exact aZ h2 h
  ·subst h1;simp only [ep];exact aZ h2 h
  ·obtain ⟨_,_,rfl,_⟩:=h1;simp only [ep];exact aZ h2 h
  ·subst h1;simp only [ep];exact h
  ·obtain ⟨_,rfl,_⟩:=h1;simp only [ep];exact aZ h2 h
  ·obtain ⟨_,rfl,_⟩:=h1;simp only [ep];exact aZ h2 h
  ·obtain ⟨_,h0,_⟩:=h1;cases d<;>simp only [b6.G4,reduceCtorEq] at h0<;>simp only [ep]<;>exact aZ h2 h
  ·obtain ⟨_,_,rfl⟩:=h1;simp only [ep];exact aZ h2 h
theorem aq1 {vs:List Nat}{s s' :CS}{st:St}{entry t:Nat}(hs:s.g C vs st)(h:sfz l entry t s=some s'):∃ st',Ic l entry t st=some st' /\s'.g C vs st' :=by
 obtain ⟨hT,hH,hB⟩:=hs;unfold sfz at h;split at h
 ·rename_i b' o e
  obtain ⟨a,h1,h2⟩:=q6.get hT e;subst h2;split at h
  ·rename_i ho
   have ho:=b9 ho;split at h
   ·rename_i p cs e2
    obtain ⟨o,h3,h4⟩:=H6.get hH e2;obtain ⟨ds,rfl,h5,_⟩:=h4;split at h
    ·rename_i i id sz lo len hr
     have hr:=aZ h5 hr;split at h
     ·rename_i l' hl
      obtain ⟨us,h6,h7⟩:=Bi hH hl;split at h
      ·rename_i xs hxs
       obtain ⟨ys,h8,h9⟩:=mX h7 hxs;split at h
       ·rename_i hc
        simp only [b5,Nat.ble_eq] at hc;obtain ⟨⟨⟨⟨⟨c1,c2⟩,c3⟩,c4⟩,c5⟩,c6⟩:=hc;have c6:=b9 c6;have c5:id≠b' :=fun e=>by simp_all
        cases h;refine ⟨⟨G5 id st.T,((st.H.take l.base++(st.H.drop l.base).map (y7.kill id)).set id .dead).set b' (.cells ((G5 id ds).set i (.d (.slice len ys))))⟩,?_,q6.dy id hT,H6.set (H6.set (H6.app (H6.take hH _) (H6.map (fun _ _=>SO.dy id) (H6.drop hH _))) id (a:= .dead) (b:= .dead) rfl) b' (a:= .cells none ((q6.kill id cs).set i (.d (mkSlice sz len xs)))) (b:= .cells ((G5 id ds).set i (.d (.slice len ys)))) ⟨_,rfl,q6.set (q6.dy id h5) i (bT (od c6 h9)),fun k h=>by cases h⟩,hB⟩;simp_all [Ic,if_pos]
       ·cases h
      ·cases h
     ·cases h
    ·cases h
   ·cases h
  ·cases h
 ·cases h
theorem Ed {vs:List Nat}{v:SV}{a:b6}{s:CS}{st:St}{p q:List CS}(hv:v.g C vs a)(hs:s.g C vs st)(h:branch v s=some (p,q)):∃ t,a= .d (.bool t)/\∃ o,o ∈ (if t then p else q)/\o.g C vs st:=by
 unfold branch at h;split at h
 ·obtain ⟨d,rfl,h1⟩:=aF hv
  split at h
  ·grind [SD.dc,Option.some.injEq]
  ·rename_i c hc
   obtain ⟨t,rfl,h2⟩:=SD.dc hc h1;obtain ⟨B',h3,h4⟩:=AY hs.2.2 h2;refine ⟨t,rfl,{ s with B:=B' },?_,hs.1,hs.2.1,h4⟩
   grind
  ·cases h
 ·cases h
theorem qy:∀ {outs:List SS} {c:q7} {p q:List CS},qx outs c=some (p,q)->∀ o,o ∈ outs->∃ p' q',branch (bO o.T o.L c) ⟨o.T,o.H,o.B⟩=some (p',q')/\(∀ x,x ∈ p' ->x ∈ p)/\∀ x,x ∈ q' ->x ∈ q
 |o::r,c,p,q,h,o',hm=>by
  simp [qx] at h;split at h
  ·rename_i p1 q1 p2 q2 h1 h2
   rcases C6.1 hm with rfl|hm
   ·grind
   ·obtain ⟨p',q',h3,h4,h5⟩:=qy h2 o' hm
    grind
  ·cases h
variable {sem:Sem} (eA:ee C A sem) {hook:DQ} (Ez:Cc C A l b hook) {kp:List Nat} {fuel:Nat}
omit eA Ez in
theorem Kr {body:o8}{sb:CS->Option (List (E4×CS))}(hb:∀ {vs s st outs},CS.g C vs s st->sb s=some outs->Ex A l b body st (Post C vs outs)){mask:List Bool}{n0:Nat} :
  ∀ (k:Nat) {L:List CS} {vs:List Nat} {s:CS} {st:St} {outs:List (E4×CS)},s ∈ L->s.g C vs st->FH kp sb mask l.strict n0 k L=some outs->SG A l b mask body n0 st (Post C vs outs)
 |0,L,vs,s,st,outs,hm,hs,h=>by
  simp_all [FH]
 |k+1,L,vs,s,st,outs,hm,hs,h=>by
  have hne:L.isEmpty=false:=by grind
  simp [FH,hne,b7,if_false] at h;split at h
  ·rename_i os hos
   split at h
   ·rename_i r hr
    cases h;obtain ⟨x,hx,hmx⟩:=V7 hos s hm;split at hx
    ·rename_i s' hs'
     refine SG.step ((hb (QD hs hs') hx).mono ?_);rintro e st' ⟨o,o1,rfl,ws,l1,o3⟩;cases he:o.1 with
     |normal =>
      obtain ⟨t,t1,us,l2,t2⟩:=mO _ (tF (hmx o o1) he) o3;exact (Kr hb k t1 t2 hr).mono fun e QZ hp=>hp.sub (l1.trans l2) fun o h=>List.mem_append_right _ h
     |exit i=>exact ⟨o,List.mem_append_left _ (jD (hmx o o1) (by rw [he];simp)),he,ws,l1,o3⟩
     |ret=>exact ⟨o,List.mem_append_left _ (jD (hmx o o1) (by rw [he];simp)),he,ws,l1,o3⟩
    ·cases hx
   ·cases h
  ·cases h
include eA Ez
theorem eW:∀ (c:o8) {vs:List Nat} {s:CS} {st:St} {outs:List (E4×CS)},s.g C vs st->aX A sem hook kp l b fuel c s=some outs->Ex A l b c st (Post C vs outs)
 | .skip,vs,s,st,outs,hs,h=>by
  simp only [aX,Option.some.injEq] at h;subst h;exact Ex.skip ⟨_,B0.2 rfl,rfl,vs,Le.refl _,hs⟩
 | .exit id,vs,s,st,outs,hs,h=>by
  simp only [aX,Option.some.injEq] at h;subst h;exact Ex.exit ⟨_,B0.2 rfl,rfl,vs,Le.refl _,hs⟩
 | .ret,vs,s,st,outs,hs,h=>by
  simp only [aX,Option.some.injEq] at h;subst h;exact Ex.ret ⟨_,B0.2 rfl,rfl,vs,Le.refl _,hs⟩
 | .bad,vs,s,st,outs,hs,h=>by simp [aX] at h
 | .region ops draw,vs,s,st,outs,hs,h=>by
  simp only [aX] at h;split at h
  ·rename_i os hos
   cases h;obtain ⟨r,N,⟨o,o1,ws,l1,g1,g2,g3,g4⟩,hr⟩:=Bj eA hs.1 hs.2.1 hs.2.2 hos;exact Ex.region ⟨r,N,⟨_,List.mem_map.2 ⟨o,o1,rfl⟩,rfl,ws,l1,g1,g2,g4⟩,hr⟩
  ·cases h
 | .seq a c,vs,s,st,outs,hs,h=>by
  simp only [aX] at h;split at h
  ·rename_i os hos
   split at h
   ·rename_i r hr
    cases h;refine Ex.seq ((eW a hs hos).mono ?_);rintro e st' ⟨o,o1,rfl,ws,l1,o3⟩;cases he:o.1 with
    |normal =>
     obtain ⟨t,t1,us,l2,t2⟩:=mO _ (tF o1 he) o3;obtain ⟨x,hx,hmx⟩:=V7 hr t t1;exact (eW c t2 hx).mono fun e QZ hp=>hp.sub (l1.trans l2) fun o h=>List.mem_append_right _ (hmx o h)
    |exit i=>exact ⟨o,List.mem_append_left _ (jD o1 (by rw [he];simp)),he,ws,l1,o3⟩
    |ret=>exact ⟨o,List.mem_append_left _ (jD o1 (by rw [he];simp)),he,ws,l1,o3⟩
   ·cases h
  ·cases h
 | .cond c a d,vs,s,st,outs,hs,h=>by
  simp only [aX] at h;split at h
  ·rename_i p q hpq
   split at h
   ·rename_i x y hx hy
    cases h;obtain ⟨t,h1,o,o1,o2⟩:=Ed (Dw (L:=[]) (L' :=[]) hs.1 (by simp [q6.g]) c) hs hpq;refine Ex.cond h1 (fun ht=> ?_) (fun ht=> ?_)
    ·obtain ⟨z,hz,hm⟩:=V7 hx o (by simp_all)
     exact (eW a o2 hz).mono fun e QZ hp=>hp.sub (Le.refl _) fun o h=>List.mem_append_left _ (hm o h)
    ·obtain ⟨z,hz,hm⟩:=V7 hy o (by simp_all)
     exact (eW d o2 hz).mono fun e QZ hp=>hp.sub (Le.refl _) fun o h=>List.mem_append_right _ (hm o h)
   ·cases h
  ·cases h
 | .test ops draw c a d,vs,s,⟨T,H⟩,outs,hs,h=>by
  simp only [aX] at h;split at h
  ·rename_i p q hpq
   split at h
   ·rename_i x y hx hy
    cases h;have hR:Rn A l b ops draw T H fun T' H' L=>∃ t,F5 T' L c= .d (.bool t)/\∃ o,o ∈ (if t then p else q)/\∃ ws,Le vs ws/\o.g C ws ⟨T',H'⟩:=by
     split at hpq
     ·rename_i pq hh
      cases hpq;exact Ez _ _ _ _ _ _ hh vs T H hs
     ·split at hpq
      ·rename_i os hos
       obtain ⟨r,N,⟨o,o1,ws,l1,g1,g2,g3,g4⟩,hr⟩:=Bj eA hs.1 hs.2.1 hs.2.2 hos;obtain ⟨p',q',h1,h2,h3⟩:=qy hpq o o1;obtain ⟨t,h4,u,u1,u2⟩:=Ed (st:=⟨r.T,r.H⟩) (Dw g1 g3 c) ⟨g1,g2,g4⟩ h1;refine ⟨r,N,⟨t,h4,u,?_,ws,l1,u2⟩,hr⟩
       grind
      ·cases hpq
    obtain ⟨r,N,⟨t,h4,u,u1,ws,l1,u2⟩,hr⟩:=hR;refine Ex.test ⟨r,N,⟨t,h4,fun ht=> ?_,fun ht=> ?_⟩,hr⟩
    ·subst ht
     obtain ⟨m,m1,us,l2,m2⟩:=mO _ (by omega) u2;obtain ⟨z,hz,hm⟩:=V7 hx m m1;exact (eW a m2 hz).mono fun e QZ hp=>hp.sub (l1.trans l2) fun o h=>List.mem_append_left _ (hm o h)
    ·subst ht
     obtain ⟨m,m1,us,l2,m2⟩:=mO _ (by omega) u2;obtain ⟨z,hz,hm⟩:=V7 hy m m1;exact (eW d m2 hz).mono fun e QZ hp=>hp.sub (l1.trans l2) fun o h=>List.mem_append_right _ (hm o h)
   ·cases h
  ·cases h
 | .block id body,vs,s,st,outs,hs,h=>by
  simp only [aX] at h;split at h
  ·rename_i os hos
   cases h;refine Ex.block ((eW body hs hos).mono ?_);rintro e st' ⟨o,o1,rfl,ws,l1,o3⟩;have hm:=KC (id:=id) o1;cases he:o.1 with
   |normal=>rw [he] at hm;exact ⟨_,hm,rfl,ws,l1,o3⟩
   |ret=>rw [he] at hm;exact ⟨_,hm,rfl,ws,l1,o3⟩
   |exit i =>
    rw [he] at hm;simp only at hm;simp only [DE];split
    ·rename_i hi;rw [if_pos hi] at hm;exact ⟨_,hm,rfl,ws,l1,o3⟩
    ·rename_i hi;rw [if_neg hi] at hm;exact ⟨_,hm,rfl,ws,l1,o3⟩
  ·cases h
 | .loop mask body,vs,s,st,outs,hs,h=>by
  refine Ex.ofL ?_;rw [H6.len hs.2.1];exact Kr (sb:=aX A sem hook kp l b fuel body) (fun {_ _ _ _} h1 h2=>eW body h1 h2) fuel (B0.2 rfl) hs h
 | .fz t,vs,s,st,outs,hs,h=>by
  simp only [aX] at h;split at h
  ·rename_i s' hs'
   cases h;obtain ⟨st',h1,h2⟩:=aq1 hs hs';exact ⟨_,_,0,⟨_,B0.2 rfl,rfl,vs,Le.refl _,h2⟩,fun n _=>by
    simp_all [Ic,M4,exec]⟩
  ·cases h
end
def Dv (T:List SV)(H:List SO):zT->Option SV
 | .slot t=>T[t]?
 | .cell t none=>match T[t]? with
  |some (.ptr id off)=>match Ur H id off 1 with
   |some [v]=>some v.G4
   |_=>none
  |_=>none
 | .cell t (some n)=>match T[t]? with
  |some (.ptr id off)=>match H[id]? with
   |some (.cells p l)=>if L3 (off+n) l.length then some (.agg (if r9 off 0&&r9 n l.length then p else none) (((l.drop off).take n).map SV.G4)) else none
   |_=>none
  |_=>none
def jU (T:List SV)(H:List SO):List zT->Option (List SV)
 |[]=>some []
 |r::rs=>match Dv T H r,jU T H rs with
  |some v,some vs=>some (v::vs)
  |_,_=>none
def Ds:List SV->SV
 |[v]=>v
 |vs=> .tuple (vs.map SV.G4)
def Dl (H:List SO)(n:Nat):Nat->List SV->Option (List SV)
 |0,_=>none
 |fuel+1,l=>match l with
  |[]=>some []
  |v::vs=>match Dl H n fuel vs with
   |none=>none
   |some ws=>match v with
    | .D4 id sz lo len=>if Nat.blt id n then some (.D4 id sz lo len::ws) else match Ur H id lo (len * sz) with
     |some us=>match Dl H n fuel us with
      |some us' =>match iN us' with
       |some xs=>if r9 xs.length (len * sz) then some (.d (mkSlice sz len xs)::ws) else none
       |none=>none
      |none=>none
     |none=>none
    | .agg p l=>match Dl H n fuel l with
     |some l' =>some (.agg (match q6.V8 l with|some 0=>p|_=>none) l' ::ws)
     |none=>none
    | .tuple l=>match Dl H n fuel l with
     |some l' =>some (.tuple l' ::ws)
     |none=>none
    | .top=>none
    | .bn k=>if r9 k 0 then some (.bn 0::ws) else none
    |v=>some (v::ws)
def vY (aA:Bool)(n:Nat)(vs:List SV)(H:List SO):Option (SV×List SO) :=
 if aA then some (Ds vs,H) else match Dl H n 1000 [Ds vs] with
  |some [v]=>match v.V8 with
   |some b=>if L3 b n then some (v,H.take n) else none
   |none=>none
  |_=>none
section
variable {C:Ctx} {vs:List Nat}
theorem Jt (cs:List b6):(cs.map b6.G4).map b6.G4=cs.map b6.G4:=by
 rw [List.map_map]
 congr 1
 funext v
 cases v<;>rfl
theorem NB {T:List SV}{H:List SO}{T' :List b6}{H' :o6}(hT:q6.g C vs T T')(hH:H6.g C vs H H'){r:zT}{v:SV}(h:Dv T H r=some v):∃ a,kQ T' H' r=some a/\v.g C vs a:=by
 unfold Dv at h;split at h
 ·exact q6.get hT h
 ·split at h
  ·rename_i id off e
   obtain ⟨a,h1,h2⟩:=q6.get hT e;rw [bM h2] at h1
   grind [Bi,q6.g,kQ,SV.oC]
  ·cases h
 ·rename_i t n
  split at h
  ·rename_i id off e
   obtain ⟨a,h1,h2⟩:=q6.get hT e;rw [bM h2] at h1;split at h
   ·rename_i p l hl
    split at h
    ·cases h
     obtain ⟨o,h3,h4⟩:=H6.get hH hl;obtain ⟨cs,rfl,h5,h6⟩:=h4;have hlen:=q6.len h5;refine ⟨.agg (((cs.drop off).take n).map b6.G4),?_,?_⟩
     ·simp_all [kQ,rd,if_pos]
     ·refine ⟨_,rfl,q6.map (fun _ _=>SV.oC) (q6.take (q6.drop h5 off) n),fun k hk=> ?_⟩
      split at hk
      ·grind [b9,q5,Jt]
      ·cases hk
    ·cases h
   ·cases h
  ·cases h
theorem yB {T:List SV}{H:List SO}{T' :List b6}{H' :o6}(hT:q6.g C vs T T')(hH:H6.g C vs H H'):∀ {rs:List zT} {l:List SV},jU T H rs=some l->∃ as,cu T' H' rs=some as/\q6.g C vs l as
 |[],l,h=>by simp [jU,Option.some.injEq] at h;subst h;exact ⟨[],rfl,by simp [q6.g]⟩
 |r::rs,l,h=>by
  simp [jU] at h;split at h
  ·rename_i v ws hv hws
   obtain ⟨a,h1,h2⟩:=NB hT hH hv;obtain ⟨as,h3,h4⟩:=yB hT hH hws
   grind [cu,q6.g]
  ·cases h
theorem FI {l:List SV}{as:List b6}(h:q6.g C vs l as):(Ds l).g C vs (b8 as):=by
 have key:∀ {l:List SV} {as:List b6},q6.g C vs l as->(SV.tuple (l.map SV.G4)).g C vs (.tuple (as.map b6.G4)):=fun h=>by
  simp_all [SV.g,q6.map,SV.oC]
 match l,h with
 |[],h=>have:=key h;subst h;exact this
 |[v],h=>obtain ⟨d,_,rfl,h1,rfl⟩:=h;exact h1
 |v::w::l,h=>have:=key h;obtain ⟨d,_,rfl,h1,e,es,rfl,h2,h3⟩:=h;exact this
theorem SY {H:o6}{n:Nat}:∀ (fuel:Nat) {l ws:List b6},A4 l=0->bV H n fuel l=some ws->ws=l
 |0,l,ws,_,h=>by simp [bV] at h
 |fuel+1,[],ws,_,h=>by simp_all [bV,Option.some.injEq]
 |fuel+1,v::l,ws,hb,h=>by
  simp [A4] at hb;simp [bV] at h;split at h
  ·cases h
  ·rename_i us xC
   have e1:=SY fuel (by omega) xC;split at h
   ·simp [b6.N4] at hb
   ·rename_i l0
    simp [b6.N4] at hb;split at h
    ·rename_i l' hl'
     have e2:=SY fuel (l:=l0) (by omega) hl';simp_all
    ·cases h
   ·rename_i l0
    simp [b6.N4] at hb;split at h
    ·rename_i l' hl'
     have e2:=SY fuel (l:=l0) (by omega) hl';simp_all
    ·cases h
   simp_all
theorem yq {H:List SO}{H' :o6}{n:Nat}(hH:H6.g C vs H H'):∀ (fuel:Nat) {l ws:List SV} {as:List b6},q6.g C vs l as->Dl H n fuel l=some ws->∃ bs,bV H' n fuel as=some bs/\q6.g C vs ws bs
 |0,l,ws,as,_,h=>by simp [Dl] at h
 |fuel+1,[],ws,as,hg,h=>by
  simp only [q6.g] at hg;subst hg;simp only [Dl,Option.some.injEq] at h;subst h;exact ⟨[],by simp [bV],by simp [q6.g]⟩
 |fuel+1,v::l,ws,as,hg,h=>by
  simp only [q6.g] at hg;obtain ⟨a,as,rfl,ha,hl⟩:=hg;simp only [Dl] at h;split at h
  ·cases h
  ·rename_i us xC
   obtain ⟨bs,h1,h2⟩:=yq hH fuel hl xC;have fin:∀ {v:SV} {a:b6},v.g C vs a->q6.g C vs (v::us) (a::bs):=fun h=>by simp only [q6.g];exact ⟨_,_,rfl,h,h2⟩
   split at h
   ·rename_i id sz lo len
    rw [kS ha];split at h
    ·rename_i hc
     have hc:id<n:=o7 hc;cases h;exact ⟨.D4 id sz lo len::bs,by simp only [bV,h1];rw [if_pos hc],fin (by simp only [SV.g])⟩
    ·rename_i hc
     have hc:¬ id<n:=fun e=>hc (by rw [Nat.blt_eq];exact e)
     split at h
     ·rename_i q hq
      split at h
      ·rename_i q' hq'
       split at h
       ·rename_i xs hxs
        split at h
        ·rename_i hlen
         have hlen:=b9 hlen;cases h;obtain ⟨cs,h3,h4⟩:=Bi hH hq;obtain ⟨ds,h5,h6⟩:=yq hH fuel h4 hq';obtain ⟨es,h7,h8⟩:=mX h6 hxs;exact ⟨.d (.slice len es)::bs,by simp only [bV,h1];rw [if_neg hc];simp only [h3,h5,h7],fin (bT (od hlen h8))⟩
        ·cases h
       ·cases h
      ·cases h
     ·cases h
   ·rename_i p l'
    simp only [SV.g] at ha;obtain ⟨cs,rfl,h3,h4⟩:=ha;split at h
    ·rename_i l2 nY
     cases h;obtain ⟨ds,h5,h6⟩:=yq hH fuel h3 nY;refine ⟨.agg ds::bs,by simp only [bV,h1,h5],fin ?_⟩;simp only [SV.g];refine ⟨ds,rfl,h6,fun k hk=> ?_⟩;split at hk
     ·rename_i hb
      rw [SY fuel (q6.bD hb h3) h5];exact h4 k hk
     ·cases hk
    ·cases h
   ·rename_i l'
    simp only [SV.g] at ha;obtain ⟨cs,rfl,h3⟩:=ha;split at h
    ·rename_i l2 nY
     cases h;obtain ⟨ds,h5,h6⟩:=yq hH fuel h3 nY;exact ⟨.tuple ds::bs,by simp only [bV,h1,h5],fin (by simp only [SV.g];exact ⟨_,rfl,h6⟩)⟩
    ·cases h
   ·cases h
   ·rename_i k
    split at h
    ·rename_i hk
     have hk:=b9 hk;subst hk;cases h;simp only [SV.g] at ha;refine ⟨a::bs,?_,fin (by simp only [SV.g];exact ha)⟩;obtain ⟨a1,a2⟩:=ha;cases a<;>simp only [b6.N4,b6.one,b7,reduceCtorEq] at a1 a2<;>first
      |(simp only [bV,h1];done)
      |omega
    ·cases h
   ·rename_i w1 w2 w3 w4 w5
    cases h;refine ⟨a::bs,?_,fin ha⟩;cases v<;>simp only [SV.g] at ha
    ·exact absurd rfl w4
    ·subst ha;simp only [bV,h1]
    ·obtain ⟨_,rfl,_⟩:=ha;simp only [bV,h1]
    ·obtain ⟨_,_,rfl,_⟩:=ha;simp only [bV,h1]
    ·subst ha;simp only [bV,h1]
    ·subst ha;simp only [bV,h1]
    ·obtain ⟨_,_,rfl,_⟩:=ha;simp only [bV,h1]
    ·exact absurd rfl (w1 _ _ _ _)
    ·exact absurd rfl (w2 _ _)
    ·exact absurd rfl (w3 _)
    ·exact absurd rfl (w5 _)
    ·obtain ⟨_,h0,_⟩:=ha;cases a<;>simp only [b6.G4,reduceCtorEq] at h0<;>simp only [bV,h1]
    ·obtain ⟨_,_,rfl⟩:=ha;simp only [bV,h1]
theorem Nu {H H1:List SO}{H' :o6}{aA:Bool}{n:Nat}{l:List SV}{as:List b6}{v:SV}(hH:H6.g C vs H H')(hl:q6.g C vs l as)(h:vY aA n l H=some (v,H1)) :
  ∃ a H2,finish aA n as H' =some (a,H2)/\v.g C vs a/\H6.g C vs H1 H2:=by
 unfold vY at h;split at h
 ·cases h
  exact ⟨_,_,by simp_all [finish],FI hl,hH⟩
 ·split at h
  ·rename_i w hw
   split at h
   ·rename_i b hb
    split at h
    ·cases h
     obtain ⟨bs,h1,h2⟩:=yq hH 1000 (l:=[Ds l]) (as:=[b8 as]) (by simp_all [q6.g,FI]) hw;obtain ⟨a,_,rfl,h3,rfl⟩:=h2;have e:=SV.bD hb h3;refine ⟨a,H'.take n,?_,h3,H6.take hH n⟩;simp_all [finish,if_neg,if_pos]
    ·cases h
   ·cases h
  ·cases h
end
def SB.cl:SB->Bool
 | .qo=>true
 |_=>false
def Rel.cl:Rel->Bool
 | .no=>true
 |_=>false
mutual
def SD.cl:SD->Bool
 | .bool c=>c.cl
 | .int _ _ _ r=>r.cl
 | .slice v _ _ row=>v.isNone&&F2.cl row
 | .pr _ x=>x.cl
 |_=>true
def F2.cl:List SD->Bool
 |[]=>true
 |x::xs=>x.cl&&F2.cl xs
end
mutual
def SV.cl:SV->Bool
 | .d x=>x.cl
 | .own _ x=>x.cl
 | .q x=>x.cl
 | .Q5 r=>F2.cl r
 | .agg _ l=>q6.cl l
 | .tuple l=>q6.cl l
 |_=>true
def q6.cl:List SV->Bool
 |[]=>true
 |x::xs=>x.cl&&q6.cl xs
end
def SO.cl:SO->Bool
 | .cells _ l=>q6.cl l
 |_=>true
def H6.cl:List SO->Bool
 |[]=>true
 |x::xs=>x.cl&&H6.cl xs
section
variable {C:Ctx} {vs ws:List Nat}
mutual
theorem SD.bu:∀ (x:SD) {d:Data},x.cl=true->x.g C vs d->x.g C ws d
 | .top,_,_,_=>by simp [SD.g]
 | .lit _,_,_,h=>by simp_all [SD.g]
 | .bool c,_,hc,h=>by
  cases c with
  |qo=>obtain ⟨b,h1,_⟩:=h;exact ⟨b,h1,trivial⟩
  |cmp=>simp [SD.cl,SB.cl] at hc
 | .int k lo hi r,_,hc,h=>by
  cases r with
  |no=>obtain ⟨b,h1,h2,h3,_⟩:=h;exact ⟨b,h1,h2,h3,trivial⟩
  |eq=>simp [SD.cl,Rel.cl] at hc
  |lt=>simp [SD.cl,Rel.cl] at hc
 | .anyI _,_,_,h=>by simp_all [SD.g]
 | .str _,_,_,h=>by simp_all [SD.g]
 | .slice v lo hi row,_,hc,h=>by
  cases v with
  |some i=>simp [SD.cl] at hc
  |none =>
   obtain ⟨rows,h1,h2,h3,_,h5⟩:=h;exact ⟨rows,h1,h2,h3,(fun i e=>by cases e),fun r hr=>F2.bu row hc (h5 r hr)⟩
 | .pr _ x,_,hc,h=>by exact ⟨h.1,SD.bu x hc h.2⟩
theorem F2.bu:∀ (x:List SD) {d:List Data},F2.cl x=true->F2.g C vs x d->F2.g C ws x d
 |[],_,_,h=>by simp_all [F2.g]
 |x::xs,_,hc,h=>by
  simp [F2.cl,b5] at hc;obtain ⟨d,ds,h1,h2,h3⟩:=h;exact ⟨d,ds,h1,SD.bu x hc.1 h2,F2.bu xs hc.2 h3⟩
end
mutual
theorem SV.bu:∀ (x:SV) {d:b6},x.cl=true->x.g C vs d->x.g C ws d
 | .top,_,_,_=>by simp [SV.g]
 | .any,_,_,h=>by simpa only [SV.g] using h
 | .d x,_,hc,h=>by simp only [SV.cl] at hc;simp only [SV.g] at h ⊢;obtain ⟨y,h1,h2⟩:=h;exact ⟨y,h1,SD.bu x hc h2⟩
 | .own _ x,_,hc,h=>by simp only [SV.cl] at hc;simp only [SV.g] at h ⊢;obtain ⟨a,b,h1,h2⟩:=h;exact ⟨a,b,h1,SD.bu x hc h2⟩
 | .I8,_,_,h=>by simpa only [SV.g] using h
 | .ptr ..,_,_,h=>by simpa only [SV.g] using h
 | .Q5 row,_,hc,h=>by simp only [SV.cl] at hc;simp only [SV.g] at h ⊢;obtain ⟨a,b,h1,h2⟩:=h;exact ⟨a,b,h1,F2.bu row hc h2⟩
 | .D4 ..,_,_,h=>by simpa only [SV.g] using h
 | .wp ..,_,_,h=>by simpa only [SV.g] using h
 | .agg p l,_,hc,h=>by simp only [SV.cl] at hc;simp only [SV.g] at h ⊢;obtain ⟨cs,h1,h2,h3⟩:=h;exact ⟨cs,h1,q6.bu l hc h2,h3⟩
 | .tuple l,_,hc,h=>by simp only [SV.cl] at hc;simp only [SV.g] at h ⊢;obtain ⟨cs,h1,h2⟩:=h;exact ⟨cs,h1,q6.bu l hc h2⟩
 | .bn _,_,_,h=>by simpa only [SV.g] using h
 | .q x,_,hc,h=>by simp only [SV.cl] at hc;simp only [SV.g] at h ⊢;obtain ⟨y,h1,h2⟩:=h;exact ⟨y,h1,SD.bu x hc h2⟩
theorem q6.bu:∀ (x:List SV) {d:List b6},q6.cl x=true->q6.g C vs x d->q6.g C ws x d
 |[],_,_,h=>by simpa only [q6.g] using h
 |x::xs,_,hc,h=>by
  simp only [q6.cl,b5] at hc;simp only [q6.g] at h ⊢;obtain ⟨d,ds,h1,h2,h3⟩:=h;exact ⟨d,ds,h1,SV.bu x hc.1 h2,q6.bu xs hc.2 h3⟩
end
theorem SO.bu (x:SO){o:y7}(hc:x.cl=true)(h:x.g C vs o):x.g C ws o:=by
 cases x with
 |dead=>exact h
 |cells p l=>obtain ⟨cs,h1,h2,h3⟩:=h;exact ⟨cs,h1,q6.bu l hc h2,h3⟩
 |pr k=>exact h
 |bn k=>exact h
 |top=>trivial
 |yd k b=>exact h
theorem H6.bu:∀ (x:List SO) {o:o6},H6.cl x=true->H6.g C vs x o->H6.g C ws x o
 |[],_,_,h=>by simp_all [H6.g]
 |x::xs,_,hc,h=>by
  simp [H6.cl,b5] at hc;obtain ⟨d,ds,h1,h2,h3⟩:=h;exact ⟨d,ds,h1,SO.bu x hc.1 h2,H6.bu xs hc.2 h3⟩
end
def EO:List SV->Option (List Data)
 |[]=>some []
 | .d (.lit x)::r=>match EO r with
  |some xs=>some (x::xs)
  |none=>none
 |_=>none
abbrev Fact:=Nat->List Data->Bool
def wv (C:Ctx)(fact:Fact):Prop:=∀ k ds,fact k ds=true->C.Θ k (ds.map .d)
def Ky (fact:Fact)(p:Option Nat)(l:List SV):Option Nat->Bool
 |none=>true
 |some k=>FR p (some k)||(match EO l with
  |some ds=>fact k ds
  |none=>false)
mutual
def SV.le (fact:Fact)(B:fZ)(x:SV):SV->Bool
 | .top=>true
 | .any=>match x with
  | .any=>true
  |_=>false
 | .d y=>match x with
  | .d x=>SD.le B x y
  |_=>false
 | .own z y=>match x with
  | .own z' x=>r9 z z' &&SD.le B x y
  |_=>false
 | .I8=>match x with
  | .I8=>true
  |_=>false
 | .ptr i o=>match x with
  | .ptr i' o' =>r9 i i' &&r9 o o'
  |_=>false
 | .Q5 _=>false
 | .wp .. =>false
 | .D4 i z l n=>match x with
  | .D4 i' z' l' n' =>r9 i i' &&r9 z z' &&r9 l l' &&r9 n n'
  |_=>false
 | .agg p l=>match x with
  | .agg p' l' =>Ky fact p' l' p&&q6.le fact B l' l
  |_=>false
 | .tuple l=>match x with
  | .tuple l' =>q6.le fact B l' l
  |_=>false
 | .q y=>match x.data? with
  |some x=>SD.le B x y
  |none=>false
 | .bn k=>x.one&&(match x.V8 with
  |some b=>r9 b k
  |none=>false)
def q6.le (fact:Fact)(B:fZ)(xs:List SV):List SV->Bool
 |[]=>xs.isEmpty
 |y::ys=>match xs with
  |x::xs=>SV.le fact B x y&&q6.le fact B xs ys
  |[]=>false
end
def SO.le (fact:Fact)(B:fZ):SO->SO->Bool
 | .dead,.dead=>true
 | .cells p l,.cells p' l' =>Ky fact p l p' &&q6.le fact B l l'
 | .pr k,.pr k' =>r9 k k'
 | .yd k b,.yd k' b' =>r9 k k' &&r9 b b'
 |x,.bn k=>(match x.V8 with
  |some b=>r9 b k
  |none=>false)
 |_,.top=>true
 |_,_=>false
def H6.le (fact:Fact)(B:fZ):List SO->List SO->Bool
 |[],[]=>true
 |x::xs,y::ys=>x.le fact B y&&H6.le fact B xs ys
 |_,_=>false
section
variable {C:Ctx} {vs:List Nat} {B:fZ} {fact:Fact} (hB:Bg vs B) (hf:wv C fact)
theorem JW:∀ {l:List SV} {ds:List Data} {cs:List b6},EO l=some ds->q6.g C vs l cs->cs=ds.map .d
 |[],_,_,h,hg=>by simp_all [EO,Option.some.injEq,q6.g]
 |x::xs,_,_,h,hg=>by
  obtain ⟨d,ds',rfl,h1,h2⟩:=hg;unfold EO at h;split at h
  ·simp_all
  ·rename_i y r e
   cases e;split at h
   ·rename_i ys hys
    cases h;obtain ⟨q,rfl,h3⟩:=aF h1;subst h3;rw [JW hys h2];rfl
   ·cases h
  ·cases h
include hf in
theorem Kz {p q:Option Nat}{l:List SV}{cs:List b6}(h:Ky fact p l q=true)(hl:q6.g C vs l cs)(hp:∀ k,p=some k->C.Θ k (cs.map b6.G4)):∀ k,q=some k->C.Θ k (cs.map b6.G4):=by
 rintro k rfl;simp [Ky,Bool.or_eq_true] at h
 rcases h with h|h
 ·grind [FT]
 ·split at h
  ·rename_i ds hds
   rw [JW hds hl];have e:(ds.map b6.d).map b6.G4=ds.map b6.d:=by rw [List.map_map];rfl
   rw [e];exact hf k ds h
  ·cases h
include hB hf
mutual
theorem SV.bw:∀ (y:SV) {x:SV} {v:b6},SV.le fact B x y=true->x.g C vs v->y.g C vs v
 | .top,_,_,_,_=>by simp [SV.g]
 | .any,x,_,h,hg=>by cases x<;>simp only [SV.le,b7] at h;exact hg
 | .d y,x,_,h,hg=>by
  cases x<;>simp only [SV.le,b7] at h;obtain ⟨d,rfl,h1⟩:=aF hg;exact bT (SD.bw hB y h h1)
 | .own z y,x,_,h,hg=>by
  cases x<;>simp only [SV.le,b7,b5] at h;have e:=b9 h.1;subst e;obtain ⟨len,cells,rfl,h1⟩:=pZ hg;simp only [SV.g];exact ⟨_,_,rfl,SD.bw hB y h.2 h1⟩
 | .I8,x,_,h,hg=>by cases x<;>simp only [SV.le,b7] at h;exact hg
 | .ptr i o,x,_,h,hg=>by
  cases x<;>simp only [SV.le,b7,b5] at h;have e:=b9 h.1;have e2:=b9 h.2;subst e e2;exact hg
 | .Q5 _,x,_,h,hg=>by simp [SV.le] at h
 | .wp ..,x,_,h,hg=>by simp [SV.le] at h
 | .D4 i z l n,x,_,h,hg=>by
  cases x<;>simp only [SV.le,b7,b5] at h;have e1:=b9 h.1.1.1;have e2:=b9 h.1.1.2;have e3:=b9 h.1.2;have e4:=b9 h.2;subst e1 e2 e3 e4;exact hg
 | .agg p l,x,_,h,hg=>by
  cases x<;>simp only [SV.le,b7,b5] at h;simp only [SV.g] at hg ⊢;obtain ⟨cs,rfl,h1,h2⟩:=hg;exact ⟨cs,rfl,q6.bw l h.2 h1,Kz hf h.1 h1 h2⟩
 | .tuple l,x,_,h,hg=>by
  cases x<;>simp only [SV.le,b7] at h;simp only [SV.g] at hg ⊢;obtain ⟨cs,rfl,h1⟩:=hg;exact ⟨cs,rfl,q6.bw l h h1⟩
 | .q y,x,_,h,hg=>by
  simp only [SV.le] at h;split at h
  ·rename_i z hz
   obtain ⟨d,h0,h1⟩:=Dc hg hz;exact Db h0 (SD.bw hB y h h1)
  ·cases h
 | .bn k,x,_,h,hg=>by
  simp only [SV.le,b5] at h;split at h
  ·rename_i b hb
   have e:=b9 h.2;subst e;simp only [SV.g];exact ⟨SV.bD hb hg,SV.xS hg h.1⟩
  ·exact absurd h.2 (by simp)
theorem q6.bw:∀ (y:List SV) {x:List SV} {v:List b6},q6.le fact B x y=true->q6.g C vs x v->q6.g C vs y v
 |[],x,_,h,hg=>by
  cases x with
  |nil=>exact hg
  |cons=>simp [q6.le] at h
 |y::ys,x,_,h,hg=>by
  cases x<;>simp only [q6.le,b7,b5] at h;simp only [q6.g] at hg ⊢;obtain ⟨d,ds,rfl,h1,h2⟩:=hg;exact ⟨d,ds,rfl,SV.bw y h.1 h1,q6.bw ys h.2 h2⟩
end
theorem SO.bw {x y:SO}{o:y7}(h:x.le fact B y=true)(hg:x.g C vs o):y.g C vs o:=by
 have key:∀ k,(match x.V8 with|some b=>r9 b k|none=>false)=true->o.N4=k:=fun k hk=>by
  split at hk
  ·rename_i b hb
   rw [SO.bD hb hg];exact b9 hk
  ·cases hk
 cases y
 case top=>trivial
 case bn k=>exact key k (by cases x<;>simpa only [SO.le] using h)
 all_goals cases x<;>simp only [SO.le,b7,b5] at h
 ·exact hg
 ·obtain ⟨cs,rfl,h1,h2⟩:=hg
  exact ⟨cs,rfl,q6.bw hB hf _ h.2 h1,Kz hf h.1 h1 h2⟩
 ·have e:=b9 h
  subst e;exact hg
 ·have e1:=b9 h.1
  have e2:=b9 h.2;subst e1 e2;exact hg
theorem H6.bw:∀ {x y:List SO} {o:o6},H6.le fact B x y=true->H6.g C vs x o->H6.g C vs y o
 |[],[],_,_,hg=>hg
 |[],_::_,_,h,_=>by simp [H6.le] at h
 |_::_,[],_,h,_=>by simp [H6.le] at h
 |x::xs,y::ys,_,h,hg=>by
  simp [H6.le,b5] at h;obtain ⟨d,ds,rfl,h1,h2⟩:=hg;exact ⟨d,ds,rfl,SO.bw hB hf h.1 h1,H6.bw h.2 h2⟩
end
structure Spec where
 f:FuncId
 args:List SV
 H:List SO
 lim:G9
 outs:List (SV×List SO)
def Spec.cl (s:Spec):Bool:=q6.cl s.args&&H6.cl s.H&&s.outs.all fun o=>o.1.cl&&H6.cl o.2
def Spec.ok (C:Ctx)(A:Prog)(s:Spec):Prop:=s.cl=true/\∀ as Hc,q6.g C [] s.args as->H6.g C [] s.H Hc->Pq A s.f as Hc s.lim fun v H1=>∃ o,o ∈ s.outs/\o.1.g C [] v/\H6.g C [] o.2 H1
def kZ (a b:G9):Bool:=r9 a.UU b.UU&&r9 a.UT b.UT&&r9 a.base b.base&&r9 a.strict b.strict
def QI (fact:Fact)(specs:List Spec):Sem:=fun B f args H l=>match specs.find? (fun s=>r9 s.f f&&q6.le fact B args s.args&&H6.le fact B H s.H&&kZ s.lim l) with
 |some s=>some s.outs
 |none=>none
theorem QJ {C:Ctx}{A:Prog}{fact:Fact}(hf:wv C fact){specs:List Spec}(hs:∀ s,s ∈ specs->s.ok C A):ee C A (QI fact specs):=by
 intro B f args H l outs h vs hB as Hc ha hH;unfold QI at h;split at h
 ·rename_i s hfind
  cases h;have hm:=List.mem_of_find?_eq_some hfind;have hc:=List.find?_some hfind;simp only [b5,kZ] at hc;obtain ⟨⟨⟨c1,c2⟩,c3⟩,c4⟩:=hc;obtain ⟨k1,k2⟩:=hs s hm;have e:s.f=f:=b9 c1;have el:s.lim=l:=by
   cases vM:s.lim;simp_all
  simp only [Spec.cl,b5] at k1;obtain ⟨v,H1,⟨o,o1,o2,o3⟩,h1⟩:=k2 as Hc (q6.bu _ k1.1.1 (q6.bw hB hf _ c2 ha)) (H6.bu _ k1.1.2 (H6.bw hB hf c3 hH));rw [e,el] at h1;have k3:=List.all_eq_true.1 k1.2 o o1;simp [b5] at k3;exact ⟨v,H1,⟨o,o1,SV.bu _ k3.1 o2,H6.bu _ k3.2 o3⟩,h1⟩
 ·cases h
def cT (a b:Sem):Sem:=fun B f args H l=>match a B f args H l with
 |some r=>some r
 |none=>b B f args H l
theorem jQ {C:Ctx}{A:Prog}{a b:Sem}(ha:ee C A a)(hb:ee C A b):ee C A (cT a b):=by
 intro B f args H l outs h;unfold cT at h;split at h
 ·rename_i r hr;cases h;exact ha _ _ _ _ _ _ hr
 ·exact hb _ _ _ _ _ _ h
def PA (s:CS)(k:Nat):CS:=match s.T[k]? with
 |some v=>match EW s.B.length v with
  |some (w,p)=>{ s with T:=s.T.set k w,B:=s.B++[p] }
  |none=>s
 |none=>s
def CO (s:CS):Nat->CS
 |0=>s
 |n+1=>CO (PA s n) n
theorem Tz {C:Ctx}{vs:List Nat}{s:CS}{st:St}(hs:s.g C vs st)(k:Nat):∃ ws,Le vs ws/\(PA s k).g C ws st:=by
 unfold PA;split
 ·rename_i v e
  split
  ·rename_i w p hn
   rw [<- hs.2.2.1] at hn;obtain ⟨a,h1,h2⟩:=q6.get hs.1 e;obtain ⟨m,h3,h4,h5⟩:=CP hn h2;refine ⟨vs++[m],Le.app _ _,?_,H6.O0 (Le.app _ _) _ hs.2.1,hs.2.2.add h3 h4⟩;have:=q6.set (q6.O0 (Le.app vs [m]) _ hs.1) k h5;simp_all [X7]
  grind [Le.refl]
 grind [Le.refl]
theorem EV {C:Ctx}:∀ (n:Nat) {vs:List Nat} {s:CS} {st:St},s.g C vs st->∃ ws,Le vs ws/\(CO s n).g C ws st
 |0,vs,s,st,hs=>⟨vs,Le.refl _,hs⟩
 |n+1,vs,s,st,hs=>by
  obtain ⟨ws,l1,h1⟩:=Tz hs n;obtain ⟨us,l2,h2⟩:=EV n h1;exact ⟨us,l1.trans l2,h2⟩
def IU (s:CS)(j:Nat):List CS:=match s.T[j]? with
 |some (.d x)=>match x.int? s.B with
  |some (k,lo,hi,_)=>(mH k lo (hi - lo+1).toNat).map fun v=>{ s with T:=s.T.set j v }
  |none=>[s]
 |_=>[s]
def we:List Nat->List CS->List CS
 |[],l=>l
 |j::r,l=>we r (l.flatMap fun s=>IU s j)
theorem QS {C:Ctx}{vs:List Nat}{s:CS}{st:St}(hs:s.g C vs st)(j:Nat):∃ s',s' ∈ IU s j/\s'.g C vs st:=by
 have hs' :=hs;obtain ⟨hT,hH,hB⟩:=hs;unfold IU;split
 ·rename_i x e
  split
  ·rename_i k lo hi r hc
   obtain ⟨a,h1,h2⟩:=q6.get hT e;obtain ⟨d,rfl,h3⟩:=aF h2;obtain ⟨m,rfl,h4,h5,_⟩:=SD.gL hB hc h3;refine ⟨_,List.mem_map.2 ⟨_,kL _ lo m h4 (by omega),rfl⟩,?_,hH,hB⟩;have:=q6.set hT j (a:= .d (.lit (.int k m))) (b:= .d (.int k m)) (bT (by rfl));simp_all [X7]
  simp_all
 simp_all
theorem Bh {C:Ctx}{vs:List Nat}{st:St}:∀ (js:List Nat) {l:List CS} {s:CS},s ∈ l->s.g C vs st->∃ s',s' ∈ we js l/\s'.g C vs st
 |[],l,s,hm,hs=>⟨s,hm,hs⟩
 |j::js,l,s,hm,hs=>by
  obtain ⟨s1,h1,h2⟩:=QS hs j;exact Bh js (List.mem_flatMap.2 ⟨s,hm,h1⟩) h2
def Vg:E4->Bool
 | .exit _=>false
 |_=>true
def gU (A:Prog)(sem:Sem)(hook:DQ)(fact:Fact)(kp js:List Nat)(fuel:Nat)(af:p7)(s:Spec):Bool :=
 s.cl&&r9 s.args.length af.nparams&&match fc (aX A sem hook kp s.lim s.H.length fuel af.body) (we js [CO ⟨s.args++c9 (af.names.length - s.args.length) .any,s.H,[]⟩ s.args.length]) with
  |some outs=>outs.all fun o=>Vg o.1&&match jU o.2.T o.2.H af.results with
   |some l=>match vY af.aA s.H.length l o.2.H with
    |some (v,H1)=>s.outs.any fun p=>SV.le fact o.2.B v p.1&&H6.le fact o.2.B H1 p.2
    |none=>false
   |none=>false
  |none=>false
theorem oq {C:Ctx}{A:Prog}{sem:Sem}{hook:DQ}{fact:Fact}{kp js:List Nat}{fuel:Nat}{s:Spec}{af:p7}(eA:ee C A sem)(hf:wv C fact)(Ez:Cc C A s.lim s.H.length hook)(hp:A.gS s.f=none)(ha:A.fn s.f=some af)
  (h:gU A sem hook fact kp js fuel af s=true):s.ok C A:=by
 unfold gU at h;simp only [b5] at h;obtain ⟨⟨c1,c2⟩,c3⟩:=h;have c2:=b9 c2;refine ⟨c1,fun as Hc hA hH=> ?_⟩;split at c3
 ·rename_i outs hx
  have DK:=q6.len hA;have hHl:=H6.len hH;obtain ⟨ws,_,h0⟩:=EV s.args.length (C:=C) (vs:=[]) (s:=⟨s.args++c9 (af.names.length - s.args.length) .any,s.H,[]⟩) (st:=⟨as++c9 (af.names.length - as.length) .any,Hc⟩) ⟨by simp_all [q6.app,Ci],hH,rfl,fun i lo hi h=>by simp at h⟩;obtain ⟨s0,m0,h0⟩:=Bh js (B0.2 rfl) h0;obtain ⟨z,hz,hmz⟩:=V7 hx s0 m0;have h1:=eW eA Ez af.body h0 hz;refine Pq.run (b:=s.H.length) _ hp ha (by omega) hHl rfl (h1.mono ?_);rintro x st' ⟨o,o1,rfl,us,l1,g1,g2,g3⟩;have c4:=List.all_eq_true.1 c3 o (hmz o o1);simp [b5] at c4;obtain ⟨c5,c6⟩:=c4;split at c6
  ·rename_i l hl
   obtain ⟨bs,h2,h3⟩:=yB g1 g2 hl;split at c6
   ·rename_i v H1 tv
    obtain ⟨a,H2,h4,h5,h6⟩:=Nu g2 h3 tv;obtain ⟨p,p1,p2⟩:=List.any_eq_true.1 c6;simp [b5] at p2;refine ⟨a,H2,?_,p,p1,?_,?_⟩
    ·cases he:o.1 with
     |exit i=>rw [he] at c5;cases c5
     |normal=>simp_all [kF]
     |ret=>simp_all [kF]
    ·simp only [Spec.cl,b5] at c1
     have k3:=List.all_eq_true.1 c1.2 p p1;simp [b5] at k3;exact SV.bu _ k3.1 (SV.bw g3 hf _ p2.1 h5)
    ·simp only [Spec.cl,b5] at c1
     have k3:=List.all_eq_true.1 c1.2 p p1;simp [b5] at k3;exact H6.bu _ k3.2 (H6.bw g3 hf p2.2 h6)
   ·cases c6
  ·cases c6
 ·cases c3
mutual
def SD.Cq (B:fZ):SD->SD
 | .bool _=> .bool .qo
 | .int k lo hi _=> .int k lo hi .no
 | .slice v lo hi row=> .slice none (UN B v lo hi).1 (UN B v lo hi).2 (F2.Cq B row)
 | .pr k x=> .pr k (x.Cq B)
 |x=>x
def F2.Cq (B:fZ):List SD->List SD
 |[]=>[]
 |x::xs=>x.Cq B::F2.Cq B xs
end
mutual
def SV.Cq (B:fZ):SV->SV
 | .d x=> .d (x.Cq B)
 | .own z x=> .own z (x.Cq B)
 | .q x=> .q (x.Cq B)
 | .Q5 r=> .Q5 (F2.Cq B r)
 | .agg p l=> .agg p (q6.Cq B l)
 | .tuple l=> .tuple (q6.Cq B l)
 |x=>x
def q6.Cq (B:fZ):List SV->List SV
 |[]=>[]
 |x::xs=>x.Cq B::q6.Cq B xs
end
def SO.Cq (B:fZ):SO->SO
 | .cells p l=> .cells p (q6.Cq B l)
 |x=>x
section
variable {C:Ctx} {vs ws:List Nat} {B:fZ} (hB:Bg vs B)
include hB
end
def aL3 (af:p7)(n:Nat)(o:E4×CS):Option (List (SV×List SO)):=if Vg o.1 then match jU o.2.T o.2.H af.results with
  |some l=>match vY af.aA n l o.2.H with
   |some (v,H1)=>some [(v.Cq o.2.B,H1.map (SO.Cq o.2.B))]
   |none=>none
  |none=>none
 else none
def inl (A:Prog)(sem:Sem)(hook:DQ)(kp js:List Nat)(fuel:Nat)(fs:List (FuncId×p7)):Sem:=fun B f args H l=>match fs.find? (fun p=>r9 p.1 f) with
 |some p=>if r9 args.length p.2.nparams then match fc (aX A sem hook kp l H.length fuel p.2.body) (we js [CO ⟨args++c9 (p.2.names.length - args.length) .any,H,B⟩ args.length]) with
   |some outs=>fc (aL3 p.2 H.length) outs
   |none=>none
  else none
 |none=>none
section
variable {C D:Ctx} (Xd:C.Φ=D.Φ) (hΘ:C.Θ=D.Θ) {vs:List Nat}
include Xd
mutual
theorem SD.jF:∀ (x:SD) {d:Data},x.g C vs d->x.g D vs d
 | .top,_,h| .lit _,_,h| .bool _,_,h| .int ..,_,h| .anyI _,_,h| .str _,_,h=>by simp only [SD.g] at h ⊢<;>exact h
 | .slice v lo hi row,_,h=>by
  simp only [SD.g] at h ⊢;obtain ⟨rows,h1,h2,h3,h4,h5⟩:=h;exact ⟨rows,h1,h2,h3,h4,fun r hr=>F2.jF row (h5 r hr)⟩
 | .pr _ x,_,h=>by simp only [SD.g] at h ⊢;exact ⟨Xd ▸ h.1,SD.jF x h.2⟩
theorem F2.jF:∀ (x:List SD) {d:List Data},F2.g C vs x d->F2.g D vs x d
 |[],_,h=>by simpa only [F2.g] using h
 |x::xs,_,h=>by
  simp only [F2.g] at h ⊢;obtain ⟨d,ds,h1,h2,h3⟩:=h;exact ⟨d,ds,h1,SD.jF x h2,F2.jF xs h3⟩
end
include hΘ
mutual
theorem SV.jF:∀ (x:SV) {d:b6},x.g C vs d->x.g D vs d
 | .top,_,h| .any,_,h| .I8,_,h| .ptr ..,_,h| .D4 ..,_,h| .wp ..,_,h| .bn _,_,h=>by simp only [SV.g] at h ⊢<;>exact h
 | .d x,_,h=>by simp only [SV.g] at h ⊢;obtain ⟨y,h1,h2⟩:=h;exact ⟨y,h1,SD.jF Xd x h2⟩
 | .q x,_,h=>by simp only [SV.g] at h ⊢;obtain ⟨y,h1,h2⟩:=h;exact ⟨y,h1,SD.jF Xd x h2⟩
 | .own _ x,_,h=>by simp only [SV.g] at h ⊢;obtain ⟨a,b,h1,h2⟩:=h;exact ⟨a,b,h1,SD.jF Xd x h2⟩
 | .Q5 r,_,h=>by simp only [SV.g] at h ⊢;obtain ⟨a,b,h1,h2⟩:=h;exact ⟨a,b,h1,F2.jF Xd r h2⟩
 | .agg p l,_,h=>by simp only [SV.g] at h ⊢;obtain ⟨cs,h1,h2,h3⟩:=h;exact ⟨cs,h1,q6.jF l h2,fun k e=>hΘ ▸ h3 k e⟩
 | .tuple l,_,h=>by simp only [SV.g] at h ⊢;obtain ⟨cs,h1,h2⟩:=h;exact ⟨cs,h1,q6.jF l h2⟩
theorem q6.jF:∀ (x:List SV) {d:List b6},q6.g C vs x d->q6.g D vs x d
 |[],_,h=>by simpa only [q6.g] using h
 |x::xs,_,h=>by
  simp only [q6.g] at h ⊢;obtain ⟨d,ds,h1,h2,h3⟩:=h;exact ⟨d,ds,h1,SV.jF x h2,q6.jF xs h3⟩
end
def SO.plain:SO->Bool
 | .pr _=>false
 | .yd _ _=>false
 |_=>true
theorem SO.jF {x:SO}{o:y7}(hp:x.plain=true)(h:x.g C vs o):x.g D vs o:=by
 cases x with
 |cells p l=>obtain ⟨cs,h1,h2,h3⟩:=h;exact ⟨cs,h1,q6.jF Xd hΘ l h2,fun k e=>hΘ ▸ h3 k e⟩
 |pr k=>cases hp
 |yd k b=>cases hp
 |_=>exact h
end
end Go.y3.Sh


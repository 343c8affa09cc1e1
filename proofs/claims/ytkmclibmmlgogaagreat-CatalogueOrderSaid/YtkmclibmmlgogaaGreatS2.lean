/- Texts S9 S10 S11 S12 (made short by a program) -/
import Derived.Test.YtkmclibmmlgogaaGreatS1
set_option linter.unusedVariables false
set_option linter.unusedSimpArgs false
set_option linter.unusedSectionVars false
open Bool renaming and_eq_true → b5, false_eq_true → b7, not_eq_true' → j9
open List renaming drop_of_length_le → m7, getElem?_append_left → p4, getElem?_append_right → p9, getElem?_eq_none → q6, map_cons → G7, mem_cons → B8, mem_singleton → p8, replicate → c9, take_of_length_le → s6
open Nat renaming beq → y4, ble → J7, eq_of_beq_eq_true → b8, le_of_ble_eq_true → m6, le_refl → l5, lt_or_ge → p7
namespace Go.u7.Sh
open Go.u7
inductive Fk where
 |no
 |b (j:Nat)
 |i (j:Nat)
 |l (i:Nat)
def Si (B:ig):SV->Fk
 | .d z=>match z.ov B with
  |some (some i,lo,hi)=>if Nat.blt lo hi then .l i else .no
  |_=> .no
 |_=> .no
def Yc (s:SS):s9->Fk
 | .pick (.loc j) _ _=> .b j
 | .B7 _ x (.loc j)=>match bz s.T s.L x with
  | .D0 .. => .i j
  |_=> .no
 | .append _ _ ob x y=>if ob then Si s.B (bz s.T s.L y) else match bz s.T s.L x with
  | .D0 .. =>Si s.B (bz s.T s.L y)
  |_=> .no
 |_=> .no
def Mm (s:SS)(op:s9):List SS:=match Yc s op with
 | .no=>[s]
 | .b j=>CN s j
 | .i j=>Mk s j
 | .l i=>Ml s i
def UE (s:SS):s9->SS
 | .load none x=>match bz s.T s.L x with
  | .ptr id off=>MM s id off
  |_=>s
 |_=>s
def BV (L:List SV):Option (Nat×Bool)->Option Bool
 |none=>some true
 |some (j,want)=>match L[j]? with
  |some (.d x)=>match x.bool? with
   |some (.t b)=>some (b==want)
   |_=>none
  |some (.tuple [])=>some false
  |_=>none
def jl (s5:Option Nat)(s:SS)(k:Nat):Option Nat->Option SS
 |none=>some s
 |some t=>match s5 with
  |none=>if Nat.blt t s.T.length then some { (fh s (.loc k)).2 with T:=s.T.set t (fh s (.loc k)).1,n5:= .slot t::s.n5 } else none
  |some _=>if Nat.blt t s.T.length&&CU s.n5 t then some { (fh s (.loc k)).2 with T:=s.T.set t (fh s (.loc k)).1 } else none
section
variable (A:Prog) (sem:Sem) (lim:F9) (entry:Nat) (j4:List n8) (s5:Option Nat) (k:Nat)
def Hf (op:s9)(s:SS):Option (List (SS×List Nat)) :=
 if op.D5 then match Rf A sem lim entry j4 s5 k s op with
  |some outs=>some (outs.map fun o=>(o,[]))
  |none=>none
 else match op with
  | .M9 x=>some [(nr (fh s x).2 k (fh s x).1,[])]
  |op=>match wM (bz s.T s.L) s.H s.B op with
   |some (v,rs)=>some [(nr s k v,rs)]
   |none=>none
def Zo (dst:Option Nat)(o:SS×List Nat):Option (List (SS×List Nat)):=match jl s5 (MN o.1 k) k dst with
 |some s' =>some [(s',o.2)]
 |none=>none
def sdo (i:n8)(s:SS):Option (List (SS×List Nat)):=match Hf A sem lim entry j4 s5 k i.op (UE s i.op) with
 |some outs=>fP (Zo s5 k i.dst) outs
 |none=>none
def NY (i:n8)(s:SS):Option (List (SS×List Nat)):=match BV s.L i.guard with
 |some true=>fP (sdo A sem lim entry j4 s5 k i) (Mm s i.op)
 |some false=>match jl s5 (nr s k (.tuple [])) k i.dst with
  |some s' =>some [(s',[])]
  |none=>none
 |none=>none
def IE (i:n8)(s:SS):Option (List (SS×List Nat)):=fP (NY A sem lim entry j4 s5 k i) (match i.guard with
 |some (j,_)=>CN s j
 |none=>[s])
end
section
variable {C:Ctx} {vs:List Nat} {s:SS} {st:E1} {A:Prog} {sem:Sem}
theorem PX (hs:s.g C vs st)(op:s9):∃ s',s' ∈ Mm s op/\s'.g C vs st:=by
 unfold Mm;split
 ·exact ⟨s,p8.2 rfl,hs⟩
 ·exact HQ hs _
 ·exact PU hs _
 ·exact PW hs _
theorem UF (hs:s.g C vs st)(op:s9):∃ ws,Le vs ws/\(UE s op).g C ws st:=by
 unfold UE;split
 ·split
  ·exact Qt hs _ _
  ·exact ⟨vs,Le.refl _,hs⟩
 ·exact ⟨vs,Le.refl _,hs⟩
theorem zF (hs:s.g C vs st){gd:Option (Nat×Bool)}{t:Bool}(h:BV s.L gd=some t):u0 st.L gd=some t:=by
 cases gd with
 |none=>exact h
 |some p =>
  obtain ⟨j,want⟩:=p;simp only [BV] at h;split at h
  ·rename_i x e
   obtain ⟨a,h1,h2⟩:=r9.get hs.2.2.1 e;obtain ⟨d,rfl,h3⟩:=Z4 h2;split at h
   ·rename_i b hb
    obtain ⟨b',rfl,h4⟩:=SD.cE hb h3;simp only at h4;subst h4;simp only [u0,h1];exact h
   ·cases h
  ·rename_i e
   obtain ⟨a,h1,h2⟩:=r9.get hs.2.2.1 e;simp only [SV.g,r9.g] at h2;obtain ⟨cs,rfl,rfl⟩:=h2;simp only [u0,h1];exact h
  ·cases h
theorem zE (hs:s.g C vs st){s5:Option Nat}{k:Nat}{dst:Option Nat}{s' :SS}(h:jl s5 s k dst=some s'):∃ st',s4 s5 st k dst=some st' /\s'.g C vs st' :=by
 cases dst with
 |none=>simp only [jl,Option.some.injEq] at h;subst h;exact ⟨st,by cases s5<;>rfl,hs⟩
 |some t =>
  have hlen:=r9.len hs.1;obtain ⟨hv,hT,hH,hL,ht,hB⟩:=BW hs (.loc k);cases s5 with
  |none =>
   simp only [jl] at h;split at h
   ·rename_i hc
    have hc:t<s.T.length:=m6 hc;cases h;refine ⟨{ (C6 st (.loc k)).2 with T:=st.T.set t (C6 st (.loc k)).1,n5:= .slot t::st.n5 },?_,r9.set hs.1 t hv,hH,hL,congrArg (Touch.slot t::·) hs.2.2.2.1,hB⟩;simp only [s4,F8];rw [if_pos (by omega)]
   ·cases h
  |some q =>
   simp only [jl] at h;split at h
   ·rename_i hc
    simp only [b5] at hc;have hc1:t<s.T.length:=m6 hc.1;have kj:=hc.2;unfold CU at kj;rw [<- hs.2.2.2.1] at kj;cases h;refine ⟨{ (C6 st (.loc k)).2 with T:=st.T.set t (C6 st (.loc k)).1 },?_,r9.set hs.1 t hv,hH,hL,ht,hB⟩;simp only [s4,W3];rw [if_pos (by simp only [kj,Bool.and_true,decide_eq_true_eq];omega)]
   ·cases h
variable (eD:fe C A sem)
include eD
theorem NZ (hs:s.g C vs st){l:F9}{b:Nat}{j4:List n8}{s5:Option Nat}{k:Nat}{op:s9}{outs:List (SS×List Nat)}(h:Hf A sem l b j4 s5 k op s=some outs) :
  ∃ st' rs N,(∃ o,o ∈ outs/\o.2=rs/\o.1.g C vs st')/\∀ n,N<=n->C5 (J4 A n l b) j4 s5 k op st=some (st',rs):=by
 unfold Hf at h;split at h
 ·rename_i he
  split at h
  ·rename_i os hos
   cases h;obtain ⟨st',N,⟨o,h1,h2⟩,h3⟩:=Ve eD (b:=b) hs hos;exact ⟨st',[],N,⟨_,List.mem_map.2 ⟨o,h1,rfl⟩,rfl,h2⟩,fun n hn=>by simp only [C5,he,if_true,h3 n hn]⟩
  ·cases h
 ·rename_i he
  have he:op.D5=false:=by simpa using he
  split at h
  ·rename_i x _
   cases h;obtain ⟨h1,h2⟩:=BW hs x;exact ⟨_,[],0,⟨_,p8.2 rfl,rfl,bU h2 k h1⟩,fun n _=>by simp only [C5,he,b7,if_false]⟩
  ·rename_i XH
   split at h
   ·rename_i v rs hp
    cases h;obtain ⟨r,h1,h2⟩:=Rq hs.2.2.2.2 (SS.F0 hs) hs.2.1 hp;refine ⟨_,rs,0,⟨_,p8.2 rfl,rfl,bU hs k h2⟩,fun n _=> ?_⟩;simp only [C5,he,b7,if_false];cases op<;>first
     |exact absurd rfl (XH _)
     |(simp only [h1];done)
   ·cases h
theorem Zl (hs:s.g C vs st){l:F9}{b:Nat}{j4:List n8}{s5:Option Nat}{k:Nat}{i:n8}{outs:List (SS×List Nat)}(hw:u0 st.L i.guard=some true)(h:sdo A sem l b j4 s5 k i s=some outs) :
  ∃ st' rs N,(∃ o,o ∈ outs/\o.2=rs/\∃ ws,Le vs ws/\o.1.g C ws st')/\∀ n,N<=n->x9 (J4 A n l b) j4 s5 k i st=some (st',rs):=by
 unfold sdo at h;split at h
 ·rename_i os hos
  obtain ⟨ws,l1,h1⟩:=UF hs i.op;obtain ⟨P3,rs,N,⟨o,o1,o2,o3⟩,h2⟩:=NZ eD h1 hos;obtain ⟨x,hx,hm⟩:=U7 h o o1;unfold Zo at hx;split at hx
  ·rename_i s' hs'
   cases hx;obtain ⟨Vr,l2,h3⟩:=Qu o3 k;obtain ⟨Y9,h4,h5⟩:=zE h3 hs';refine ⟨Y9,rs,N,⟨_,hm _ (p8.2 rfl),o2,Vr,l1.trans l2,h5⟩,fun n hn=> ?_⟩;simp only [x9,hw,h2 n hn,h4]
  ·cases hx
 ·cases h
theorem IF (hs:s.g C vs st){l:F9}{b:Nat}{j4:List n8}{s5:Option Nat}{k:Nat}{i:n8}{outs:List (SS×List Nat)}(h:IE A sem l b j4 s5 k i s=some outs) :
  ∃ st' rs N,(∃ o,o ∈ outs/\o.2=rs/\∃ ws,Le vs ws/\o.1.g C ws st')/\∀ n,N<=n->x9 (J4 A n l b) j4 s5 k i st=some (st',rs):=by
 unfold IE at h;obtain ⟨s1,m1,g1⟩:∃ s',s' ∈ (match i.guard with|some (j,_)=>CN s j|none=>[s])/\s'.g C vs st:=by
  split
  ·exact HQ hs _
  ·exact ⟨s,p8.2 rfl,hs⟩
 obtain ⟨x,hx,hm⟩:=U7 h s1 m1;unfold NY at hx;split at hx
 ·rename_i hw
  have hw:=zF g1 hw;obtain ⟨s2,m2,g2⟩:=PX g1 i.op;obtain ⟨y,hy,hm2⟩:=U7 hx s2 m2;obtain ⟨st',rs,N,⟨o,o1,o2,o3⟩,h3⟩:=Zl eD g2 hw hy;exact ⟨st',rs,N,⟨o,hm _ (hm2 _ o1),o2,o3⟩,h3⟩
 ·rename_i hw
  have hw:=zF g1 hw;split at hx
  ·rename_i s' hs'
   cases hx;obtain ⟨Y9,h4,h5⟩:=zE (bU g1 k (v:= .tuple []) (a:= .tuple []) (by simp only [SV.g,r9.g];exact ⟨_,rfl,rfl⟩)) hs';exact ⟨Y9,[],0,⟨_,hm _ (p8.2 rfl),rfl,vs,Le.refl _,h5⟩,fun n _=>by simp only [x9,hw,h4]⟩
  ·cases hx
 ·cases hx
end
section
variable (A:Prog) (sem:Sem) (lim:F9) (entry:Nat) (j4:List n8)
def qp:List n8->Nat->SS->Option (List SS)
 |[],_,s=>some [s]
 |i::is,k,s=>match IE A sem lim entry j4 none k i s with
  |some outs=>fP (fun o=>qp is (k+1) o.1) outs
  |none=>none
def NX (s:SS):s9->Option Nat
 | .call f xs=>if A.prom f then some s.H.length else match uN s.H,r9.W7 (xs.map (bz s.T s.L)) with
  |some bs,some b0=>some (S5 bs lim.strict 8 b0)
  |_,_=>none
 | .Z3 _ _=>none
 |_=>some 0
def NR (s:SS):s9->Bool
 | .append _ _ _ x _=>match bz s.T s.L x with
  | .d _=>false
  | .I5=>false
  |_=>true
 |_=>false
def Eb:List n8->Nat->Nat->SS->Option (List (SS×List iL))
 |[],_,_,s=>some [(s,[])]
 |i::is,k,na,s=>if NR s i.op&&j4.any (fun a=>a.cz.contains k) then none else match NX A lim s i.op with
  |some Bz=>match IE A sem lim entry j4 (if i.op.y3 then some na else none) k i s with
   |some outs=>fP (fun o=>match Eb is (k+1) (if i.op.y3 then na+1 else na) o.1 with
    |some rs=>some (rs.map fun r=>(r.1,⟨o.2,jS (if i.op.y3 then some na else none)++o.1.n5.take (o.1.n5.length - s.n5.length),Bz,(if i.op.y3 then some na else none).getD 0⟩::r.2))
    |none=>none) outs
   |none=>none
  |none=>none
def uy (draw:Bool)(T:List SV)(H:List SO)(B:ig):Option (List SS) :=
 if draw then match Eb A sem lim entry j4 j4 0 H.length ⟨T,H++(j4.filter (·.op.y3)).map (fun _=> .dead),c9 j4.length .any,slotsOf j4,B⟩ with
  |some outs=>if outs.all (fun o=>sY j4 o.2) then some (outs.map (·.1)) else none
  |none=>none
 else qp A sem lim entry j4 j4 0 ⟨T,H,c9 j4.length .any,[],B⟩
end
section
variable {C:Ctx} {A:Prog} {sem:Sem} (eD:fe C A sem)
theorem AB {vs:List Nat}:∀ n,r9.g C vs (c9 n .any) (c9 n .any)
 |0=>by simp [r9.g]
 |n+1=>by simp only [List.replicate_succ,r9.g,SV.g];exact ⟨_,_,rfl,rfl,AB n⟩
theorem HK {vs:List Nat}:∀ l:List n8,E7.g C vs (l.map fun _=> .dead) (l.map fun _=> .dead)
 |[]=>by simp [E7.g]
 |_::l=>by simp only [G7,E7.g,SO.g];exact ⟨_,_,rfl,rfl,HK l⟩
include eD
theorem zB {l:F9}{b:Nat}{j4:List n8}:∀ (ops:List n8) (k:Nat) {vs:List Nat} {s:SS} {st:E1} {outs:List SS},s.g C vs st->qp A sem l b j4 ops k s=some outs ->
  ∃ r N,(∃ o,o ∈ outs/\∃ ws,Le vs ws/\o.g C ws r)/\∀ n,N<=n->bQ (J4 A n l b) j4 ops k st=some r
 |[],k,vs,s,st,outs,hs,h=>by
  simp only [qp,Option.some.injEq] at h;subst h;exact ⟨st,0,⟨s,p8.2 rfl,vs,Le.refl _,hs⟩,fun _ _=>rfl⟩
 |i::is,k,vs,s,st,outs,hs,h=>by
  simp only [qp] at h;split at h
  ·rename_i os hos
   obtain ⟨st',rs,N,⟨o,o1,o2,ws,l1,o3⟩,h1⟩:=IF eD hs hos;obtain ⟨x,hx,hm⟩:=U7 h o o1;obtain ⟨r,N2,⟨o',p1,Vr,l2,p2⟩,h2⟩:=zB is (k+1) o3 hx;refine ⟨r,max N N2,⟨o',hm _ p1,Vr,l1.trans l2,p2⟩,fun n hn=> ?_⟩;simp only [bQ,h1 n (by omega)];exact h2 n (by omega)
  ·cases h
omit eD in
theorem Rs {l:F9}{b n:Nat}{vs:List Nat}{s:SS}{st:E1}(hs:s.g C vs st){op:s9}{m:Nat}(h:NX A l s op=some m):K4 (J4 A n l b) st op=m:=by
 unfold NX at h;split at h
 ·rename_i f xs
  have dc:(J4 A n l b).prom f=A.prom f:=rfl;have hlim:(J4 A n l b).lim=l:=rfl;split at h
  ·rename_i hp
   cases h;simp only [K4,dc,hp,if_true];exact E7.len hs.2.1
  ·rename_i hp
   split at h
   ·rename_i bs b0 Ky hb0
    cases h;simp only [K4,dc];rw [if_neg hp,hlim,rA,AG Ky hs.2.1,r9.cg hb0 (r9.TZ (SS.F0 hs) xs)]
   ·cases h
 ·cases h
 ·rename_i h1 h2
  cases h;cases op<;>first
   |rfl
   |exact absurd rfl (h1 _ _)
   |exact absurd rfl (h2 _ _)
omit eD in
theorem Rm {vs:List Nat}{s:SS}{st:E1}(hs:s.g C vs st){op:s9}(h:¬ NR s op=true):D8 st op=false:=by
 unfold NR at h;split at h
 ·rename_i sz bytes ob x y
  have hx:=SS.F0 hs x;split at h
  ·rename_i z e
   rw [e] at hx;obtain ⟨d,e1,_⟩:=Z4 hx;simp only [D8,e1]
  ·rename_i e
   rw [e] at hx;simp only [SV.g] at hx;simp only [D8,hx]
  ·exact absurd rfl h
 ·rename_i h1
  cases op<;>first
   |rfl
   |exact absurd rfl (h1 _ _ _ _ _)
theorem ID {l:F9}{b:Nat}{j4:List n8}:∀ (ops:List n8) (k na:Nat) {vs:List Nat} {s:SS} {st:E1} {outs:List (SS×List iL)},s.g C vs st->Eb A sem l b j4 ops k na s=some outs ->
  ∃ r lg N,(∃ o,o ∈ outs/\o.2=lg/\∃ ws,Le vs ws/\o.1.g C ws r)/\∀ n,N<=n->O3 (J4 A n l b) j4 ops k na st=some (r,lg)
 |[],k,na,vs,s,st,outs,hs,h=>by
  simp only [Eb,Option.some.injEq] at h;subst h;exact ⟨st,[],0,⟨_,p8.2 rfl,rfl,vs,Le.refl _,hs⟩,fun _ _=>rfl⟩
 |i::is,k,na,vs,s,st,outs,hs,h=>by
  simp only [Eb] at h;split at h
  ·cases h
  ·rename_i hk
   have hk:(D8 st i.op&&j4.any (fun a=>a.cz.contains k))=false:=by
    cases hu:j4.any (fun a=>a.cz.contains k) with
    |false=>rw [Bool.and_false]
    |true=>rw [hu,Bool.and_true] at hk;rw [Rm hs hk];rfl
   split at h
   ·rename_i Bz HT
    split at h
    ·rename_i os hos
     obtain ⟨st',rs,N,⟨o,o1,o2,ws,l1,o3⟩,h1⟩:=IF eD hs hos;obtain ⟨x,hx,hm⟩:=U7 h o o1;split at hx
     ·rename_i rr hrr
      cases hx;obtain ⟨r,lg,N2,⟨o',p1,p2,Vr,l2,p3⟩,h2⟩:=ID is (k+1) _ o3 hrr;refine ⟨r,_,max N N2,⟨_,hm _ (List.mem_map.2 ⟨o',p1,rfl⟩),rfl,Vr,l1.trans l2,p3⟩,fun n hn=> ?_⟩;have hg3:=o3.2.2.2.1;simp only [O3,gS,hk,b7,if_false,h1 n (by omega),h2 n (by omega),cr,Rs hs HT,o2,p2,hg3,hs.2.2.2.1]
     ·cases hx
    ·cases h
   ·cases h
theorem zA {l:F9}{b:Nat}{j4:List n8}{draw:Bool}{vs:List Nat}{T:List SV}{H:List SO}{B:ig}{T' :List b6}{H' :o6}{outs:List SS}(hT:r9.g C vs T T')(hH:E7.g C vs H H')(hB:Bg vs B)(h:uy A sem l b j4 draw T H B=some outs) :
  Rn A l b j4 draw T' H' fun T2 H2 L2=>∃ o,o ∈ outs/\∃ ws,Le vs ws/\r9.g C ws o.T T2/\E7.g C ws o.H H2/\r9.g C ws o.L L2/\Bg ws o.B:=by
 unfold uy at h;split at h
 ·rename_i hd
  split at h
  ·rename_i os hos
   split at h
   ·rename_i hall
    cases h;have hlen:=E7.len hH;obtain ⟨r,lg,N,⟨o,o1,o2,ws,l1,o3⟩,h1⟩:=ID eD j4 0 H.length (st:=⟨T',H' ++X5 j4,c9 j4.length .any,slotsOf j4⟩) ⟨hT,E7.app hH (HK _),AB _,rfl,hB⟩ hos;refine ⟨r,N,⟨o.1,List.mem_map.2 ⟨o,o1,rfl⟩,ws,l1,o3.1,o3.2.1,o3.2.2.1,o3.2.2.2.2⟩,fun n hn=> ?_⟩;have hok:=List.all_eq_true.1 hall o o1;rw [o2] at hok;simp only [O0,hd,if_true,hlen,h1 n hn,hok]
   ·cases h
  ·cases h
 ·rename_i hd
  obtain ⟨r,N,⟨o,o1,ws,l1,o3⟩,h1⟩:=zB eD j4 0 (st:=⟨T',H',c9 j4.length .any,[]⟩) ⟨hT,hH,AB _,rfl,hB⟩ h;refine ⟨r,N,⟨o,o1,ws,l1,o3.1,o3.2.1,o3.2.2.1,o3.2.2.2.2⟩,fun n hn=> ?_⟩;simp only [O0];rw [if_neg hd];exact h1 n hn
end
structure CS where
 T:List SV
 H:List SO
 B:ig
def CS.g (C:Ctx)(vs:List Nat)(s:CS)(st:St):Prop:=r9.g C vs s.T st.T/\E7.g C vs s.H st.H/\Bg vs s.B
def Og:Option Nat->Option Nat->Option Nat
 |some i,some j=>if y4 i j then some i else none
 |_,_=>none
def Eh:Option Nat->Option Nat->Bool
 |some i,some j=>y4 i j
 |none,none=>true
 |_,_=>false
def SD.mark:SD->Option Nat
 | .pr k _=>some k
 |_=>none
mutual
def SV.join:SV->SV->Option SV
 | .any,y=>match y with
  | .any=>some .any
  |_=>some .top
 | .top,_=>some .top
 | .d x,y=>match y with
  | .d y=>if Eh x.mark y.mark then some (.d (x.join y)) else none
  | .own _ y=>some (.q (x.join y))
  | .q y=>some (.q (x.join y))
  | .any=>some .top
  | .top=>some .top
  |_=>none
 | .own z x,y=>match y with
  | .own z' y=>if y4 z z' then some (.own z (x.join y)) else none
  | .d y=>some (.q (x.join y))
  | .q y=>some (.q (x.join y))
  | .any=>some .top
  | .top=>some .top
  |_=>none
 | .q x,y=>match y with
  | .own _ y=>some (.q (x.join y))
  | .d y=>some (.q (x.join y))
  | .q y=>some (.q (x.join y))
  | .any=>some .top
  | .top=>some .top
  |_=>none
 | .I5,y=>match y with
  | .I5=>some .I5
  | .any=>some .top
  | .top=>some .top
  |_=>none
 | .ptr i o,y=>match y with
  | .ptr i' o' =>if y4 i i' &&y4 o o' then some (.ptr i o) else none
  | .any=>some .top
  | .top=>some .top
  |_=>none
 | .P9 _,_=>some .top
 | .D0 i z l n,y=>match y with
  | .D0 i' z' l' n' =>if y4 i i' &&y4 z z' &&y4 l l' &&y4 n n' then some (.D0 i z l n) else none
  | .any=>some .top
  | .top=>some .top
  |_=>none
 | .agg p l,y=>match y with
  | .agg p' l' =>match r9.join l l' with
   |some r=>some (.agg (Og p p') r)
   |none=>none
  | .any=>some .top
  | .top=>some .top
  |_=>none
 | .tuple l,y=>match y with
  | .tuple l' =>match r9.join l l' with
   |some r=>some (.tuple r)
   |none=>none
  | .any=>some .top
  | .top=>some .top
  |_=>none
 | .bn k,y=>match y with
  | .bn k' =>if y4 k k' then some (.bn k) else none
  | .any=>some .top
  | .top=>some .top
  |_=>none
def r9.join:List SV->List SV->Option (List SV)
 |[],ys=>match ys with
  |[]=>some []
  |_=>none
 |x::xs,ys=>match ys with
  |y::ys=>match x.join y,r9.join xs ys with
   |some a,some r=>some (a::r)
   |_,_=>none
  |[]=>none
end
def SO.join:SO->SO->Option SO
 | .dead,.dead=>some .dead
 | .cells p l,.cells p' l' =>if Eh p p' then match r9.join l l' with
   |some r=>some (.cells p r)
   |none=>none
  else none
 | .pr k,.pr k' =>if y4 k k' then some (.pr k) else none
 | .bn k,.bn k' =>if y4 k k' then some (.bn k) else none
 |_,_=>none
def E7.join:List SO->List SO->Option (List SO)
 |[],[]=>some []
 |x::xs,y::ys=>match x.join y,E7.join xs ys with
  |some a,some r=>some (a::r)
  |_,_=>none
 |_,_=>none
def Bd (a b:Nat×Nat):Nat×Nat:=(min a.1 b.1,max a.2 b.2)
def LH (B1 B2:ig):Option ig:=if (B1.drop B2.length++B2.drop B1.length).all (fun p=>J7 p.1 p.2) then some (List.zipWith Bd B1 B2++(B1.drop B2.length++B2.drop B1.length)) else none
def jh (kp:List Nat)(s t:CS):Bool:=kp.all fun j=>match s.T[j]?,t.T[j]? with
 |some (.d (.lit (.int _ a))),some (.d (.lit (.int _ b)))=>decide (a=b)
 |_,_=>true
def CS.join (kp:List Nat)(s t:CS):Option CS:=if jh kp s t then match r9.join s.T t.T,E7.join s.H t.H,LH s.B t.B with
 |some T,some H,some B=>some ⟨T,H,B⟩
 |_,_,_=>none
 else none
def MA (kp:List Nat)(s:CS):List CS->List CS
 |[]=>[s]
 |t::r=>match CS.join kp t s with
  |some u=>u::r
  |none=>t::MA kp s r
def jQ (kp:List Nat):List CS->List CS
 |[]=>[]
 |s::r=>MA kp s (jQ kp r)
section
variable {C:Ctx} {vs:List Nat}
theorem Br {x:SV}{v:b6}(h:x.g C vs v){y:SD}(hx:x.data? =some y:=by rfl):∃ d,v.F2= .d d/\y.g C vs d:=by
 cases x<;>simp only [SV.data?,reduceCtorEq,Option.some.injEq] at hx<;>subst hx<;>simp only [SV.g] at h
 ·obtain ⟨d,rfl,h2⟩:=h;exact ⟨d,rfl,h2⟩
 ·obtain ⟨a,b,rfl,h2⟩:=h;exact ⟨_,rfl,h2⟩
 ·subst h;exact ⟨_,rfl,by simp [SD.g]⟩
 ·exact h
theorem Bq {x:SD}{v:b6}{d:Data}(h0:v.F2= .d d)(h:x.g C vs d):(SV.q x).g C vs v:=by simp only [SV.g];exact ⟨_,h0,h⟩
theorem Vn {p q:Option Nat}{k:Nat}(h:Og p q=some k):p=some k:=by
 unfold Og at h;split at h
 ·split at h
  ·exact h
  ·cases h
 ·cases h
theorem Vo {p q:Option Nat}{k:Nat}(h:Og p q=some k):q=some k:=by
 unfold Og at h;split at h
 ·split at h
  ·rename_i e
   rw [<- b8 e];exact h
  ·cases h
 ·cases h
theorem Ei {p q:Option Nat}(h:Eh p q=true):p=q:=by
 unfold Eh at h;split at h
 ·rw [b8 h]
 ·rfl
 ·cases h
mutual
theorem SV.R4:∀ (x y:SV) {z:SV} {v:b6},x.join y=some z->x.g C vs v->z.g C vs v
 | .any,y,z,_,h,hg=>by
  cases y<;>simp only [SV.join,Option.some.injEq] at h<;>subst h<;>first|exact hg|simp [SV.g]
 | .top,y,z,_,h,hg=>by simp only [SV.join,Option.some.injEq] at h;subst h;exact hg
 | .d x,y,z,_,h,hg=>by
  cases y<;>simp only [SV.join,Option.some.injEq,reduceCtorEq] at h<;>(try split at h)<;>first
   |(cases h;simp [SV.g];done)
   |(cases h;obtain ⟨d,rfl,h1⟩:=Z4 hg;exact bf (SD.R4 _ _ h1))
   |(cases h;obtain ⟨d,h0,h1⟩:=Br hg;exact Bq h0 (SD.R4 _ _ h1))
   |(cases h;done)
 | .q x,y,z,_,h,hg=>by
  cases y<;>simp only [SV.join,Option.some.injEq,reduceCtorEq] at h<;>subst h<;>first
   |(simp [SV.g];done)
   |(obtain ⟨d,h0,h1⟩:=Br hg;exact Bq h0 (SD.R4 _ _ h1))
 | .own w x,y,z,_,h,hg=>by
  cases y<;>simp only [SV.join,Option.some.injEq,reduceCtorEq] at h
  ·subst h;simp [SV.g]
  ·subst h;simp [SV.g]
  ·subst h;obtain ⟨d,h0,h1⟩:=Br hg;exact Bq h0 (SD.R4 _ _ h1)
  ·split at h
   ·cases h
    obtain ⟨len,cells,rfl,h1⟩:=oz hg;simp only [SV.g];exact ⟨_,_,rfl,SD.R4 _ _ h1⟩
   ·cases h
  ·subst h;obtain ⟨d,h0,h1⟩:=Br hg;exact Bq h0 (SD.R4 _ _ h1)
 | .I5,y,z,_,h,hg=>by
  cases y<;>simp only [SV.join,Option.some.injEq,reduceCtorEq] at h<;>subst h<;>first|exact hg|simp [SV.g]
 | .ptr i o,y,z,_,h,hg=>by
  cases y<;>simp only [SV.join,Option.some.injEq,reduceCtorEq] at h
  ·subst h;simp [SV.g]
  ·subst h;simp [SV.g]
  ·split at h
   ·cases h;exact hg
   ·cases h
 | .P9 _,y,z,_,h,hg=>by simp only [SV.join,Option.some.injEq] at h;subst h;simp [SV.g]
 | .D0 i w l n,y,z,_,h,hg=>by
  cases y<;>simp only [SV.join,Option.some.injEq,reduceCtorEq] at h
  ·subst h;simp [SV.g]
  ·subst h;simp [SV.g]
  ·split at h
   ·cases h;exact hg
   ·cases h
 | .agg p l,y,z,_,h,hg=>by
  cases y<;>simp only [SV.join,Option.some.injEq,reduceCtorEq] at h
  ·subst h;simp [SV.g]
  ·subst h;simp [SV.g]
  ·split at h
   ·rename_i r hr
    cases h;simp only [SV.g] at hg ⊢;obtain ⟨cs,rfl,h1,h2⟩:=hg;exact ⟨cs,rfl,r9.R4 _ _ hr h1,fun k hk=>h2 k (Vn hk)⟩
   ·cases h
 | .tuple l,y,z,_,h,hg=>by
  cases y<;>simp only [SV.join,Option.some.injEq,reduceCtorEq] at h
  ·subst h;simp [SV.g]
  ·subst h;simp [SV.g]
  ·split at h
   ·rename_i r hr
    cases h;simp only [SV.g] at hg ⊢;obtain ⟨cs,rfl,h1⟩:=hg;exact ⟨cs,rfl,r9.R4 _ _ hr h1⟩
   ·cases h
 | .bn k,y,z,_,h,hg=>by
  cases y<;>simp only [SV.join,Option.some.injEq,reduceCtorEq] at h
  ·subst h;simp [SV.g]
  ·subst h;simp [SV.g]
  ·split at h
   ·rename_i e
    have e:=b8 e;subst e;cases h;exact hg
   ·cases h
theorem r9.R4:∀ (x y:List SV) {z:List SV} {v:List b6},r9.join x y=some z->r9.g C vs x v->r9.g C vs z v
 |[],y,z,_,h,hg=>by cases y<;>simp only [r9.join,Option.some.injEq,reduceCtorEq] at h;subst h;exact hg
 |x::xs,y,z,_,h,hg=>by
  cases y<;>simp only [r9.join,reduceCtorEq] at h;split at h
  ·rename_i a r ha hr
   cases h;simp only [r9.g] at hg ⊢;obtain ⟨d,ds,rfl,h1,h2⟩:=hg;exact ⟨d,ds,rfl,SV.R4 _ _ ha h1,r9.R4 _ _ hr h2⟩
  ·cases h
end
mutual
theorem SV.R5:∀ (x y:SV) {z:SV} {v:b6},x.join y=some z->y.g C vs v->z.g C vs v
 | .any,y,z,_,h,hg=>by
  cases y<;>simp only [SV.join,Option.some.injEq] at h<;>subst h<;>first|exact hg|simp [SV.g]
 | .top,y,z,_,h,hg=>by simp only [SV.join,Option.some.injEq] at h;subst h;simp [SV.g]
 | .d x,y,z,_,h,hg=>by
  cases y<;>simp only [SV.join,Option.some.injEq,reduceCtorEq] at h<;>(try split at h)<;>first
   |(cases h;simp [SV.g];done)
   |(cases h;obtain ⟨d,rfl,h1⟩:=Z4 hg;exact bf (SD.R5 _ _ h1))
   |(cases h;obtain ⟨d,h0,h1⟩:=Br hg;exact Bq h0 (SD.R5 _ _ h1))
   |(cases h;done)
 | .q x,y,z,_,h,hg=>by
  cases y<;>simp only [SV.join,Option.some.injEq,reduceCtorEq] at h<;>subst h<;>first
   |(simp [SV.g];done)
   |(obtain ⟨d,h0,h1⟩:=Br hg;exact Bq h0 (SD.R5 _ _ h1))
 | .own w x,y,z,_,h,hg=>by
  cases y<;>simp only [SV.join,Option.some.injEq,reduceCtorEq] at h
  ·subst h;simp [SV.g]
  ·subst h;simp [SV.g]
  ·subst h;obtain ⟨d,h0,h1⟩:=Br hg;exact Bq h0 (SD.R5 _ _ h1)
  ·split at h
   ·rename_i e
    have e:=b8 e;subst e;cases h;obtain ⟨len,cells,rfl,h1⟩:=oz hg;simp only [SV.g];exact ⟨_,_,rfl,SD.R5 _ _ h1⟩
   ·cases h
  ·subst h;obtain ⟨d,h0,h1⟩:=Br hg;exact Bq h0 (SD.R5 _ _ h1)
 | .I5,y,z,_,h,hg=>by
  cases y<;>simp only [SV.join,Option.some.injEq,reduceCtorEq] at h<;>subst h<;>first|exact hg|simp [SV.g]
 | .ptr i o,y,z,_,h,hg=>by
  cases y<;>simp only [SV.join,Option.some.injEq,reduceCtorEq] at h
  ·subst h;simp [SV.g]
  ·subst h;simp [SV.g]
  ·split at h
   ·rename_i e
    simp only [b5] at e;have e1:=b8 e.1;have e2:=b8 e.2;subst e1 e2;cases h;exact hg
   ·cases h
 | .P9 _,y,z,_,h,hg=>by simp only [SV.join,Option.some.injEq] at h;subst h;simp [SV.g]
 | .D0 i w l n,y,z,_,h,hg=>by
  cases y<;>simp only [SV.join,Option.some.injEq,reduceCtorEq] at h
  ·subst h;simp [SV.g]
  ·subst h;simp [SV.g]
  ·split at h
   ·rename_i e
    simp only [b5] at e;have e1:=b8 e.1.1.1;have e2:=b8 e.1.1.2;have e3:=b8 e.1.2;have e4:=b8 e.2;subst e1 e2 e3 e4;cases h;exact hg
   ·cases h
 | .agg p l,y,z,_,h,hg=>by
  cases y<;>simp only [SV.join,Option.some.injEq,reduceCtorEq] at h
  ·subst h;simp [SV.g]
  ·subst h;simp [SV.g]
  ·split at h
   ·rename_i r hr
    cases h;simp only [SV.g] at hg ⊢;obtain ⟨cs,rfl,h1,h2⟩:=hg;exact ⟨cs,rfl,r9.R5 _ _ hr h1,fun k hk=>h2 k (Vo hk)⟩
   ·cases h
 | .tuple l,y,z,_,h,hg=>by
  cases y<;>simp only [SV.join,Option.some.injEq,reduceCtorEq] at h
  ·subst h;simp [SV.g]
  ·subst h;simp [SV.g]
  ·split at h
   ·rename_i r hr
    cases h;simp only [SV.g] at hg ⊢;obtain ⟨cs,rfl,h1⟩:=hg;exact ⟨cs,rfl,r9.R5 _ _ hr h1⟩
   ·cases h
 | .bn k,y,z,_,h,hg=>by
  cases y<;>simp only [SV.join,Option.some.injEq,reduceCtorEq] at h
  ·subst h;simp [SV.g]
  ·subst h;simp [SV.g]
  ·split at h
   ·rename_i e
    have e:=b8 e;subst e;cases h;exact hg
   ·cases h
theorem r9.R5:∀ (x y:List SV) {z:List SV} {v:List b6},r9.join x y=some z->r9.g C vs y v->r9.g C vs z v
 |[],y,z,_,h,hg=>by cases y<;>simp only [r9.join,Option.some.injEq,reduceCtorEq] at h;subst h;exact hg
 |x::xs,y,z,_,h,hg=>by
  cases y<;>simp only [r9.join,reduceCtorEq] at h;split at h
  ·rename_i a r ha hr
   cases h;simp only [r9.g] at hg ⊢;obtain ⟨d,ds,rfl,h1,h2⟩:=hg;exact ⟨d,ds,rfl,SV.R5 _ _ ha h1,r9.R5 _ _ hr h2⟩
  ·cases h
end
theorem SO.iA {x y z:SO}{o:u5}(h:x.join y=some z):(x.g C vs o->z.g C vs o)/\(y.g C vs o->z.g C vs o):=by
 cases x<;>cases y<;>simp only [SO.join,Option.some.injEq,reduceCtorEq] at h
 ·subst h;exact ⟨id,id⟩
 ·split at h
  ·rename_i hp
   have hp:=Ei hp;subst hp;split at h
   ·rename_i r hr
    cases h;exact ⟨fun ⟨cs,h1,h2,h3⟩=>⟨cs,h1,r9.R4 _ _ hr h2,h3⟩,fun ⟨cs,h1,h2,h3⟩=>⟨cs,h1,r9.R5 _ _ hr h2,h3⟩⟩
   ·cases h
  ·cases h
 ·split at h
  ·rename_i e
   have e:=b8 e;subst e;cases h;exact ⟨id,id⟩
  ·cases h
 ·split at h
  ·rename_i e
   have e:=b8 e;subst e;cases h;exact ⟨id,id⟩
  ·cases h
theorem E7.iA:∀ {x y z:List SO} {o:o6},E7.join x y=some z->(E7.g C vs x o->E7.g C vs z o)/\(E7.g C vs y o->E7.g C vs z o)
 |[],[],z,o,h=>by simp only [E7.join,Option.some.injEq] at h;subst h;exact ⟨id,id⟩
 |[],_::_,z,o,h=>by simp [E7.join] at h
 |_::_,[],z,o,h=>by simp [E7.join] at h
 |x::xs,y::ys,z,o,h=>by
  simp only [E7.join] at h;split at h
  ·rename_i a r ha hr
   cases h;refine ⟨fun hg=> ?_,fun hg=> ?_⟩
   ·simp only [E7.g] at hg ⊢
    obtain ⟨d,ds,rfl,h1,h2⟩:=hg;exact ⟨d,ds,rfl,(SO.iA ha).1 h1,(E7.iA hr).1 h2⟩
   ·simp only [E7.g] at hg ⊢
    obtain ⟨d,ds,rfl,h1,h2⟩:=hg;exact ⟨d,ds,rfl,(SO.iA ha).2 h1,(E7.iA hr).2 h2⟩
  ·cases h
theorem Bg.To:∀ (R:ig) {vs:List Nat} {B:ig},Bg vs B->R.all (fun p=>J7 p.1 p.2)=true->∃ ws,Le vs ws/\Bg ws (B++R)
 |[],vs,B,h,_=>⟨vs,Le.refl _,by simpa using h⟩
 |p::R,vs,B,h,hr=>by
  simp only [List.all_cons,b5,Nat.ble_eq] at hr;obtain ⟨ws,h1,h2⟩:=Bg.To R (h.add (p:=p) (m:=p.1) (l5 _) hr.1) hr.2;exact ⟨ws,(Le.app _ _).trans h1,by simpa using h2⟩
theorem RD {B1 B2:ig}{i lo hi:Nat}(h:(List.zipWith Bd B1 B2)[i]? =some (lo,hi)):∃ a b,B1[i]? =some a/\B2[i]? =some b/\lo=min a.1 b.1/\hi=max a.2 b.2:=by
 rw [List.getElem?_zipWith] at h;split at h
 ·rename_i a b h1 h2
  simp only [Option.some.injEq,Bd,Prod.mk.injEq] at h;exact ⟨a,b,h1,h2,h.1.symm,h.2.symm⟩
 ·cases h
theorem Bg.ZG {B1 B2:ig}(hB:Bg vs B1):Bg vs (List.zipWith Bd B1 B2++B1.drop B2.length):=by
 refine ⟨by simp [hB.1];omega,fun i lo hi h=> ?_⟩
 rcases p7 i (List.zipWith Bd B1 B2).length with hl|hl
 ·rw [p4 hl] at h
  obtain ⟨a,b,h1,h2,h3,h4⟩:=RD h;obtain ⟨m,e1,e2,e3⟩:=hB.2 i a.1 a.2 h1;exact ⟨m,e1,by omega,by omega⟩
 ·rw [p9 hl,List.getElem?_drop] at h
  simp only [List.length_zipWith] at h hl
  rcases Nat.le_total B1.length B2.length with hc|hc
  ·rw [q6 (by omega)] at h;cases h
  ·rw [show B2.length+(i - min B1.length B2.length)=i by omega] at h
   exact hB.2 _ _ _ h
theorem Bg.ZH {B1 B2:ig}(hB:Bg vs B2):Bg vs (List.zipWith Bd B1 B2++B2.drop B1.length):=by
 have:=Bg.ZG (B1:=B2) (B2:=B1) hB;have e:List.zipWith Bd B2 B1=List.zipWith Bd B1 B2:=by
  rw [List.zipWith_comm]
  congr 1
  funext a b
  simp [Bd,Nat.min_comm,Nat.max_comm]
 rwa [e] at this
theorem Hw {B1 B2 B:ig}(h:LH B1 B2=some B):(Bg vs B1->∃ ws,Le vs ws/\Bg ws B)/\(Bg vs B2->∃ ws,Le vs ws/\Bg ws B):=by
 unfold LH at h;split at h
 ·rename_i hall
  cases h;rw [List.all_append,b5] at hall;refine ⟨fun hB=> ?_,fun hB=> ?_⟩
  ·rw [<- List.append_assoc]
   exact Bg.To _ hB.ZG hall.2
  ·rcases Nat.le_total B1.length B2.length with hc|hc
   ·rw [show B1.drop B2.length=[] from m7 hc,List.nil_append]
    exact ⟨vs,Le.refl _,hB.ZH⟩
   ·have h2:B2.drop B1.length=[]:=m7 hc
    have:=hB.ZH (B1:=B1);rw [h2,List.append_nil] at this;rw [h2,List.append_nil];exact Bg.To _ this hall.1
 ·cases h
theorem CS.iA {kp:List Nat}{s t u:CS}{st:St}(h:CS.join kp s t=some u):(s.g C vs st->∃ ws,Le vs ws/\u.g C ws st)/\(t.g C vs st->∃ ws,Le vs ws/\u.g C ws st):=by
 unfold CS.join at h;split at h
 ·split at h
  ·rename_i T H B hT hH hB
   cases h;refine ⟨fun ⟨h1,h2,h3⟩=> ?_,fun ⟨h1,h2,h3⟩=> ?_⟩
   ·obtain ⟨ws,l1,h4⟩:=(Hw hB).1 h3
    exact ⟨ws,l1,r9.L8 l1 _ (r9.R4 _ _ hT h1),E7.L8 l1 _ ((E7.iA hH).1 h2),h4⟩
   ·obtain ⟨ws,l1,h4⟩:=(Hw hB).2 h3
    exact ⟨ws,l1,r9.L8 l1 _ (r9.R5 _ _ hT h1),E7.L8 l1 _ ((E7.iA hH).2 h2),h4⟩
  ·cases h
 ·cases h
theorem Gu {kp:List Nat}{st:St}:∀ (s:CS) (l:List CS),(s.g C vs st->∃ t,t ∈ MA kp s l/\∃ ws,Le vs ws/\t.g C ws st)/\∀ t,t ∈ l->t.g C vs st->∃ u,u ∈ MA kp s l/\∃ ws,Le vs ws/\u.g C ws st
 |s,[]=>⟨fun h=>⟨s,p8.2 rfl,vs,Le.refl _,h⟩,fun t h=>by cases h⟩
 |s,q::r=>by
  simp only [MA];split
  ·rename_i u hu
   refine ⟨fun h=> ?_,fun t ht h=> ?_⟩
   ·obtain ⟨ws,l1,h1⟩:=(CS.iA hu).2 h
    exact ⟨u,List.mem_cons_self,ws,l1,h1⟩
   ·rcases B8.1 ht with rfl|ht
    ·obtain ⟨ws,l1,h1⟩:=(CS.iA hu).1 h
     exact ⟨u,List.mem_cons_self,ws,l1,h1⟩
    ·exact ⟨t,List.mem_cons_of_mem _ ht,vs,Le.refl _,h⟩
  ·obtain ⟨h1,h2⟩:=Gu s r
   refine ⟨fun h=> ?_,fun t ht h=> ?_⟩
   ·obtain ⟨t,m,h3⟩:=h1 h
    exact ⟨t,List.mem_cons_of_mem _ m,h3⟩
   ·rcases B8.1 ht with rfl|ht
    ·exact ⟨t,List.mem_cons_self,vs,Le.refl _,h⟩
    ·obtain ⟨u,m,h3⟩:=h2 t ht h
     exact ⟨u,List.mem_cons_of_mem _ m,h3⟩
theorem lE {kp:List Nat}{st:St}:∀ (l:List CS) {vs:List Nat} {s:CS},s ∈ l->s.g C vs st->∃ t,t ∈ jQ kp l/\∃ ws,Le vs ws/\t.g C ws st
 |q::r,vs,s,hm,h=>by
  simp only [jQ]
  rcases B8.1 hm with rfl|hm
  ·exact (Gu s (jQ kp r)).1 h
  ·obtain ⟨t,m,ws,l1,h1⟩:=lE r hm h
   obtain ⟨u,m2,Vr,l2,h2⟩:=(Gu q (jQ kp r)).2 t m h1;exact ⟨u,m2,Vr,l1.trans l2,h2⟩
end
def ku:List Bool->List SV->List SV
 |true::m,v::vs=>v::ku m vs
 |false::m,_::vs=> .any::ku m vs
 |[],_::vs=> .any::ku [] vs
 |_,[]=>[]
def GS (mask:List Bool)(strict n:Nat)(s:CS):Option CS:=match r9.W7 (ku mask s.T),uN s.H with
 |some a,some bs=>if J7 a n&&J7 (uK ((bs.take n).drop strict)) n then some ⟨ku mask s.T,s.H.take n,s.B⟩ else some ⟨ku mask s.T,s.H,s.B⟩
 |_,_=>none
def wN:List SV->Nat->Option (Nat×Nat×Nat×Nat×Nat)
 |[],_=>none
 | .D0 id sz lo len::_,i=>some (i,id,sz,lo,len)
 | .top::_,_=>none
 | .bn _::_,_=>none
 |_::r,i=>wN r (i+1)
def sfz (lim:F9)(entry t:Nat)(s:CS):Option CS:=match s.T[t]? with
 |some (.ptr b o)=>if y4 o 0 then match s.H[b]? with
  |some (.cells _ cs)=>match wN cs 0 with
   |some (i,id,sz,lo,len)=>match Rr s.H id lo (len * sz) with
    |some l=>match gQ l with
     |some xs=>if J7 lim.base id&&J7 entry id&&lim.may id&&J7 lim.base b&& !(y4 id b)&&y4 xs.length (len * sz) then
       some ⟨r9.kill id s.T,((s.H.take lim.base++(s.H.drop lim.base).map (SO.kill id)).set id .dead).set b (.cells none ((r9.kill id cs).set i (.d (mkSlice sz len xs)))),s.B⟩
      else none
     |none=>none
    |none=>none
   |none=>none
  |_=>none
  else none
 |_=>none
abbrev FI:=List n8->Bool->r8->CS->Option (List CS×List CS)
def vO:List (D2×CS)->List CS
 |[]=>[]
 |(.normal,s)::r=>s::vO r
 |_::r=>vO r
def vh:List (D2×CS)->List (D2×CS)
 |[]=>[]
 |(.normal,_)::r=>vh r
 |x::r=>x::vh r
def SQ (id:Nat):List (D2×CS)->List (D2×CS)
 |[]=>[]
 |(.exit i,s)::r=>(if y4 i id then .normal else .exit i,s)::SQ id r
 |x::r=>x::SQ id r
def DX (kp:List Nat)(body:CS->Option (List (D2×CS)))(mask:List Bool)(strict n:Nat):Nat->List CS->Option (List (D2×CS))
 |0,l=>if l.isEmpty then some [] else none
 |k+1,l=>if l.isEmpty then some [] else
  match fP (fun s=>match GS mask strict n s with
   |some s' =>body s'
   |none=>none) l with
  |some outs=>match DX kp body mask strict n k (jQ kp (vO outs)) with
   |some r=>some (vh outs++r)
   |none=>none
  |none=>none
def branch (v:SV)(s:CS):Option (List CS×List CS):=match v with
 | .d x=>match x.bool? with
  |some (.t b)=>some (if b then ([s],[]) else ([],[s]))
  |some (.u c)=>some (match qe s.B c true with|some B' =>[{ s with B:=B' }]|none=>[],match qe s.B c false with|some B' =>[{ s with B:=B' }]|none=>[])
  |none=>none
 |_=>none
def oQ:List SS->r8->Option (List CS×List CS)
 |[],_=>some ([],[])
 |o::r,c=>match branch (bz o.T o.L c) ⟨o.T,o.H,o.B⟩,oQ r c with
  |some (p,q),some (p',q')=>some (p++p',q++q')
  |_,_=>none
section
variable (A:Prog) (sem:Sem) (hook:FI) (kp:List Nat) (lim:F9) (entry fuel:Nat)
def aD:p5->CS->Option (List (D2×CS))
 | .skip,s=>some [(.normal,s)]
 | .region ops draw,s=>match uy A sem lim entry ops draw s.T s.H s.B with
  |some outs=>some (outs.map fun o=>(.normal,⟨o.T,o.H,o.B⟩))
  |none=>none
 | .seq a b,s=>match aD a s with
  |some outs=>match fP (aD b) (jQ kp (vO outs)) with
   |some r=>some (vh outs++r)
   |none=>none
  |none=>none
 | .cond c a b,s=>match branch (bz s.T [] c) s with
  |some (p,q)=>match fP (aD a) p,fP (aD b) q with
   |some x,some y=>some (x++y)
   |_,_=>none
  |none=>none
 | .test ops draw c a b,s=>match (match hook ops draw c s with
   |some pq=>some pq
   |none=>match uy A sem lim entry ops draw s.T s.H s.B with
    |some outs=>oQ outs c
    |none=>none) with
  |some (p,q)=>match fP (aD a) (jQ kp p),fP (aD b) (jQ kp q) with
   |some x,some y=>some (x++y)
   |_,_=>none
  |none=>none
 | .block id body,s=>match aD body s with
  |some outs=>some (SQ id outs)
  |none=>none
 | .loop mask body,s=>DX kp (aD body) mask lim.strict s.H.length fuel [s]
 | .exit id,s=>some [(.exit id,s)]
 | .ret,s=>some [(.ret,s)]
 | .fz t,s=>match sfz lim entry t s with
  |some s' =>some [(.normal,s')]
  |none=>none
 | .bad,_=>none
end
def PF (A:Prog)(l:F9)(b:Nat)(mask:List Bool)(body:p5)(n0:Nat)(st:St)(Q:D2->St->Prop):Prop :=
 ∃ x s N,Q x s/\∀ n,N<=n->∀ j,N<=j->eE (exec (J4 A n l b) n body) mask l.strict n0 j st=some (x,s)
section
variable {A:Prog} {l:F9} {b:Nat}
theorem PF.step {mask:List Bool}{body:p5}{n0:Nat}{st:St}{Q:D2->St->Prop}(h:Ex A l b body (clean mask l.strict n0 st) (rJ Q fun s' =>PF A l b mask body n0 s' Q)):PF A l b mask body n0 st Q:=by
 obtain ⟨x,s1,N,hq,h1⟩:=h;cases x with
 |normal =>
  obtain ⟨x,s2,N2,Se,h2⟩:=hq;refine ⟨x,s2,max N N2+1,Se,fun n hn j hj=> ?_⟩;obtain ⟨j,rfl⟩:∃ j',j=j' +1:=⟨j - 1,by omega⟩;simp only [eE,h1 n (by omega)];exact h2 n (by omega) j (by omega)
 |exit i =>
  refine ⟨_,_,N+1,hq,fun n hn j hj=> ?_⟩;obtain ⟨j,rfl⟩:∃ j',j=j' +1:=⟨j - 1,by omega⟩;simp only [eE,h1 n (by omega)]
 |ret =>
  refine ⟨_,_,N+1,hq,fun n hn j hj=> ?_⟩;obtain ⟨j,rfl⟩:∃ j',j=j' +1:=⟨j - 1,by omega⟩;simp only [eE,h1 n (by omega)]
theorem Ex.ofL {mask:List Bool}{body:p5}{st:St}{Q:D2->St->Prop}(h:PF A l b mask body st.H.length st Q):Ex A l b (.loop mask body) st Q:=by
 obtain ⟨x,s,N,hq,h⟩:=h;exact ⟨x,s,N,hq,fun n hn=>by simp only [exec];exact h n hn n hn⟩
theorem PF.mono {mask:List Bool}{body:p5}{n0:Nat}{st:St}{Q R:D2->St->Prop}(h:PF A l b mask body n0 st Q)(k:∀ x s,Q x s->R x s):PF A l b mask body n0 st R:=by
 obtain ⟨x,s,N,hq,h⟩:=h;exact ⟨x,s,N,k x s hq,h⟩
def Ax (C:Ctx)(A:Prog)(l:F9)(b:Nat)(hook:FI):Prop:=∀ ops dr c s p q,hook ops dr c s=some (p,q)->∀ vs T H,CS.g C vs s ⟨T,H⟩ ->
 Rn A l b ops dr T H fun T' H' L=>∃ t,F0 T' L c= .d (.bool t)/\∃ o,o ∈ (if t then p else q)/\∃ ws,Le vs ws/\o.g C ws ⟨T',H'⟩
variable {C:Ctx}
def Post (C:Ctx)(vs:List Nat)(outs:List (D2×CS))(x:D2)(st:St):Prop:=∃ o,o ∈ outs/\o.1=x/\∃ ws,Le vs ws/\o.2.g C ws st
theorem Post.sub {vs ws:List Nat}{o1 o2:List (D2×CS)}{x:D2}{st:St}(h:Post C ws o1 x st)(hl:Le vs ws)(hs:∀ o,o ∈ o1->o ∈ o2):Post C vs o2 x st:=by
 obtain ⟨o,h1,h2,us,l1,h3⟩:=h;exact ⟨o,hs o h1,h2,us,hl.trans l1,h3⟩
theorem rP:∀ {l:List (D2×CS)} {o:D2×CS},o ∈ l->o.1= .normal->o.2 ∈ vO l
 |(e,s)::r,o,hm,h=>by
  rcases B8.1 hm with rfl|hm
  ·simp only at h
   subst h;simp [vO]
  ·have:=rP hm h
   cases e<;>simp [vO,this]
theorem iW:∀ {l:List (D2×CS)} {o:D2×CS},o ∈ l->o.1≠ .normal->o ∈ vh l
 |(e,s)::r,o,hm,h=>by
  rcases B8.1 hm with rfl|hm
  ·cases e<;>simp_all [vh]
  ·have:=iW hm h
   cases e<;>simp [vh,this]
theorem IN {id:Nat}:∀ {l:List (D2×CS)} {o:D2×CS},o ∈ l->(match o.1 with| .exit i=>if i=id then (D2.normal,o.2) else (D2.exit i,o.2)|x=>(x,o.2)) ∈ SQ id l
 |(e,s)::r,o,hm=>by
  rcases B8.1 hm with rfl|hm
  ·cases e with
   |exit i =>
    simp only [SQ]
    by_cases hi:i=id
    ·subst hi;simp
    ·rw [if_neg hi,if_neg (fun e=>hi (b8 e))];exact List.mem_cons_self
   |normal=>simp [SQ]
   |ret=>simp [SQ]
  ·have:=IN (id:=id) hm
   cases e<;>simp only [SQ,B8]<;>exact .inr this
theorem ux {vs:List Nat}:∀ (m:List Bool) {x:List SV} {v:List b6},r9.g C vs x v->r9.g C vs (ku m x) (R0 m v)
 |m,[],_,h=>by simp only [r9.g] at h;subst h;cases m with|nil=>simp [ku,R0,r9.g]|cons a m=>cases a<;>simp [ku,R0,r9.g]
 |[],x::xs,_,h=>by
  simp only [r9.g] at h;obtain ⟨d,ds,rfl,h1,h2⟩:=h;simp only [ku,R0,r9.g,SV.g];exact ⟨_,_,rfl,rfl,ux [] h2⟩
 |true::m,x::xs,_,h=>by
  simp only [r9.g] at h;obtain ⟨d,ds,rfl,h1,h2⟩:=h;simp only [ku,R0,r9.g];exact ⟨_,_,rfl,h1,ux m h2⟩
 |false::m,x::xs,_,h=>by
  simp only [r9.g] at h;obtain ⟨d,ds,rfl,h1,h2⟩:=h;simp only [ku,R0,r9.g,SV.g];exact ⟨_,_,rfl,rfl,ux m h2⟩
theorem NJ {vs:List Nat}{s s' :CS}{st:St}{mask:List Bool}{strict n:Nat}(hs:s.g C vs st)(h:GS mask strict n s=some s'):s'.g C vs (clean mask strict n st):=by
 obtain ⟨hT,hH,hB⟩:=hs;have hm:=ux mask hT;unfold GS at h;split at h
 ·rename_i a bs ha Ky
  have e1:=r9.cg ha hm;have e2:=AG Ky hH;split at h
  ·rename_i hc
   simp only [b5,Nat.ble_eq] at hc;cases h;unfold clean;rw [if_pos ⟨by rw [e1];exact hc.1,by rw [mN,e2];exact hc.2⟩];exact ⟨hm,E7.take hH n,hB⟩
  ·rename_i hc
   simp only [b5,Nat.ble_eq] at hc;cases h;unfold clean;rw [if_neg (by rw [e1,mN,e2];exact hc)];exact ⟨hm,hH,hB⟩
 ·cases h
theorem bw {vs:List Nat}:∀ {x:List SV} {v:List b6} {k:Nat} {r:Nat×Nat×Nat×Nat×Nat},r9.g C vs x v->wN x k=some r->eM v k=some r
 |[],_,_,_,_,h=>by simp [wN] at h
 |x::xs,_,k,r,hg,h=>by
  simp only [r9.g] at hg;obtain ⟨d,ds,rfl,h1,h2⟩:=hg;cases x<;>simp only [wN,reduceCtorEq] at h<;>simp only [SV.g] at h1
  ·subst h1;simp only [eM];exact bw h2 h
  ·obtain ⟨_,rfl,_⟩:=h1;simp only [eM];exact bw h2 h
  ·obtain ⟨_,_,rfl,_⟩:=h1;simp only [eM];exact bw h2 h
  ·subst h1;simp only [eM];exact bw h2 h
  ·subst h1;simp only [eM];exact bw h2 h
  ·obtain ⟨_,_,rfl,_⟩:=h1;simp only [eM];exact bw h2 h
  ·subst h1;simp only [eM];exact h
  ·obtain ⟨_,rfl,_⟩:=h1;simp only [eM];exact bw h2 h
  ·obtain ⟨_,rfl,_⟩:=h1;simp only [eM];exact bw h2 h
  ·obtain ⟨_,h0,_⟩:=h1;cases d<;>simp only [b6.F2,reduceCtorEq] at h0<;>simp only [eM]<;>exact bw h2 h
theorem Zp {vs:List Nat}{s s' :CS}{st:St}{entry t:Nat}(hs:s.g C vs st)(h:sfz l entry t s=some s'):∃ st',Gj l entry t st=some st' /\s'.g C vs st' :=by
 obtain ⟨hT,hH,hB⟩:=hs;unfold sfz at h;split at h
 ·rename_i b' o e
  obtain ⟨a,h1,h2⟩:=r9.get hT e;have h2:=aX h2;subst h2;split at h
  ·rename_i ho
   have ho:=b8 ho;subst ho;split at h
   ·rename_i p cs e2
    obtain ⟨o,h3,h4⟩:=E7.get hH e2;obtain ⟨ds,rfl,h5,_⟩:=h4;split at h
    ·rename_i i id sz lo len hr
     have hr:=bw h5 hr;split at h
     ·rename_i l' hl
      obtain ⟨us,h6,h7⟩:=zz hH hl;split at h
      ·rename_i xs hxs
       obtain ⟨ys,h8,h9⟩:=lQ h7 hxs;split at h
       ·rename_i hc
        simp only [b5,Nat.ble_eq,j9] at hc;obtain ⟨⟨⟨⟨⟨c1,c2⟩,c3⟩,c4⟩,c5⟩,c6⟩:=hc;have c6:=b8 c6;have c5:id≠b' :=fun e=>by rw [e] at c5;simp at c5
        cases h;refine ⟨⟨H7 id st.T,((st.H.take l.base++(st.H.drop l.base).map (u5.kill id)).set id .dead).set b' (.cells ((H7 id ds).set i (.d (.slice len ys))))⟩,?_,r9.cO id hT,E7.set (E7.set (E7.app (E7.take hH _) (E7.map (fun _ _=>SO.cO id) (E7.drop hH _))) id (a:= .dead) (b:= .dead) rfl) b' (a:= .cells none ((r9.kill id cs).set i (.d (mkSlice sz len xs)))) (b:= .cells ((H7 id ds).set i (.d (.slice len ys)))) ⟨_,rfl,r9.set (r9.cO id h5) i (bf (mW c6 h9)),fun k h=>by cases h⟩,hB⟩;simp only [Gj,h1,h3,hr,h6,h8];rw [if_pos ⟨c1,c2,c3,c4,c5⟩]
       ·cases h
      ·cases h
     ·cases h
    ·cases h
   ·cases h
  ·cases h
 ·cases h
theorem Ct {vs:List Nat}{v:SV}{a:b6}{s:CS}{st:St}{p q:List CS}(hv:v.g C vs a)(hs:s.g C vs st)(h:branch v s=some (p,q)):∃ t,a= .d (.bool t)/\∃ o,o ∈ (if t then p else q)/\o.g C vs st:=by
 unfold branch at h;split at h
 ·rename_i x
  obtain ⟨d,rfl,h1⟩:=Z4 hv;split at h
  ·rename_i b hb
   obtain ⟨t,rfl,h2⟩:=SD.cE hb h1;simp only at h2;subst h2;simp only [Option.some.injEq] at h;refine ⟨t,rfl,s,?_,hs⟩;cases t<;>simp at h<;>obtain ⟨rfl,rfl⟩:=h<;>simp
  ·rename_i c hc
   obtain ⟨t,rfl,h2⟩:=SD.cE hc h1;simp only at h2;obtain ⟨B',h3,h4⟩:=zo hs.2.2 h2;simp only [Option.some.injEq,Prod.mk.injEq] at h;obtain ⟨rfl,rfl⟩:=h;refine ⟨t,rfl,{ s with B:=B' },?_,hs.1,hs.2.1,h4⟩;cases t
   ·rw [if_neg (by simp),h3];exact p8.2 rfl
   ·rw [if_pos rfl,h3];exact p8.2 rfl
  ·cases h
 ·cases h
theorem oR:∀ {outs:List SS} {c:r8} {p q:List CS},oQ outs c=some (p,q)->∀ o,o ∈ outs->∃ p' q',branch (bz o.T o.L c) ⟨o.T,o.H,o.B⟩=some (p',q')/\(∀ x,x ∈ p' ->x ∈ p)/\∀ x,x ∈ q' ->x ∈ q
 |o::r,c,p,q,h,o',hm=>by
  simp only [oQ] at h;split at h
  ·rename_i p1 q1 p2 q2 h1 h2
   simp only [Option.some.injEq,Prod.mk.injEq] at h;obtain ⟨rfl,rfl⟩:=h
   rcases B8.1 hm with rfl|hm
   ·exact ⟨p1,q1,h1,fun x hx=>List.mem_append_left _ hx,fun x hx=>List.mem_append_left _ hx⟩
   ·obtain ⟨p',q',h3,h4,h5⟩:=oR h2 o' hm
    exact ⟨p',q',h3,fun x hx=>List.mem_append_right _ (h4 x hx),fun x hx=>List.mem_append_right _ (h5 x hx)⟩
  ·cases h
variable {sem:Sem} (eD:fe C A sem) {hook:FI} (CR:Ax C A l b hook) {kp:List Nat} {fuel:Nat}
omit eD CR in
theorem IC {body:p5}{sb:CS->Option (List (D2×CS))}(hb:∀ {vs s st outs},CS.g C vs s st->sb s=some outs->Ex A l b body st (Post C vs outs)){mask:List Bool}{n0:Nat} :
  ∀ (k:Nat) {L:List CS} {vs:List Nat} {s:CS} {st:St} {outs:List (D2×CS)},s ∈ L->s.g C vs st->DX kp sb mask l.strict n0 k L=some outs->PF A l b mask body n0 st (Post C vs outs)
 |0,L,vs,s,st,outs,hm,hs,h=>by
  cases L with
  |nil=>cases hm
  |cons a L=>simp [DX] at h
 |k+1,L,vs,s,st,outs,hm,hs,h=>by
  have hne:L.isEmpty=false:=by cases L with|nil=>cases hm|cons a L=>rfl
  simp only [DX,hne,b7,if_false] at h;split at h
  ·rename_i os hos
   split at h
   ·rename_i r hr
    cases h;obtain ⟨x,hx,XI⟩:=U7 hos s hm;split at hx
    ·rename_i s' hs'
     refine PF.step ((hb (NJ hs hs') hx).mono ?_);rintro e st' ⟨o,o1,rfl,ws,l1,o3⟩;cases he:o.1 with
     |normal =>
      simp only [rJ];obtain ⟨t,t1,us,l2,t2⟩:=lE _ (rP (XI o o1) he) o3;exact (IC hb k t1 t2 hr).mono fun e Ob hp=>hp.sub (l1.trans l2) fun o h=>List.mem_append_right _ h
     |exit i=>exact ⟨o,List.mem_append_left _ (iW (XI o o1) (by rw [he];simp)),he,ws,l1,o3⟩
     |ret=>exact ⟨o,List.mem_append_left _ (iW (XI o o1) (by rw [he];simp)),he,ws,l1,o3⟩
    ·cases hx
   ·cases h
  ·cases h
include eD CR
theorem ey:∀ (c:p5) {vs:List Nat} {s:CS} {st:St} {outs:List (D2×CS)},s.g C vs st->aD A sem hook kp l b fuel c s=some outs->Ex A l b c st (Post C vs outs)
 | .skip,vs,s,st,outs,hs,h=>by
  simp only [aD,Option.some.injEq] at h;subst h;exact Ex.skip ⟨_,p8.2 rfl,rfl,vs,Le.refl _,hs⟩
 | .exit id,vs,s,st,outs,hs,h=>by
  simp only [aD,Option.some.injEq] at h;subst h;exact Ex.exit ⟨_,p8.2 rfl,rfl,vs,Le.refl _,hs⟩
 | .ret,vs,s,st,outs,hs,h=>by
  simp only [aD,Option.some.injEq] at h;subst h;exact Ex.ret ⟨_,p8.2 rfl,rfl,vs,Le.refl _,hs⟩
 | .bad,vs,s,st,outs,hs,h=>by simp [aD] at h
 | .region ops draw,vs,s,st,outs,hs,h=>by
  simp only [aD] at h;split at h
  ·rename_i os hos
   cases h;obtain ⟨r,N,⟨o,o1,ws,l1,g1,g2,g3,g4⟩,hr⟩:=zA eD hs.1 hs.2.1 hs.2.2 hos;exact Ex.region ⟨r,N,⟨_,List.mem_map.2 ⟨o,o1,rfl⟩,rfl,ws,l1,g1,g2,g4⟩,hr⟩
  ·cases h
 | .seq a c,vs,s,st,outs,hs,h=>by
  simp only [aD] at h;split at h
  ·rename_i os hos
   split at h
   ·rename_i r hr
    cases h;refine Ex.seq ((ey a hs hos).mono ?_);rintro e st' ⟨o,o1,rfl,ws,l1,o3⟩;cases he:o.1 with
    |normal =>
     simp only [rJ];obtain ⟨t,t1,us,l2,t2⟩:=lE _ (rP o1 he) o3;obtain ⟨x,hx,XI⟩:=U7 hr t t1;exact (ey c t2 hx).mono fun e Ob hp=>hp.sub (l1.trans l2) fun o h=>List.mem_append_right _ (XI o h)
    |exit i=>exact ⟨o,List.mem_append_left _ (iW o1 (by rw [he];simp)),he,ws,l1,o3⟩
    |ret=>exact ⟨o,List.mem_append_left _ (iW o1 (by rw [he];simp)),he,ws,l1,o3⟩
   ·cases h
  ·cases h
 | .cond c a d,vs,s,st,outs,hs,h=>by
  simp only [aD] at h;split at h
  ·rename_i p q hpq
   split at h
   ·rename_i x y hx hy
    cases h;obtain ⟨t,h1,o,o1,o2⟩:=Ct (BP (L:=[]) (L' :=[]) hs.1 (by simp [r9.g]) c) hs hpq;refine Ex.cond h1 (fun ht=> ?_) (fun ht=> ?_)
    ·subst ht
     obtain ⟨z,hz,hm⟩:=U7 hx o (by simpa using o1);exact (ey a o2 hz).mono fun e Ob hp=>hp.sub (Le.refl _) fun o h=>List.mem_append_left _ (hm o h)
    ·subst ht
     obtain ⟨z,hz,hm⟩:=U7 hy o (by simpa using o1);exact (ey d o2 hz).mono fun e Ob hp=>hp.sub (Le.refl _) fun o h=>List.mem_append_right _ (hm o h)
   ·cases h
  ·cases h
 | .test ops draw c a d,vs,s,⟨T,H⟩,outs,hs,h=>by
  simp only [aD] at h;split at h
  ·rename_i p q hpq
   split at h
   ·rename_i x y hx hy
    cases h;have hR:Rn A l b ops draw T H fun T' H' L=>∃ t,F0 T' L c= .d (.bool t)/\∃ o,o ∈ (if t then p else q)/\∃ ws,Le vs ws/\o.g C ws ⟨T',H'⟩:=by
     split at hpq
     ·rename_i pq hh
      cases hpq;exact CR _ _ _ _ _ _ hh vs T H hs
     ·split at hpq
      ·rename_i os hos
       obtain ⟨r,N,⟨o,o1,ws,l1,g1,g2,g3,g4⟩,hr⟩:=zA eD hs.1 hs.2.1 hs.2.2 hos;obtain ⟨p',q',h1,h2,h3⟩:=oR hpq o o1;obtain ⟨t,h4,u,u1,u2⟩:=Ct (st:=⟨r.T,r.H⟩) (BP g1 g3 c) ⟨g1,g2,g4⟩ h1;refine ⟨r,N,⟨t,h4,u,?_,ws,l1,u2⟩,hr⟩;cases t
       ·simpa using h3 u (by simpa using u1)
       ·simpa using h2 u (by simpa using u1)
      ·cases hpq
    obtain ⟨r,N,⟨t,h4,u,u1,ws,l1,u2⟩,hr⟩:=hR;refine Ex.test ⟨r,N,⟨t,h4,fun ht=> ?_,fun ht=> ?_⟩,hr⟩
    ·subst ht
     obtain ⟨m,m1,us,l2,m2⟩:=lE _ (by simpa using u1) u2;obtain ⟨z,hz,hm⟩:=U7 hx m m1;exact (ey a m2 hz).mono fun e Ob hp=>hp.sub (l1.trans l2) fun o h=>List.mem_append_left _ (hm o h)
    ·subst ht
     obtain ⟨m,m1,us,l2,m2⟩:=lE _ (by simpa using u1) u2;obtain ⟨z,hz,hm⟩:=U7 hy m m1;exact (ey d m2 hz).mono fun e Ob hp=>hp.sub (l1.trans l2) fun o h=>List.mem_append_right _ (hm o h)
   ·cases h
  ·cases h
 | .block id body,vs,s,st,outs,hs,h=>by
  simp only [aD] at h;split at h
  ·rename_i os hos
   cases h;refine Ex.block ((ey body hs hos).mono ?_);rintro e st' ⟨o,o1,rfl,ws,l1,o3⟩;have hm:=IN (id:=id) o1;cases he:o.1 with
   |normal=>rw [he] at hm;exact ⟨_,hm,rfl,ws,l1,o3⟩
   |ret=>rw [he] at hm;exact ⟨_,hm,rfl,ws,l1,o3⟩
   |exit i =>
    rw [he] at hm;simp only at hm;simp only [BZ];split
    ·rename_i hi;rw [if_pos hi] at hm;exact ⟨_,hm,rfl,ws,l1,o3⟩
    ·rename_i hi;rw [if_neg hi] at hm;exact ⟨_,hm,rfl,ws,l1,o3⟩
  ·cases h
 | .loop mask body,vs,s,st,outs,hs,h=>by
  simp only [aD] at h;refine Ex.ofL ?_;rw [E7.len hs.2.1];exact IC (sb:=aD A sem hook kp l b fuel body) (fun {_ _ _ _} h1 h2=>ey body h1 h2) fuel (p8.2 rfl) hs h
 | .fz t,vs,s,st,outs,hs,h=>by
  simp only [aD] at h;split at h
  ·rename_i s' hs'
   cases h;obtain ⟨st',h1,h2⟩:=Zp hs hs';exact ⟨_,_,0,⟨_,p8.2 rfl,rfl,vs,Le.refl _,h2⟩,fun n _=>by
    have:Gj (J4 A n l b).lim (J4 A n l b).entry t st=some st' :=h1;simp only [exec,this]⟩
  ·cases h
end
def BO (T:List SV)(H:List SO):xY->Option SV
 | .slot t=>T[t]?
 | .cell t none=>match T[t]? with
  |some (.ptr id off)=>match Rr H id off 1 with
   |some [v]=>some v.F2
   |_=>none
  |_=>none
 | .cell t (some n)=>match T[t]? with
  |some (.ptr id off)=>match H[id]? with
   |some (.cells p l)=>if J7 (off+n) l.length then some (.agg (if y4 off 0&&y4 n l.length then p else none) (((l.drop off).take n).map SV.F2)) else none
   |_=>none
  |_=>none
def lZ (T:List SV)(H:List SO):List xY->Option (List SV)
 |[]=>some []
 |r::rs=>match BO T H r,lZ T H rs with
  |some v,some vs=>some (v::vs)
  |_,_=>none
def BI:List SV->SV
 |[v]=>v
 |vs=> .tuple (vs.map SV.F2)
def BC (H:List SO)(n:Nat):Nat->List SV->Option (List SV)
 |0,_=>none
 |fuel+1,l=>match l with
  |[]=>some []
  |v::vs=>match BC H n fuel vs with
   |none=>none
   |some ws=>match v with
    | .D0 id sz lo len=>if Nat.blt id n then some (.D0 id sz lo len::ws) else match Rr H id lo (len * sz) with
     |some us=>match BC H n fuel us with
      |some us' =>match gQ us' with
       |some xs=>if y4 xs.length (len * sz) then some (.d (mkSlice sz len xs)::ws) else none
       |none=>none
      |none=>none
     |none=>none
    | .agg p l=>match BC H n fuel l with
     |some l' =>some (.agg (match r9.W7 l with|some 0=>p|_=>none) l' ::ws)
     |none=>none
    | .tuple l=>match BC H n fuel l with
     |some l' =>some (.tuple l' ::ws)
     |none=>none
    | .top=>none
    | .bn k=>if y4 k 0 then some (.bn 0::ws) else none
    |v=>some (v::ws)
def BB (an:Bool)(n:Nat)(vs:List SV)(H:List SO):Option (SV×List SO) :=
 if an then some (BI vs,H) else match BC H n 1000 [BI vs] with
  |some [v]=>match v.W7 with
   |some b=>if J7 b n then some (v,H.take n) else none
   |none=>none
  |_=>none
section
variable {C:Ctx} {vs:List Nat}
theorem HB (cs:List b6):(cs.map b6.F2).map b6.F2=cs.map b6.F2:=by
 rw [List.map_map]
 congr 1
 funext v
 cases v<;>rfl
theorem Li {T:List SV}{H:List SO}{T' :List b6}{H' :o6}(hT:r9.g C vs T T')(hH:E7.g C vs H H'){r:xY}{v:SV}(h:BO T H r=some v):∃ a,jU T' H' r=some a/\v.g C vs a:=by
 unfold BO at h;split at h
 ·exact r9.get hT h
 ·split at h
  ·rename_i id off e
   obtain ⟨a,h1,h2⟩:=r9.get hT e;rw [aX h2] at h1;split at h
   ·rename_i w hw
    cases h;obtain ⟨cs,h3,h4⟩:=zz hH hw;simp only [r9.g] at h4;obtain ⟨d,_,rfl,h5,rfl⟩:=h4;exact ⟨d.F2,by simp only [jU,h1,h3],SV.ny h5⟩
   ·cases h
  ·cases h
 ·rename_i t n
  split at h
  ·rename_i id off e
   obtain ⟨a,h1,h2⟩:=r9.get hT e;rw [aX h2] at h1;split at h
   ·rename_i p l hl
    split at h
    ·rename_i hc
     have hc:=m6 hc;cases h;obtain ⟨o,h3,h4⟩:=E7.get hH hl;obtain ⟨cs,rfl,h5,h6⟩:=h4;have hlen:=r9.len h5;refine ⟨.agg (((cs.drop off).take n).map b6.F2),?_,?_⟩
     ·simp only [jU,h1,rd,h3]
      rw [if_pos (by omega)]
     ·simp only [SV.g]
      refine ⟨_,rfl,r9.map (fun _ _=>SV.ny) (r9.take (r9.drop h5 off) n),fun k hk=> ?_⟩;split at hk
      ·rename_i kj
       simp only [b5] at kj;have c1:=b8 kj.1;have c2:=b8 kj.2;subst c1;rw [show (cs.drop 0).take n=cs by rw [List.drop_zero,s6 (by omega)],HB];exact h6 k hk
      ·cases hk
    ·cases h
   ·cases h
  ·cases h
theorem wO {T:List SV}{H:List SO}{T' :List b6}{H' :o6}(hT:r9.g C vs T T')(hH:E7.g C vs H H'):∀ {rs:List xY} {l:List SV},lZ T H rs=some l->∃ as,bF T' H' rs=some as/\r9.g C vs l as
 |[],l,h=>by simp only [lZ,Option.some.injEq] at h;subst h;exact ⟨[],rfl,by simp [r9.g]⟩
 |r::rs,l,h=>by
  simp only [lZ] at h;split at h
  ·rename_i v ws hv hws
   cases h;obtain ⟨a,h1,h2⟩:=Li hT hH hv;obtain ⟨as,h3,h4⟩:=wO hT hH hws;exact ⟨a::as,by simp only [bF,h1,h3],by simp only [r9.g];exact ⟨_,_,rfl,h2,h4⟩⟩
  ·cases h
theorem DY {l:List SV}{as:List b6}(h:r9.g C vs l as):(BI l).g C vs (b9 as):=by
 have key:∀ {l:List SV} {as:List b6},r9.g C vs l as->(SV.tuple (l.map SV.F2)).g C vs (.tuple (as.map b6.F2)):=fun h=>by
  simp only [SV.g];exact ⟨_,rfl,r9.map (fun _ _=>SV.ny) h⟩
 match l,h with
 |[],h=>have:=key h;simp only [r9.g] at h;subst h;exact this
 |[v],h=>simp only [r9.g] at h;obtain ⟨d,_,rfl,h1,rfl⟩:=h;exact h1
 |v::w::l,h=>have:=key h;simp only [r9.g] at h;obtain ⟨d,_,rfl,h1,e,es,rfl,h2,h3⟩:=h;exact this
theorem PY {H:o6}{n:Nat}:∀ (fuel:Nat) {l ws:List b6},y9 l=0->bI H n fuel l=some ws->ws=l
 |0,l,ws,_,h=>by simp [bI] at h
 |fuel+1,[],ws,_,h=>by simp only [bI,Option.some.injEq] at h;exact h.symm
 |fuel+1,v::l,ws,hb,h=>by
  simp only [y9] at hb;simp only [bI] at h;split at h
  ·cases h
  ·rename_i us vE
   have e1:=PY fuel (by omega) vE;subst e1;split at h
   ·simp [b6.M3] at hb
   ·rename_i l0
    simp only [b6.M3] at hb;split at h
    ·rename_i l' hl'
     have e2:=PY fuel (l:=l0) (by omega) hl';cases h;rw [e2]
    ·cases h
   ·rename_i l0
    simp only [b6.M3] at hb;split at h
    ·rename_i l' hl'
     have e2:=PY fuel (l:=l0) (by omega) hl';cases h;rw [e2]
    ·cases h
   ·cases h;rfl
theorem wH {H:List SO}{H' :o6}{n:Nat}(hH:E7.g C vs H H'):∀ (fuel:Nat) {l ws:List SV} {as:List b6},r9.g C vs l as->BC H n fuel l=some ws->∃ bs,bI H' n fuel as=some bs/\r9.g C vs ws bs
 |0,l,ws,as,_,h=>by simp [BC] at h
 |fuel+1,[],ws,as,hg,h=>by
  simp only [r9.g] at hg;subst hg;simp only [BC,Option.some.injEq] at h;subst h;exact ⟨[],by simp [bI],by simp [r9.g]⟩
 |fuel+1,v::l,ws,as,hg,h=>by
  simp only [r9.g] at hg;obtain ⟨a,as,rfl,ha,hl⟩:=hg;simp only [BC] at h;split at h
  ·cases h
  ·rename_i us vE
   obtain ⟨bs,h1,h2⟩:=wH hH fuel hl vE;have fin:∀ {v:SV} {a:b6},v.g C vs a->r9.g C vs (v::us) (a::bs):=fun h=>by simp only [r9.g];exact ⟨_,_,rfl,h,h2⟩
   split at h
   ·rename_i id sz lo len
    rw [jW ha];split at h
    ·rename_i hc
     have hc:id<n:=m6 hc;cases h;exact ⟨.D0 id sz lo len::bs,by simp only [bI,h1];rw [if_pos hc],fin (by simp only [SV.g])⟩
    ·rename_i hc
     have hc:¬ id<n:=fun e=>hc (by rw [Nat.blt_eq];exact e)
     split at h
     ·rename_i q hq
      split at h
      ·rename_i q' XL
       split at h
       ·rename_i xs hxs
        split at h
        ·rename_i hlen
         have hlen:=b8 hlen;cases h;obtain ⟨cs,h3,h4⟩:=zz hH hq;obtain ⟨ds,h5,h6⟩:=wH hH fuel h4 XL;obtain ⟨es,h7,h8⟩:=lQ h6 hxs;exact ⟨.d (.slice len es)::bs,by simp only [bI,h1];rw [if_neg hc];simp only [h3,h5,h7],fin (bf (mW hlen h8))⟩
        ·cases h
       ·cases h
      ·cases h
     ·cases h
   ·rename_i p l'
    simp only [SV.g] at ha;obtain ⟨cs,rfl,h3,h4⟩:=ha;split at h
    ·rename_i l2 kU
     cases h;obtain ⟨ds,h5,h6⟩:=wH hH fuel h3 kU;refine ⟨.agg ds::bs,by simp only [bI,h1,h5],fin ?_⟩;simp only [SV.g];refine ⟨ds,rfl,h6,fun k hk=> ?_⟩;split at hk
     ·rename_i hb
      rw [PY fuel (r9.cg hb h3) h5];exact h4 k hk
     ·cases hk
    ·cases h
   ·rename_i l'
    simp only [SV.g] at ha;obtain ⟨cs,rfl,h3⟩:=ha;split at h
    ·rename_i l2 kU
     cases h;obtain ⟨ds,h5,h6⟩:=wH hH fuel h3 kU;exact ⟨.tuple ds::bs,by simp only [bI,h1,h5],fin (by simp only [SV.g];exact ⟨_,rfl,h6⟩)⟩
    ·cases h
   ·cases h
   ·rename_i k
    split at h
    ·rename_i hk
     have hk:=b8 hk;subst hk;cases h;simp only [SV.g] at ha;refine ⟨a::bs,?_,fin (by simp only [SV.g];exact ha)⟩;obtain ⟨a1,a2⟩:=ha;cases a<;>simp only [b6.M3,b6.one,b7,reduceCtorEq] at a1 a2<;>first
      |(simp only [bI,h1];done)
      |omega
    ·cases h
   ·rename_i w1 w2 w3 w4 w5
    cases h;refine ⟨a::bs,?_,fin ha⟩;cases v<;>simp only [SV.g] at ha
    ·exact absurd rfl w4
    ·subst ha;simp only [bI,h1]
    ·obtain ⟨_,rfl,_⟩:=ha;simp only [bI,h1]
    ·obtain ⟨_,_,rfl,_⟩:=ha;simp only [bI,h1]
    ·subst ha;simp only [bI,h1]
    ·subst ha;simp only [bI,h1]
    ·obtain ⟨_,_,rfl,_⟩:=ha;simp only [bI,h1]
    ·exact absurd rfl (w1 _ _ _ _)
    ·exact absurd rfl (w2 _ _)
    ·exact absurd rfl (w3 _)
    ·exact absurd rfl (w5 _)
    ·obtain ⟨_,h0,_⟩:=ha;cases a<;>simp only [b6.F2,reduceCtorEq] at h0<;>simp only [bI,h1]
theorem Lb {H H1:List SO}{H' :o6}{an:Bool}{n:Nat}{l:List SV}{as:List b6}{v:SV}(hH:E7.g C vs H H')(hl:r9.g C vs l as)(h:BB an n l H=some (v,H1)) :
  ∃ a H2,finish an n as H' =some (a,H2)/\v.g C vs a/\E7.g C vs H1 H2:=by
 unfold BB at h;split at h
 ·rename_i hp
  cases h;exact ⟨_,_,by simp only [finish,hp,if_true],DY hl,hH⟩
 ·rename_i hp
  split at h
  ·rename_i w hw
   split at h
   ·rename_i b hb
    split at h
    ·rename_i hc
     have hc:=m6 hc;cases h;obtain ⟨bs,h1,h2⟩:=wH hH 1000 (l:=[BI l]) (as:=[b9 as]) (by simp only [r9.g];exact ⟨_,_,rfl,DY hl,rfl⟩) hw;simp only [r9.g] at h2;obtain ⟨a,_,rfl,h3,rfl⟩:=h2;have e:=SV.cg hb h3;refine ⟨a,H'.take n,?_,h3,E7.take hH n⟩;simp only [finish];rw [if_neg hp,h1];simp only;rw [if_pos (by omega)]
    ·cases h
   ·cases h
  ·cases h
end
def SB.cl:SB->Bool
 | .qU=>true
 |_=>false
def Rel.cl:Rel->Bool
 | .no=>true
 |_=>false
mutual
def SD.cl:SD->Bool
 | .bool c=>c.cl
 | .int _ _ _ r=>r.cl
 | .slice v _ _ row=>v.isNone&&D7.cl row
 | .pr _ x=>x.cl
 |_=>true
def D7.cl:List SD->Bool
 |[]=>true
 |x::xs=>x.cl&&D7.cl xs
end
mutual
def SV.cl:SV->Bool
 | .d x=>x.cl
 | .own _ x=>x.cl
 | .q x=>x.cl
 | .P9 r=>D7.cl r
 | .agg _ l=>r9.cl l
 | .tuple l=>r9.cl l
 |_=>true
def r9.cl:List SV->Bool
 |[]=>true
 |x::xs=>x.cl&&r9.cl xs
end
def SO.cl:SO->Bool
 | .cells _ l=>r9.cl l
 |_=>true
def E7.cl:List SO->Bool
 |[]=>true
 |x::xs=>x.cl&&E7.cl xs
section
variable {C:Ctx} {vs ws:List Nat}
mutual
theorem SD.bG:∀ (x:SD) {d:Data},x.cl=true->x.g C vs d->x.g C ws d
 | .top,_,_,_=>by simp [SD.g]
 | .lit _,_,_,h=>by simpa only [SD.g] using h
 | .bool c,_,hc,h=>by
  cases c with
  |qU=>simp only [SD.g] at h ⊢;obtain ⟨b,h1,_⟩:=h;exact ⟨b,h1,trivial⟩
  |cmp=>simp [SD.cl,SB.cl] at hc
 | .int k lo hi r,_,hc,h=>by
  cases r with
  |no=>simp only [SD.g] at h ⊢;obtain ⟨b,h1,h2,h3,_⟩:=h;exact ⟨b,h1,h2,h3,trivial⟩
  |eq=>simp [SD.cl,Rel.cl] at hc
  |lt=>simp [SD.cl,Rel.cl] at hc
 | .anyI _,_,_,h=>by simpa only [SD.g] using h
 | .str _,_,_,h=>by simpa only [SD.g] using h
 | .slice v lo hi row,_,hc,h=>by
  cases v with
  |some i=>simp [SD.cl] at hc
  |none =>
   simp only [SD.cl,Option.isNone_none,Bool.true_and] at hc;simp only [SD.g] at h ⊢;obtain ⟨rows,h1,h2,h3,_,h5⟩:=h;exact ⟨rows,h1,h2,h3,(fun i e=>by cases e),fun r hr=>D7.bG row hc (h5 r hr)⟩
 | .pr _ x,_,hc,h=>by simp only [SD.cl] at hc;simp only [SD.g] at h ⊢;exact ⟨h.1,SD.bG x hc h.2⟩
theorem D7.bG:∀ (x:List SD) {d:List Data},D7.cl x=true->D7.g C vs x d->D7.g C ws x d
 |[],_,_,h=>by simpa only [D7.g] using h
 |x::xs,_,hc,h=>by
  simp only [D7.cl,b5] at hc;simp only [D7.g] at h ⊢;obtain ⟨d,ds,h1,h2,h3⟩:=h;exact ⟨d,ds,h1,SD.bG x hc.1 h2,D7.bG xs hc.2 h3⟩
end
mutual
theorem SV.bG:∀ (x:SV) {d:b6},x.cl=true->x.g C vs d->x.g C ws d
 | .top,_,_,_=>by simp [SV.g]
 | .any,_,_,h=>by simpa only [SV.g] using h
 | .d x,_,hc,h=>by simp only [SV.cl] at hc;simp only [SV.g] at h ⊢;obtain ⟨y,h1,h2⟩:=h;exact ⟨y,h1,SD.bG x hc h2⟩
 | .own _ x,_,hc,h=>by simp only [SV.cl] at hc;simp only [SV.g] at h ⊢;obtain ⟨a,b,h1,h2⟩:=h;exact ⟨a,b,h1,SD.bG x hc h2⟩
 | .I5,_,_,h=>by simpa only [SV.g] using h
 | .ptr ..,_,_,h=>by simpa only [SV.g] using h
 | .P9 row,_,hc,h=>by simp only [SV.cl] at hc;simp only [SV.g] at h ⊢;obtain ⟨a,b,h1,h2⟩:=h;exact ⟨a,b,h1,D7.bG row hc h2⟩
 | .D0 ..,_,_,h=>by simpa only [SV.g] using h
 | .agg p l,_,hc,h=>by simp only [SV.cl] at hc;simp only [SV.g] at h ⊢;obtain ⟨cs,h1,h2,h3⟩:=h;exact ⟨cs,h1,r9.bG l hc h2,h3⟩
 | .tuple l,_,hc,h=>by simp only [SV.cl] at hc;simp only [SV.g] at h ⊢;obtain ⟨cs,h1,h2⟩:=h;exact ⟨cs,h1,r9.bG l hc h2⟩
 | .bn _,_,_,h=>by simpa only [SV.g] using h
 | .q x,_,hc,h=>by simp only [SV.cl] at hc;simp only [SV.g] at h ⊢;obtain ⟨y,h1,h2⟩:=h;exact ⟨y,h1,SD.bG x hc h2⟩
theorem r9.bG:∀ (x:List SV) {d:List b6},r9.cl x=true->r9.g C vs x d->r9.g C ws x d
 |[],_,_,h=>by simpa only [r9.g] using h
 |x::xs,_,hc,h=>by
  simp only [r9.cl,b5] at hc;simp only [r9.g] at h ⊢;obtain ⟨d,ds,h1,h2,h3⟩:=h;exact ⟨d,ds,h1,SV.bG x hc.1 h2,r9.bG xs hc.2 h3⟩
end
theorem SO.bG (x:SO){o:u5}(hc:x.cl=true)(h:x.g C vs o):x.g C ws o:=by
 cases x with
 |dead=>exact h
 |cells p l=>obtain ⟨cs,h1,h2,h3⟩:=h;exact ⟨cs,h1,r9.bG l hc h2,h3⟩
 |pr k=>exact h
 |bn k=>exact h
 |top=>trivial
theorem E7.bG:∀ (x:List SO) {o:o6},E7.cl x=true->E7.g C vs x o->E7.g C ws x o
 |[],_,_,h=>by simpa only [E7.g] using h
 |x::xs,_,hc,h=>by
  simp only [E7.cl,b5] at hc;simp only [E7.g] at h ⊢;obtain ⟨d,ds,h1,h2,h3⟩:=h;exact ⟨d,ds,h1,SO.bG x hc.1 h2,E7.bG xs hc.2 h3⟩
end
def Dj:List SV->Option (List Data)
 |[]=>some []
 | .d (.lit x)::r=>match Dj r with
  |some xs=>some (x::xs)
  |none=>none
 |_=>none
abbrev Fact:=Nat->List Data->Bool
def uE (C:Ctx)(fact:Fact):Prop:=∀ k ds,fact k ds=true->C.Θ k (ds.map .d)
def IJ (fact:Fact)(p:Option Nat)(l:List SV):Option Nat->Bool
 |none=>true
 |some k=>Eh p (some k)||(match Dj l with
  |some ds=>fact k ds
  |none=>false)
mutual
def SV.le (fact:Fact)(B:ig)(x:SV):SV->Bool
 | .top=>true
 | .any=>match x with
  | .any=>true
  |_=>false
 | .d y=>match x with
  | .d x=>SD.le B x y
  |_=>false
 | .own z y=>match x with
  | .own z' x=>y4 z z' &&SD.le B x y
  |_=>false
 | .I5=>match x with
  | .I5=>true
  |_=>false
 | .ptr i o=>match x with
  | .ptr i' o' =>y4 i i' &&y4 o o'
  |_=>false
 | .P9 _=>false
 | .D0 i z l n=>match x with
  | .D0 i' z' l' n' =>y4 i i' &&y4 z z' &&y4 l l' &&y4 n n'
  |_=>false
 | .agg p l=>match x with
  | .agg p' l' =>IJ fact p' l' p&&r9.le fact B l' l
  |_=>false
 | .tuple l=>match x with
  | .tuple l' =>r9.le fact B l' l
  |_=>false
 | .q y=>match x.data? with
  |some x=>SD.le B x y
  |none=>false
 | .bn k=>x.one&&(match x.W7 with
  |some b=>y4 b k
  |none=>false)
def r9.le (fact:Fact)(B:ig)(xs:List SV):List SV->Bool
 |[]=>xs.isEmpty
 |y::ys=>match xs with
  |x::xs=>SV.le fact B x y&&r9.le fact B xs ys
  |[]=>false
end
def SO.le (fact:Fact)(B:ig):SO->SO->Bool
 | .dead,.dead=>true
 | .cells p l,.cells p' l' =>IJ fact p l p' &&r9.le fact B l l'
 | .pr k,.pr k' =>y4 k k'
 |x,.bn k=>(match x.W7 with
  |some b=>y4 b k
  |none=>false)
 |_,.top=>true
 |_,_=>false
def E7.le (fact:Fact)(B:ig):List SO->List SO->Bool
 |[],[]=>true
 |x::xs,y::ys=>x.le fact B y&&E7.le fact B xs ys
 |_,_=>false
section
variable {C:Ctx} {vs:List Nat} {B:ig} {fact:Fact} (hB:Bg vs B) (hf:uE C fact)
theorem Ii:∀ {l:List SV} {ds:List Data} {cs:List b6},Dj l=some ds->r9.g C vs l cs->cs=ds.map .d
 |[],_,_,h,hg=>by simp only [Dj,Option.some.injEq] at h;subst h;simp only [r9.g] at hg;simpa using hg
 |x::xs,_,_,h,hg=>by
  simp only [r9.g] at hg;obtain ⟨d,ds',rfl,h1,h2⟩:=hg;unfold Dj at h;split at h
  ·rename_i e;cases e
  ·rename_i y r e
   cases e;split at h
   ·rename_i ys hys
    cases h;obtain ⟨q,rfl,h3⟩:=Z4 h1;simp only [SD.g] at h3;subst h3;rw [Ii hys h2];rfl
   ·cases h
  ·cases h
include hf in
theorem IK {p q:Option Nat}{l:List SV}{cs:List b6}(h:IJ fact p l q=true)(hl:r9.g C vs l cs)(hp:∀ k,p=some k->C.Θ k (cs.map b6.F2)):∀ k,q=some k->C.Θ k (cs.map b6.F2):=by
 rintro k rfl;simp only [IJ,Bool.or_eq_true] at h
 rcases h with h|h
 ·exact hp k (Ei h)
 ·split at h
  ·rename_i ds hds
   rw [Ii hds hl];have e:(ds.map b6.d).map b6.F2=ds.map b6.d:=by rw [List.map_map];rfl
   rw [e];exact hf k ds h
  ·cases h
include hB hf
mutual
theorem SV.aW:∀ (y:SV) {x:SV} {v:b6},SV.le fact B x y=true->x.g C vs v->y.g C vs v
 | .top,_,_,_,_=>by simp [SV.g]
 | .any,x,_,h,hg=>by cases x<;>simp only [SV.le,b7] at h;exact hg
 | .d y,x,_,h,hg=>by
  cases x<;>simp only [SV.le,b7] at h;obtain ⟨d,rfl,h1⟩:=Z4 hg;exact bf (SD.aW hB y h h1)
 | .own z y,x,_,h,hg=>by
  cases x<;>simp only [SV.le,b7,b5] at h;have e:=b8 h.1;subst e;obtain ⟨len,cells,rfl,h1⟩:=oz hg;simp only [SV.g];exact ⟨_,_,rfl,SD.aW hB y h.2 h1⟩
 | .I5,x,_,h,hg=>by cases x<;>simp only [SV.le,b7] at h;exact hg
 | .ptr i o,x,_,h,hg=>by
  cases x<;>simp only [SV.le,b7,b5] at h;have e:=b8 h.1;have e2:=b8 h.2;subst e e2;exact hg
 | .P9 _,x,_,h,hg=>by simp [SV.le] at h
 | .D0 i z l n,x,_,h,hg=>by
  cases x<;>simp only [SV.le,b7,b5] at h;have e1:=b8 h.1.1.1;have e2:=b8 h.1.1.2;have e3:=b8 h.1.2;have e4:=b8 h.2;subst e1 e2 e3 e4;exact hg
 | .agg p l,x,_,h,hg=>by
  cases x<;>simp only [SV.le,b7,b5] at h;simp only [SV.g] at hg ⊢;obtain ⟨cs,rfl,h1,h2⟩:=hg;exact ⟨cs,rfl,r9.aW l h.2 h1,IK hf h.1 h1 h2⟩
 | .tuple l,x,_,h,hg=>by
  cases x<;>simp only [SV.le,b7] at h;simp only [SV.g] at hg ⊢;obtain ⟨cs,rfl,h1⟩:=hg;exact ⟨cs,rfl,r9.aW l h h1⟩
 | .q y,x,_,h,hg=>by
  simp only [SV.le] at h;split at h
  ·rename_i z hz
   obtain ⟨d,h0,h1⟩:=Br hg hz;exact Bq h0 (SD.aW hB y h h1)
  ·cases h
 | .bn k,x,_,h,hg=>by
  simp only [SV.le,b5] at h;split at h
  ·rename_i b hb
   have e:=b8 h.2;subst e;simp only [SV.g];exact ⟨SV.cg hb hg,SV.vU hg h.1⟩
  ·exact absurd h.2 (by simp)
theorem r9.aW:∀ (y:List SV) {x:List SV} {v:List b6},r9.le fact B x y=true->r9.g C vs x v->r9.g C vs y v
 |[],x,_,h,hg=>by
  cases x with
  |nil=>exact hg
  |cons=>simp [r9.le] at h
 |y::ys,x,_,h,hg=>by
  cases x<;>simp only [r9.le,b7,b5] at h;simp only [r9.g] at hg ⊢;obtain ⟨d,ds,rfl,h1,h2⟩:=hg;exact ⟨d,ds,rfl,SV.aW y h.1 h1,r9.aW ys h.2 h2⟩
end
theorem SO.aW {x y:SO}{o:u5}(h:x.le fact B y=true)(hg:x.g C vs o):y.g C vs o:=by
 have key:∀ k,(match x.W7 with|some b=>y4 b k|none=>false)=true->o.M3=k:=fun k hk=>by
  split at hk
  ·rename_i b hb
   rw [SO.cg hb hg];exact b8 hk
  ·cases hk
 cases y
 case top=>trivial
 case bn k=>exact key k (by cases x<;>simpa only [SO.le] using h)
 all_goals cases x<;>simp only [SO.le,b7,b5] at h
 ·exact hg
 ·obtain ⟨cs,rfl,h1,h2⟩:=hg
  exact ⟨cs,rfl,r9.aW hB hf _ h.2 h1,IK hf h.1 h1 h2⟩
 ·have e:=b8 h
  subst e;exact hg
theorem E7.aW:∀ {x y:List SO} {o:o6},E7.le fact B x y=true->E7.g C vs x o->E7.g C vs y o
 |[],[],_,_,hg=>hg
 |[],_::_,_,h,_=>by simp [E7.le] at h
 |_::_,[],_,h,_=>by simp [E7.le] at h
 |x::xs,y::ys,_,h,hg=>by
  simp only [E7.le,b5] at h;simp only [E7.g] at hg ⊢;obtain ⟨d,ds,rfl,h1,h2⟩:=hg;exact ⟨d,ds,rfl,SO.aW hB hf h.1 h1,E7.aW h.2 h2⟩
end
structure Spec where
 f:FuncId
 args:List SV
 H:List SO
 lim:F9
 outs:List (SV×List SO)
def Spec.cl (s:Spec):Bool:=r9.cl s.args&&E7.cl s.H&&s.outs.all fun o=>o.1.cl&&E7.cl o.2
def Spec.ok (C:Ctx)(A:Prog)(s:Spec):Prop:=s.cl=true/\∀ as Hc,r9.g C [] s.args as->E7.g C [] s.H Hc->Pq A s.f as Hc s.lim fun v H1=>∃ o,o ∈ s.outs/\o.1.g C [] v/\E7.g C [] o.2 H1
def pQ (a b:F9):Bool:=y4 a.RS b.RS&&y4 a.RR b.RR&&y4 a.base b.base&&y4 a.strict b.strict
def NM (fact:Fact)(specs:List Spec):Sem:=fun B f args H l=>match specs.find? (fun s=>y4 s.f f&&r9.le fact B args s.args&&E7.le fact B H s.H&&pQ s.lim l) with
 |some s=>some s.outs
 |none=>none
theorem NN {C:Ctx}{A:Prog}{fact:Fact}(hf:uE C fact){specs:List Spec}(hs:∀ s,s ∈ specs->s.ok C A):fe C A (NM fact specs):=by
 intro B f args H l outs h vs hB as Hc ha hH;unfold NM at h;split at h
 ·rename_i s hfind
  cases h;have hm:=List.mem_of_find?_eq_some hfind;have hc:=List.find?_some hfind;simp only [b5,pQ] at hc;obtain ⟨⟨⟨c1,c2⟩,c3⟩,c4⟩:=hc;obtain ⟨k1,k2⟩:=hs s hm;have e:s.f=f:=b8 c1;have e1:=b8 c4.1.1.1;have e2:=b8 c4.1.1.2;have e3:=b8 c4.1.2;have e4:=b8 c4.2;have el:s.lim=l:=by
   cases vB:s.lim;cases l;rw [vB] at e1 e2 e3 e4;simp only at e1 e2 e3 e4;subst e1 e2 e3 e4;rfl
  simp only [Spec.cl,b5] at k1;obtain ⟨v,H1,⟨o,o1,o2,o3⟩,h1⟩:=k2 as Hc (r9.bG _ k1.1.1 (r9.aW hB hf _ c2 ha)) (E7.bG _ k1.1.2 (E7.aW hB hf c3 hH));rw [e,el] at h1;have k3:=List.all_eq_true.1 k1.2 o o1;simp only [b5] at k3;exact ⟨v,H1,⟨o,o1,SV.bG _ k3.1 o2,E7.bG _ k3.2 o3⟩,h1⟩
 ·cases h
def wE (a b:Sem):Sem:=fun B f args H l=>match a B f args H l with
 |some r=>some r
 |none=>b B f args H l
theorem lS {C:Ctx}{A:Prog}{a b:Sem}(ha:fe C A a)(hb:fe C A b):fe C A (wE a b):=by
 intro B f args H l outs h;unfold wE at h;split at h
 ·rename_i r hr;cases h;exact ha _ _ _ _ _ _ hr
 ·exact hb _ _ _ _ _ _ h
def MO (s:CS)(k:Nat):CS:=match s.T[k]? with
 |some v=>match Dr s.B.length v with
  |some (w,p)=>{ s with T:=s.T.set k w,B:=s.B++[p] }
  |none=>s
 |none=>s
def GC (s:CS):Nat->CS
 |0=>s
 |n+1=>GC (MO s n) n
theorem Qv {C:Ctx}{vs:List Nat}{s:CS}{st:St}(hs:s.g C vs st)(k:Nat):∃ ws,Le vs ws/\(MO s k).g C ws st:=by
 unfold MO;split
 ·rename_i v e
  split
  ·rename_i w p hn
   rw [<- hs.2.2.1] at hn;obtain ⟨a,h1,h2⟩:=r9.get hs.1 e;obtain ⟨m,h3,h4,h5⟩:=Bj hn h2;refine ⟨vs++[m],Le.app _ _,?_,E7.L8 (Le.app _ _) _ hs.2.1,hs.2.2.add h3 h4⟩;have:=r9.set (r9.L8 (Le.app vs [m]) _ hs.1) k h5
   rwa [W2 h1] at this
  ·exact ⟨vs,Le.refl _,hs⟩
 ·exact ⟨vs,Le.refl _,hs⟩
theorem Dq {C:Ctx}:∀ (n:Nat) {vs:List Nat} {s:CS} {st:St},s.g C vs st->∃ ws,Le vs ws/\(GC s n).g C ws st
 |0,vs,s,st,hs=>⟨vs,Le.refl _,hs⟩
 |n+1,vs,s,st,hs=>by
  obtain ⟨ws,l1,h1⟩:=Qv hs n;obtain ⟨us,l2,h2⟩:=Dq n h1;exact ⟨us,l1.trans l2,h2⟩
def He (s:CS)(j:Nat):List CS:=match s.T[j]? with
 |some (.d x)=>match x.int? s.B with
  |some (k,lo,hi,_)=>(kY k lo (hi - lo+1).toNat).map fun v=>{ s with T:=s.T.set j v }
  |none=>[s]
 |_=>[s]
def BL:List Nat->List CS->List CS
 |[],l=>l
 |j::r,l=>BL r (l.flatMap fun s=>He s j)
theorem NU {C:Ctx}{vs:List Nat}{s:CS}{st:St}(hs:s.g C vs st)(j:Nat):∃ s',s' ∈ He s j/\s'.g C vs st:=by
 have hs' :=hs;obtain ⟨hT,hH,hB⟩:=hs;unfold He;split
 ·rename_i x e
  split
  ·rename_i k lo hi r hc
   obtain ⟨a,h1,h2⟩:=r9.get hT e;obtain ⟨d,rfl,h3⟩:=Z4 h2;obtain ⟨m,rfl,h4,h5,_⟩:=SD.iw hB hc h3;refine ⟨_,List.mem_map.2 ⟨_,jO _ lo m h4 (by omega),rfl⟩,?_,hH,hB⟩;have:=r9.set hT j (a:= .d (.lit (.int k m))) (b:= .d (.int k m)) (bf (by simp only [SD.g]))
   rwa [W2 h1] at this
  ·exact ⟨s,p8.2 rfl,hs'⟩
 ·exact ⟨s,p8.2 rfl,hs'⟩
theorem zy {C:Ctx}{vs:List Nat}{st:St}:∀ (js:List Nat) {l:List CS} {s:CS},s ∈ l->s.g C vs st->∃ s',s' ∈ BL js l/\s'.g C vs st
 |[],l,s,hm,hs=>⟨s,hm,hs⟩
 |j::js,l,s,hm,hs=>by
  obtain ⟨s1,h1,h2⟩:=NU hs j;exact zy js (List.mem_flatMap.2 ⟨s,hm,h1⟩) h2
def XW:D2->Bool
 | .exit _=>false
 |_=>true
def Vd (A:Prog)(sem:Sem)(hook:FI)(fact:Fact)(kp js:List Nat)(fuel:Nat)(af:q5)(s:Spec):Bool :=
 s.cl&&y4 s.args.length af.nparams&&match fP (aD A sem hook kp s.lim s.H.length fuel af.body) (BL js [GC ⟨s.args++c9 (af.names.length - s.args.length) .any,s.H,[]⟩ s.args.length]) with
  |some outs=>outs.all fun o=>XW o.1&&match lZ o.2.T o.2.H af.results with
   |some l=>match BB af.an s.H.length l o.2.H with
    |some (v,H1)=>s.outs.any fun p=>SV.le fact o.2.B v p.1&&E7.le fact o.2.B H1 p.2
    |none=>false
   |none=>false
  |none=>false
theorem ur {C:Ctx}{A:Prog}{sem:Sem}{hook:FI}{fact:Fact}{kp js:List Nat}{fuel:Nat}{s:Spec}{af:q5}(eD:fe C A sem)(hf:uE C fact)(CR:Ax C A s.lim s.H.length hook)(hp:A.ga s.f=none)(ha:A.fn s.f=some af)
  (h:Vd A sem hook fact kp js fuel af s=true):s.ok C A:=by
 unfold Vd at h;simp only [b5] at h;obtain ⟨⟨c1,c2⟩,c3⟩:=h;have c2:=b8 c2;refine ⟨c1,fun as Hc hA hH=> ?_⟩;split at c3
 ·rename_i outs hx
  have sO:=r9.len hA;have hHl:=E7.len hH;obtain ⟨ws,_,h0⟩:=Dq s.args.length (C:=C) (vs:=[]) (s:=⟨s.args++c9 (af.names.length - s.args.length) .any,s.H,[]⟩) (st:=⟨as++c9 (af.names.length - as.length) .any,Hc⟩) ⟨by rw [sO];exact r9.app hA (AB _),hH,rfl,fun i lo hi h=>by simp at h⟩;obtain ⟨s0,m0,h0⟩:=zy js (p8.2 rfl) h0;obtain ⟨z,hz,hmz⟩:=U7 hx s0 m0;have h1:=ey eD CR af.body h0 hz;refine Pq.run (b:=s.H.length) _ hp ha (by omega) hHl rfl (h1.mono ?_);rintro x st' ⟨o,o1,rfl,us,l1,g1,g2,g3⟩;have c4:=List.all_eq_true.1 c3 o (hmz o o1);simp only [b5] at c4;obtain ⟨c5,c6⟩:=c4;split at c6
  ·rename_i l hl
   obtain ⟨bs,h2,h3⟩:=wO g1 g2 hl;split at c6
   ·rename_i v H1 rM
    obtain ⟨a,H2,h4,h5,h6⟩:=Lb g2 h3 rM;obtain ⟨p,p1,p2⟩:=List.any_eq_true.1 c6;simp only [b5] at p2;refine ⟨a,H2,?_,p,p1,?_,?_⟩
    ·cases he:o.1 with
     |exit i=>rw [he] at c5;cases c5
     |normal=>simp only [jI,h2,h4]
     |ret=>simp only [jI,h2,h4]
    ·simp only [Spec.cl,b5] at c1
     have k3:=List.all_eq_true.1 c1.2 p p1;simp only [b5] at k3;exact SV.bG _ k3.1 (SV.aW g3 hf _ p2.1 h5)
    ·simp only [Spec.cl,b5] at c1
     have k3:=List.all_eq_true.1 c1.2 p p1;simp only [b5] at k3;exact E7.bG _ k3.2 (E7.aW g3 hf p2.2 h6)
   ·cases c6
  ·cases c6
 ·cases c3
end Go.u7.Sh


/- Texts S9 S10 S11 S12 (made short by a program) -/
import Derived.Test.YtkmclibmmlgogaaGreatS1
set_option linter.unusedVariables false
set_option linter.unusedSimpArgs false
set_option linter.unusedSectionVars false
open Bool renaming and_eq_true → b5, false_eq_true → b7, not_eq_true' → j5
open List renaming drop_of_length_le → m6, getElem?_append_left → p7, getElem?_append_right → q8, getElem?_eq_none → q9, map_cons → H8, mem_cons → x9, mem_singleton → p4, replicate → c9, take_of_length_le → q7
open Nat renaming beq → y7, ble → J9, eq_of_beq_eq_true → b8, le_of_ble_eq_true → m8, le_refl → k9, lt_or_ge → p9
namespace Go.z7.Sh
open Go.z7
inductive Fk where
 |no
 |b (j:Nat)
 |i (j:Nat)
 |l (i:Nat)
def Tp (B:gO):SV->Fk
 | .d z=>match z.oX B with
  |some (some i,lo,hi)=>if Nat.blt lo hi then .l i else .no
  |_=> .no
 |_=> .no
def Zq (s:SS):y6->Fk
 | .pick (.loc j) _ _=> .b j
 | .C3 _ x (.loc j)=>match bO s.T s.L x with
  | .E3 .. => .i j
  |_=> .no
 | .append _ _ ob x y=>if ob then Tp s.B (bO s.T s.L y) else match bO s.T s.L x with
  | .E3 .. =>Tp s.B (bO s.T s.L y)
  |_=> .no
 |_=> .no
def MP (s:SS)(op:y6):List SS:=match Zq s op with
 | .no=>[s]
 | .b j=>Dw s j
 | .i j=>MN s j
 | .l i=>MO s i
def VN (s:SS):y6->SS
 | .load none x=>match bO s.T s.L x with
  | .ptr id off=>Ns s id off
  |_=>s
 |_=>s
def CE (L:List SV):Option (Nat×Bool)->Option Bool
 |none=>some true
 |some (j,want)=>match L[j]? with
  |some (.d x)=>match x.bool? with
   |some (.t b)=>some (b==want)
   |_=>none
  |some (.tuple [])=>some false
  |_=>none
def jH (u9:Option Nat)(s:SS)(k:Nat):Option Nat->Option SS
 |none=>some s
 |some t=>match u9 with
  |none=>if Nat.blt t s.T.length then some { (fH s (.loc k)).2 with T:=s.T.set t (fH s (.loc k)).1,n7:= .slot t::s.n7 } else none
  |some _=>if Nat.blt t s.T.length&&DA s.n7 t then some { (fH s (.loc k)).2 with T:=s.T.set t (fH s (.loc k)).1 } else none
section
variable (A:Prog) (sem:Sem) (lim:H7) (entry:Nat) (j4:List n9) (u9:Option Nat) (k:Nat)
def HI (op:y6)(s:SS):Option (List (SS×List Nat)) :=
 if op.E2 then match Sd A sem lim entry j4 u9 k s op with
  |some outs=>some (outs.map fun o=>(o,[]))
  |none=>none
 else match op with
  | .N8 x=>some [(nO (fH s x).2 k (fH s x).1,[])]
  |op=>match xD (bO s.T s.L) s.H s.B op with
   |some (v,rs)=>some [(nO s k v,rs)]
   |none=>none
def ad7 (dst:Option Nat)(o:SS×List Nat):Option (List (SS×List Nat)):=match jH u9 (Nt o.1 k) k dst with
 |some s' =>some [(s',o.2)]
 |none=>none
def sdo (i:n9)(s:SS):Option (List (SS×List Nat)):=match HI A sem lim entry j4 u9 k i.op (VN s i.op) with
 |some outs=>gf (ad7 u9 k i.dst) outs
 |none=>none
def OI (i:n9)(s:SS):Option (List (SS×List Nat)):=match CE s.L i.guard with
 |some true=>gf (sdo A sem lim entry j4 u9 k i) (MP s i.op)
 |some false=>match jH u9 (nO s k (.tuple [])) k i.dst with
  |some s' =>some [(s',[])]
  |none=>none
 |none=>none
def Jj (i:n9)(s:SS):Option (List (SS×List Nat)):=gf (OI A sem lim entry j4 u9 k i) (match i.guard with
 |some (j,_)=>Dw s j
 |none=>[s])
end
section
variable {C:Ctx} {vs:List Nat} {s:SS} {st:F0} {A:Prog} {sem:Sem}
theorem QG (hs:s.g C vs st)(op:y6):∃ s',s' ∈ MP s op/\s'.g C vs st:=by
 unfold MP;split
 ·exact ⟨s,p4.2 rfl,hs⟩
 ·exact Iw hs _
 ·exact QE hs _
 ·exact QF hs _
theorem VO (hs:s.g C vs st)(op:y6):∃ ws,Le vs ws/\(VN s op).g C ws st:=by
 unfold VN;split
 ·split
  ·exact Rj hs _ _
  ·exact ⟨vs,Le.refl _,hs⟩
 ·exact ⟨vs,Le.refl _,hs⟩
theorem Ap (hs:s.g C vs st){gd:Option (Nat×Bool)}{t:Bool}(h:CE s.L gd=some t):y5 st.L gd=some t:=by
 cases gd with
 |none=>exact h
 |some p =>
  obtain ⟨j,want⟩:=p;simp only [CE] at h;split at h
  ·rename_i x e
   obtain ⟨a,h1,h2⟩:=s9.get hs.2.2.1 e;obtain ⟨d,rfl,h3⟩:=Y7 h2;split at h
   ·rename_i b hb
    obtain ⟨b',rfl,h4⟩:=SD.cW hb h3;simp only at h4;subst h4;simp only [y5,h1];exact h
   ·cases h
  ·rename_i e
   obtain ⟨a,h1,h2⟩:=s9.get hs.2.2.1 e;simp only [SV.g,s9.g] at h2;obtain ⟨cs,rfl,rfl⟩:=h2;simp only [y5,h1];exact h
  ·cases h
theorem An (hs:s.g C vs st){u9:Option Nat}{k:Nat}{dst:Option Nat}{s' :SS}(h:jH u9 s k dst=some s'):∃ st',u7 u9 st k dst=some st' /\s'.g C vs st' :=by
 cases dst with
 |none=>simp only [jH,Option.some.injEq] at h;subst h;exact ⟨st,by cases u9<;>rfl,hs⟩
 |some t =>
  have hlen:=s9.len hs.1;obtain ⟨hv,hT,hH,hL,ht,hB⟩:=CF hs (.loc k);cases u9 with
  |none =>
   simp only [jH] at h;split at h
   ·rename_i hc
    have hc:t<s.T.length:=m8 hc;cases h;refine ⟨{ (D8 st (.loc k)).2 with T:=st.T.set t (D8 st (.loc k)).1,n7:= .slot t::st.n7 },?_,s9.set hs.1 t hv,hH,hL,congrArg (Touch.slot t::·) hs.2.2.2.1,hB⟩;simp only [u7,G4];rw [if_pos (by omega)]
   ·cases h
  |some q =>
   simp only [jH] at h;split at h
   ·rename_i hc
    simp only [b5] at hc;have hc1:t<s.T.length:=m8 hc.1;have kR:=hc.2;unfold DA at kR;rw [<- hs.2.2.2.1] at kR;cases h;refine ⟨{ (D8 st (.loc k)).2 with T:=st.T.set t (D8 st (.loc k)).1 },?_,s9.set hs.1 t hv,hH,hL,ht,hB⟩;simp only [u7,X6];rw [if_pos (by simp only [kR,Bool.and_true,decide_eq_true_eq];omega)]
   ·cases h
variable (eU:eN C A sem)
include eU
theorem OJ (hs:s.g C vs st){l:H7}{b:Nat}{j4:List n9}{u9:Option Nat}{k:Nat}{op:y6}{outs:List (SS×List Nat)}(h:HI A sem l b j4 u9 k op s=some outs) :
  ∃ st' rs N,(∃ o,o ∈ outs/\o.2=rs/\o.1.g C vs st')/\∀ n,N<=n->D7 (K4 A n l b) j4 u9 k op st=some (st',rs):=by
 unfold HI at h;split at h
 ·rename_i he
  split at h
  ·rename_i os hos
   cases h;obtain ⟨st',N,⟨o,h1,h2⟩,h3⟩:=Wr eU (b:=b) hs hos;exact ⟨st',[],N,⟨_,List.mem_map.2 ⟨o,h1,rfl⟩,rfl,h2⟩,fun n hn=>by simp only [D7,he,if_true,h3 n hn]⟩
  ·cases h
 ·rename_i he
  have he:op.E2=false:=by simpa using he
  split at h
  ·rename_i x _
   cases h;obtain ⟨h1,h2⟩:=CF hs x;exact ⟨_,[],0,⟨_,p4.2 rfl,rfl,cu h2 k h1⟩,fun n _=>by simp only [D7,he,b7,if_false]⟩
  ·rename_i YX
   split at h
   ·rename_i v rs hp
    cases h;obtain ⟨r,h1,h2⟩:=Sp hs.2.2.2.2 (SS.F8 hs) hs.2.1 hp;refine ⟨_,rs,0,⟨_,p4.2 rfl,rfl,cu hs k h2⟩,fun n _=> ?_⟩;simp only [D7,he,b7,if_false];cases op<;>first
     |exact absurd rfl (YX _)
     |(simp only [h1];done)
   ·cases h
theorem ad3 (hs:s.g C vs st){l:H7}{b:Nat}{j4:List n9}{u9:Option Nat}{k:Nat}{i:n9}{outs:List (SS×List Nat)}(hw:y5 st.L i.guard=some true)(h:sdo A sem l b j4 u9 k i s=some outs) :
  ∃ st' rs N,(∃ o,o ∈ outs/\o.2=rs/\∃ ws,Le vs ws/\o.1.g C ws st')/\∀ n,N<=n->y9 (K4 A n l b) j4 u9 k i st=some (st',rs):=by
 unfold sdo at h;split at h
 ·rename_i os hos
  obtain ⟨ws,l1,h1⟩:=VO hs i.op;obtain ⟨Q3,rs,N,⟨o,o1,o2,o3⟩,h2⟩:=OJ eU h1 hos;obtain ⟨x,hx,hm⟩:=V6 h o o1;unfold ad7 at hx;split at hx
  ·rename_i s' hs'
   cases hx;obtain ⟨WG,l2,h3⟩:=Rk o3 k;obtain ⟨aj,h4,h5⟩:=An h3 hs';refine ⟨aj,rs,N,⟨_,hm _ (p4.2 rfl),o2,WG,l1.trans l2,h5⟩,fun n hn=> ?_⟩;simp only [y9,hw,h2 n hn,h4]
  ·cases hx
 ·cases h
theorem Jk (hs:s.g C vs st){l:H7}{b:Nat}{j4:List n9}{u9:Option Nat}{k:Nat}{i:n9}{outs:List (SS×List Nat)}(h:Jj A sem l b j4 u9 k i s=some outs) :
  ∃ st' rs N,(∃ o,o ∈ outs/\o.2=rs/\∃ ws,Le vs ws/\o.1.g C ws st')/\∀ n,N<=n->y9 (K4 A n l b) j4 u9 k i st=some (st',rs):=by
 unfold Jj at h;obtain ⟨s1,m1,g1⟩:∃ s',s' ∈ (match i.guard with|some (j,_)=>Dw s j|none=>[s])/\s'.g C vs st:=by
  split
  ·exact Iw hs _
  ·exact ⟨s,p4.2 rfl,hs⟩
 obtain ⟨x,hx,hm⟩:=V6 h s1 m1;unfold OI at hx;split at hx
 ·rename_i hw
  have hw:=Ap g1 hw;obtain ⟨s2,m2,g2⟩:=QG g1 i.op;obtain ⟨y,hy,hm2⟩:=V6 hx s2 m2;obtain ⟨st',rs,N,⟨o,o1,o2,o3⟩,h3⟩:=ad3 eU g2 hw hy;exact ⟨st',rs,N,⟨o,hm _ (hm2 _ o1),o2,o3⟩,h3⟩
 ·rename_i hw
  have hw:=Ap g1 hw;split at hx
  ·rename_i s' hs'
   cases hx;obtain ⟨aj,h4,h5⟩:=An (cu g1 k (v:= .tuple []) (a:= .tuple []) (by simp only [SV.g,s9.g];exact ⟨_,rfl,rfl⟩)) hs';exact ⟨aj,[],0,⟨_,hm _ (p4.2 rfl),rfl,vs,Le.refl _,h5⟩,fun n _=>by simp only [y9,hw,h4]⟩
  ·cases hx
 ·cases hx
end
section
variable (A:Prog) (sem:Sem) (lim:H7) (entry:Nat) (j4:List n9)
def qZ:List n9->Nat->SS->Option (List SS)
 |[],_,s=>some [s]
 |i::is,k,s=>match Jj A sem lim entry j4 none k i s with
  |some outs=>gf (fun o=>qZ is (k+1) o.1) outs
  |none=>none
def OH (s:SS):y6->Option Nat
 | .call f xs=>if A.prom f then some s.H.length else match vE s.H,s9.Y1 (xs.map (bO s.T s.L)) with
  |some bs,some b0=>some (T8 bs lim.strict 8 b0)
  |_,_=>none
 | .au _ _=>none
 |_=>some 0
def OC (s:SS):y6->Bool
 | .append _ _ _ x _=>match bO s.T s.L x with
  | .d _=>false
  | .J6=>false
  |_=>true
 |_=>false
def EG:List n9->Nat->Nat->SS->Option (List (SS×List ja))
 |[],_,_,s=>some [(s,[])]
 |i::is,k,na,s=>if OC s i.op&&j4.any (fun a=>a.cO.contains k) then none else match OH A lim s i.op with
  |some Cj=>match Jj A sem lim entry j4 (if i.op.A0 then some na else none) k i s with
   |some outs=>gf (fun o=>match EG is (k+1) (if i.op.A0 then na+1 else na) o.1 with
    |some rs=>some (rs.map fun r=>(r.1,⟨o.2,kF (if i.op.A0 then some na else none)++o.1.n7.take (o.1.n7.length - s.n7.length),Cj,(if i.op.A0 then some na else none).getD 0⟩::r.2))
    |none=>none) outs
   |none=>none
  |none=>none
def ve (draw:Bool)(T:List SV)(H:List SO)(B:gO):Option (List SS) :=
 if draw then match EG A sem lim entry j4 j4 0 H.length ⟨T,H++(j4.filter (·.op.A0)).map (fun _=> .dead),c9 j4.length .any,slotsOf j4,B⟩ with
  |some outs=>if outs.all (fun o=>tR j4 o.2) then some (outs.map (·.1)) else none
  |none=>none
 else qZ A sem lim entry j4 j4 0 ⟨T,H,c9 j4.length .any,[],B⟩
end
section
variable {C:Ctx} {A:Prog} {sem:Sem} (eU:eN C A sem)
theorem Bj {vs:List Nat}:∀ n,s9.g C vs (c9 n .any) (c9 n .any)
 |0=>by simp [s9.g]
 |n+1=>by simp only [List.replicate_succ,s9.g,SV.g];exact ⟨_,_,rfl,rfl,Bj n⟩
theorem Ip {vs:List Nat}:∀ l:List n9,F2.g C vs (l.map fun _=> .dead) (l.map fun _=> .dead)
 |[]=>by simp [F2.g]
 |_::l=>by simp only [H8,F2.g,SO.g];exact ⟨_,_,rfl,rfl,Ip l⟩
include eU
theorem Al {l:H7}{b:Nat}{j4:List n9}:∀ (ops:List n9) (k:Nat) {vs:List Nat} {s:SS} {st:F0} {outs:List SS},s.g C vs st->qZ A sem l b j4 ops k s=some outs ->
  ∃ r N,(∃ o,o ∈ outs/\∃ ws,Le vs ws/\o.g C ws r)/\∀ n,N<=n->cq (K4 A n l b) j4 ops k st=some r
 |[],k,vs,s,st,outs,hs,h=>by
  simp only [qZ,Option.some.injEq] at h;subst h;exact ⟨st,0,⟨s,p4.2 rfl,vs,Le.refl _,hs⟩,fun _ _=>rfl⟩
 |i::is,k,vs,s,st,outs,hs,h=>by
  simp only [qZ] at h;split at h
  ·rename_i os hos
   obtain ⟨st',rs,N,⟨o,o1,o2,ws,l1,o3⟩,h1⟩:=Jk eU hs hos;obtain ⟨x,hx,hm⟩:=V6 h o o1;obtain ⟨r,N2,⟨o',p1,WG,l2,p2⟩,h2⟩:=Al is (k+1) o3 hx;refine ⟨r,max N N2,⟨o',hm _ p1,WG,l1.trans l2,p2⟩,fun n hn=> ?_⟩;simp only [cq,h1 n (by omega)];exact h2 n (by omega)
  ·cases h
omit eU in
theorem Sr {l:H7}{b n:Nat}{vs:List Nat}{s:SS}{st:F0}(hs:s.g C vs st){op:y6}{m:Nat}(h:OH A l s op=some m):L5 (K4 A n l b) st op=m:=by
 unfold OH at h;split at h
 ·rename_i f xs
  have dM:(K4 A n l b).prom f=A.prom f:=rfl;have hlim:(K4 A n l b).lim=l:=rfl;split at h
  ·rename_i hp
   cases h;simp only [L5,dM,hp,if_true];exact F2.len hs.2.1
  ·rename_i hp
   split at h
   ·rename_i bs b0 Lh hb0
    cases h;simp only [L5,dM];rw [if_neg hp,hlim,sC,Bn Lh hs.2.1,s9.cC hb0 (s9.Vh (SS.F8 hs) xs)]
   ·cases h
 ·cases h
 ·rename_i h1 h2
  cases h;cases op<;>first
   |rfl
   |exact absurd rfl (h1 _ _)
   |exact absurd rfl (h2 _ _)
omit eU in
theorem Sl {vs:List Nat}{s:SS}{st:F0}(hs:s.g C vs st){op:y6}(h:¬ OC s op=true):E7 st op=false:=by
 unfold OC at h;split at h
 ·rename_i sz bytes ob x y
  have hx:=SS.F8 hs x;split at h
  ·rename_i z e
   rw [e] at hx;obtain ⟨d,e1,_⟩:=Y7 hx;simp only [E7,e1]
  ·rename_i e
   rw [e] at hx;simp only [SV.g] at hx;simp only [E7,hx]
  ·exact absurd rfl h
 ·rename_i h1
  cases op<;>first
   |rfl
   |exact absurd rfl (h1 _ _ _ _ _)
theorem Ji {l:H7}{b:Nat}{j4:List n9}:∀ (ops:List n9) (k na:Nat) {vs:List Nat} {s:SS} {st:F0} {outs:List (SS×List ja)},s.g C vs st->EG A sem l b j4 ops k na s=some outs ->
  ∃ r lg N,(∃ o,o ∈ outs/\o.2=lg/\∃ ws,Le vs ws/\o.1.g C ws r)/\∀ n,N<=n->P5 (K4 A n l b) j4 ops k na st=some (r,lg)
 |[],k,na,vs,s,st,outs,hs,h=>by
  simp only [EG,Option.some.injEq] at h;subst h;exact ⟨st,[],0,⟨_,p4.2 rfl,rfl,vs,Le.refl _,hs⟩,fun _ _=>rfl⟩
 |i::is,k,na,vs,s,st,outs,hs,h=>by
  simp only [EG] at h;split at h
  ·cases h
  ·rename_i hk
   have hk:(E7 st i.op&&j4.any (fun a=>a.cO.contains k))=false:=by
    cases hu:j4.any (fun a=>a.cO.contains k) with
    |false=>rw [Bool.and_false]
    |true=>rw [hu,Bool.and_true] at hk;rw [Sl hs hk];rfl
   split at h
   ·rename_i Cj Iy
    split at h
    ·rename_i os hos
     obtain ⟨st',rs,N,⟨o,o1,o2,ws,l1,o3⟩,h1⟩:=Jk eU hs hos;obtain ⟨x,hx,hm⟩:=V6 h o o1;split at hx
     ·rename_i rr hrr
      cases hx;obtain ⟨r,lg,N2,⟨o',p1,p2,WG,l2,p3⟩,h2⟩:=Ji is (k+1) _ o3 hrr;refine ⟨r,_,max N N2,⟨_,hm _ (List.mem_map.2 ⟨o',p1,rfl⟩),rfl,WG,l1.trans l2,p3⟩,fun n hn=> ?_⟩;have hg3:=o3.2.2.2.1;simp only [P5,iA,hk,b7,if_false,h1 n (by omega),h2 n (by omega),cJ,Sr hs Iy,o2,p2,hg3,hs.2.2.2.1]
     ·cases hx
    ·cases h
   ·cases h
theorem Ak {l:H7}{b:Nat}{j4:List n9}{draw:Bool}{vs:List Nat}{T:List SV}{H:List SO}{B:gO}{T' :List b6}{H' :o6}{outs:List SS}(hT:s9.g C vs T T')(hH:F2.g C vs H H')(hB:Bg vs B)(h:ve A sem l b j4 draw T H B=some outs) :
  Rn A l b j4 draw T' H' fun T2 H2 L2=>∃ o,o ∈ outs/\∃ ws,Le vs ws/\s9.g C ws o.T T2/\F2.g C ws o.H H2/\s9.g C ws o.L L2/\Bg ws o.B:=by
 unfold ve at h;split at h
 ·rename_i hd
  split at h
  ·rename_i os hos
   split at h
   ·rename_i hall
    cases h;have hlen:=F2.len hH;obtain ⟨r,lg,N,⟨o,o1,o2,ws,l1,o3⟩,h1⟩:=Ji eU j4 0 H.length (st:=⟨T',H' ++Y8 j4,c9 j4.length .any,slotsOf j4⟩) ⟨hT,F2.app hH (Ip _),Bj _,rfl,hB⟩ hos;refine ⟨r,N,⟨o.1,List.mem_map.2 ⟨o,o1,rfl⟩,ws,l1,o3.1,o3.2.1,o3.2.2.1,o3.2.2.2.2⟩,fun n hn=> ?_⟩;have hok:=List.all_eq_true.1 hall o o1;rw [o2] at hok;simp only [O9,hd,if_true,hlen,h1 n hn,hok]
   ·cases h
  ·cases h
 ·rename_i hd
  obtain ⟨r,N,⟨o,o1,ws,l1,o3⟩,h1⟩:=Al eU j4 0 (st:=⟨T',H',c9 j4.length .any,[]⟩) ⟨hT,hH,Bj _,rfl,hB⟩ h;refine ⟨r,N,⟨o,o1,ws,l1,o3.1,o3.2.1,o3.2.2.1,o3.2.2.2.2⟩,fun n hn=> ?_⟩;simp only [O9];rw [if_neg hd];exact h1 n hn
end
structure CS where
 T:List SV
 H:List SO
 B:gO
def CS.g (C:Ctx)(vs:List Nat)(s:CS)(st:St):Prop:=s9.g C vs s.T st.T/\F2.g C vs s.H st.H/\Bg vs s.B
def OQ:Option Nat->Option Nat->Option Nat
 |some i,some j=>if y7 i j then some i else none
 |_,_=>none
def EM:Option Nat->Option Nat->Bool
 |some i,some j=>y7 i j
 |none,none=>true
 |_,_=>false
def SD.mark:SD->Option Nat
 | .pr k _=>some k
 |_=>none
mutual
def SV.join:SV->SV->Option SV
 | .any,y=>match y with
  | .any=>some .any
  |_=>some .top
 | .top,_=>some .top
 | .d x,y=>match y with
  | .d y=>if EM x.mark y.mark then some (.d (x.join y)) else none
  | .own _ y=>some (.q (x.join y))
  | .q y=>some (.q (x.join y))
  | .any=>some .top
  | .top=>some .top
  |_=>none
 | .own z x,y=>match y with
  | .own z' y=>if y7 z z' then some (.own z (x.join y)) else none
  | .d y=>some (.q (x.join y))
  | .q y=>some (.q (x.join y))
  | .any=>some .top
  | .top=>some .top
  |_=>none
 | .q x,y=>match y with
  | .own _ y=>some (.q (x.join y))
  | .d y=>some (.q (x.join y))
  | .q y=>some (.q (x.join y))
  | .any=>some .top
  | .top=>some .top
  |_=>none
 | .J6,y=>match y with
  | .J6=>some .J6
  | .any=>some .top
  | .top=>some .top
  |_=>none
 | .ptr i o,y=>match y with
  | .ptr i' o' =>if y7 i i' &&y7 o o' then some (.ptr i o) else none
  | .any=>some .top
  | .top=>some .top
  |_=>none
 | .Q9 _,_=>some .top
 | .E3 i z l n,y=>match y with
  | .E3 i' z' l' n' =>if y7 i i' &&y7 z z' &&y7 l l' &&y7 n n' then some (.E3 i z l n) else none
  | .any=>some .top
  | .top=>some .top
  |_=>none
 | .agg p l,y=>match y with
  | .agg p' l' =>match s9.join l l' with
   |some r=>some (.agg (OQ p p') r)
   |none=>none
  | .any=>some .top
  | .top=>some .top
  |_=>none
 | .tuple l,y=>match y with
  | .tuple l' =>match s9.join l l' with
   |some r=>some (.tuple r)
   |none=>none
  | .any=>some .top
  | .top=>some .top
  |_=>none
 | .bn k,y=>match y with
  | .bn k' =>if y7 k k' then some (.bn k) else none
  | .any=>some .top
  | .top=>some .top
  |_=>none
def s9.join:List SV->List SV->Option (List SV)
 |[],ys=>match ys with
  |[]=>some []
  |_=>none
 |x::xs,ys=>match ys with
  |y::ys=>match x.join y,s9.join xs ys with
   |some a,some r=>some (a::r)
   |_,_=>none
  |[]=>none
end
def SO.join:SO->SO->Option SO
 | .dead,.dead=>some .dead
 | .cells p l,.cells p' l' =>if EM p p' then match s9.join l l' with
   |some r=>some (.cells p r)
   |none=>none
  else none
 | .pr k,.pr k' =>if y7 k k' then some (.pr k) else none
 | .bn k,.bn k' =>if y7 k k' then some (.bn k) else none
 |_,_=>none
def F2.join:List SO->List SO->Option (List SO)
 |[],[]=>some []
 |x::xs,y::ys=>match x.join y,F2.join xs ys with
  |some a,some r=>some (a::r)
  |_,_=>none
 |_,_=>none
def BL (a b:Nat×Nat):Nat×Nat:=(min a.1 b.1,max a.2 b.2)
def Mm (B1 B2:gO):Option gO:=if (B1.drop B2.length++B2.drop B1.length).all (fun p=>J9 p.1 p.2) then some (List.zipWith BL B1 B2++(B1.drop B2.length++B2.drop B1.length)) else none
def jC (kp:List Nat)(s t:CS):Bool:=kp.all fun j=>match s.T[j]?,t.T[j]? with
 |some (.d (.lit (.int _ a))),some (.d (.lit (.int _ b)))=>decide (a=b)
 |_,_=>true
def CS.join (kp:List Nat)(s t:CS):Option CS:=if jC kp s t then match s9.join s.T t.T,F2.join s.H t.H,Mm s.B t.B with
 |some T,some H,some B=>some ⟨T,H,B⟩
 |_,_,_=>none
 else none
def Nd (kp:List Nat)(s:CS):List CS->List CS
 |[]=>[s]
 |t::r=>match CS.join kp t s with
  |some u=>u::r
  |none=>t::Nd kp s r
def kD (kp:List Nat):List CS->List CS
 |[]=>[]
 |s::r=>Nd kp s (kD kp r)
section
variable {C:Ctx} {vs:List Nat}
theorem Cb {x:SV}{v:b6}(h:x.g C vs v){y:SD}(hx:x.data? =some y:=by rfl):∃ d,v.G9= .d d/\y.g C vs d:=by
 cases x<;>simp only [SV.data?,reduceCtorEq,Option.some.injEq] at hx<;>subst hx<;>simp only [SV.g] at h
 ·obtain ⟨d,rfl,h2⟩:=h;exact ⟨d,rfl,h2⟩
 ·obtain ⟨a,b,rfl,h2⟩:=h;exact ⟨_,rfl,h2⟩
 ·subst h;exact ⟨_,rfl,by simp [SD.g]⟩
 ·exact h
theorem Ca {x:SD}{v:b6}{d:Data}(h0:v.G9= .d d)(h:x.g C vs d):(SV.q x).g C vs v:=by simp only [SV.g];exact ⟨_,h0,h⟩
theorem WB {p q:Option Nat}{k:Nat}(h:OQ p q=some k):p=some k:=by
 unfold OQ at h;split at h
 ·split at h
  ·exact h
  ·cases h
 ·cases h
theorem WC {p q:Option Nat}{k:Nat}(h:OQ p q=some k):q=some k:=by
 unfold OQ at h;split at h
 ·split at h
  ·rename_i e
   rw [<- b8 e];exact h
  ·cases h
 ·cases h
theorem EN {p q:Option Nat}(h:EM p q=true):p=q:=by
 unfold EM at h;split at h
 ·rw [b8 h]
 ·rfl
 ·cases h
mutual
theorem SV.S8:∀ (x y:SV) {z:SV} {v:b6},x.join y=some z->x.g C vs v->z.g C vs v
 | .any,y,z,_,h,hg=>by
  cases y<;>simp only [SV.join,Option.some.injEq] at h<;>subst h<;>first|exact hg|simp [SV.g]
 | .top,y,z,_,h,hg=>by simp only [SV.join,Option.some.injEq] at h;subst h;exact hg
 | .d x,y,z,_,h,hg=>by
  cases y<;>simp only [SV.join,Option.some.injEq,reduceCtorEq] at h<;>(try split at h)<;>first
   |(cases h;simp [SV.g];done)
   |(cases h;obtain ⟨d,rfl,h1⟩:=Y7 hg;exact aM (SD.S8 _ _ h1))
   |(cases h;obtain ⟨d,h0,h1⟩:=Cb hg;exact Ca h0 (SD.S8 _ _ h1))
   |(cases h;done)
 | .q x,y,z,_,h,hg=>by
  cases y<;>simp only [SV.join,Option.some.injEq,reduceCtorEq] at h<;>subst h<;>first
   |(simp [SV.g];done)
   |(obtain ⟨d,h0,h1⟩:=Cb hg;exact Ca h0 (SD.S8 _ _ h1))
 | .own w x,y,z,_,h,hg=>by
  cases y<;>simp only [SV.join,Option.some.injEq,reduceCtorEq] at h
  ·subst h;simp [SV.g]
  ·subst h;simp [SV.g]
  ·subst h;obtain ⟨d,h0,h1⟩:=Cb hg;exact Ca h0 (SD.S8 _ _ h1)
  ·split at h
   ·cases h
    obtain ⟨len,cells,rfl,h1⟩:=pe hg;simp only [SV.g];exact ⟨_,_,rfl,SD.S8 _ _ h1⟩
   ·cases h
  ·subst h;obtain ⟨d,h0,h1⟩:=Cb hg;exact Ca h0 (SD.S8 _ _ h1)
 | .J6,y,z,_,h,hg=>by
  cases y<;>simp only [SV.join,Option.some.injEq,reduceCtorEq] at h<;>subst h<;>first|exact hg|simp [SV.g]
 | .ptr i o,y,z,_,h,hg=>by
  cases y<;>simp only [SV.join,Option.some.injEq,reduceCtorEq] at h
  ·subst h;simp [SV.g]
  ·subst h;simp [SV.g]
  ·split at h
   ·cases h;exact hg
   ·cases h
 | .Q9 _,y,z,_,h,hg=>by simp only [SV.join,Option.some.injEq] at h;subst h;simp [SV.g]
 | .E3 i w l n,y,z,_,h,hg=>by
  cases y<;>simp only [SV.join,Option.some.injEq,reduceCtorEq] at h
  ·subst h;simp [SV.g]
  ·subst h;simp [SV.g]
  ·split at h
   ·cases h;exact hg
   ·cases h
 | .agg p l,y,z,_,h,hg=>by
  cases y<;>simp only [SV.join,Option.some.injEq,reduceCtorEq] at h
  ·subst h;simp [SV.g]
  ·subst h;simp [SV.g]
  ·split at h
   ·rename_i r hr
    cases h;simp only [SV.g] at hg ⊢;obtain ⟨cs,rfl,h1,h2⟩:=hg;exact ⟨cs,rfl,s9.S8 _ _ hr h1,fun k hk=>h2 k (WB hk)⟩
   ·cases h
 | .tuple l,y,z,_,h,hg=>by
  cases y<;>simp only [SV.join,Option.some.injEq,reduceCtorEq] at h
  ·subst h;simp [SV.g]
  ·subst h;simp [SV.g]
  ·split at h
   ·rename_i r hr
    cases h;simp only [SV.g] at hg ⊢;obtain ⟨cs,rfl,h1⟩:=hg;exact ⟨cs,rfl,s9.S8 _ _ hr h1⟩
   ·cases h
 | .bn k,y,z,_,h,hg=>by
  cases y<;>simp only [SV.join,Option.some.injEq,reduceCtorEq] at h
  ·subst h;simp [SV.g]
  ·subst h;simp [SV.g]
  ·split at h
   ·rename_i e
    have e:=b8 e;subst e;cases h;exact hg
   ·cases h
theorem s9.S8:∀ (x y:List SV) {z:List SV} {v:List b6},s9.join x y=some z->s9.g C vs x v->s9.g C vs z v
 |[],y,z,_,h,hg=>by cases y<;>simp only [s9.join,Option.some.injEq,reduceCtorEq] at h;subst h;exact hg
 |x::xs,y,z,_,h,hg=>by
  cases y<;>simp only [s9.join,reduceCtorEq] at h;split at h
  ·rename_i a r ha hr
   cases h;simp only [s9.g] at hg ⊢;obtain ⟨d,ds,rfl,h1,h2⟩:=hg;exact ⟨d,ds,rfl,SV.S8 _ _ ha h1,s9.S8 _ _ hr h2⟩
  ·cases h
end
mutual
theorem SV.S9:∀ (x y:SV) {z:SV} {v:b6},x.join y=some z->y.g C vs v->z.g C vs v
 | .any,y,z,_,h,hg=>by
  cases y<;>simp only [SV.join,Option.some.injEq] at h<;>subst h<;>first|exact hg|simp [SV.g]
 | .top,y,z,_,h,hg=>by simp only [SV.join,Option.some.injEq] at h;subst h;simp [SV.g]
 | .d x,y,z,_,h,hg=>by
  cases y<;>simp only [SV.join,Option.some.injEq,reduceCtorEq] at h<;>(try split at h)<;>first
   |(cases h;simp [SV.g];done)
   |(cases h;obtain ⟨d,rfl,h1⟩:=Y7 hg;exact aM (SD.S9 _ _ h1))
   |(cases h;obtain ⟨d,h0,h1⟩:=Cb hg;exact Ca h0 (SD.S9 _ _ h1))
   |(cases h;done)
 | .q x,y,z,_,h,hg=>by
  cases y<;>simp only [SV.join,Option.some.injEq,reduceCtorEq] at h<;>subst h<;>first
   |(simp [SV.g];done)
   |(obtain ⟨d,h0,h1⟩:=Cb hg;exact Ca h0 (SD.S9 _ _ h1))
 | .own w x,y,z,_,h,hg=>by
  cases y<;>simp only [SV.join,Option.some.injEq,reduceCtorEq] at h
  ·subst h;simp [SV.g]
  ·subst h;simp [SV.g]
  ·subst h;obtain ⟨d,h0,h1⟩:=Cb hg;exact Ca h0 (SD.S9 _ _ h1)
  ·split at h
   ·rename_i e
    have e:=b8 e;subst e;cases h;obtain ⟨len,cells,rfl,h1⟩:=pe hg;simp only [SV.g];exact ⟨_,_,rfl,SD.S9 _ _ h1⟩
   ·cases h
  ·subst h;obtain ⟨d,h0,h1⟩:=Cb hg;exact Ca h0 (SD.S9 _ _ h1)
 | .J6,y,z,_,h,hg=>by
  cases y<;>simp only [SV.join,Option.some.injEq,reduceCtorEq] at h<;>subst h<;>first|exact hg|simp [SV.g]
 | .ptr i o,y,z,_,h,hg=>by
  cases y<;>simp only [SV.join,Option.some.injEq,reduceCtorEq] at h
  ·subst h;simp [SV.g]
  ·subst h;simp [SV.g]
  ·split at h
   ·rename_i e
    simp only [b5] at e;have e1:=b8 e.1;have e2:=b8 e.2;subst e1 e2;cases h;exact hg
   ·cases h
 | .Q9 _,y,z,_,h,hg=>by simp only [SV.join,Option.some.injEq] at h;subst h;simp [SV.g]
 | .E3 i w l n,y,z,_,h,hg=>by
  cases y<;>simp only [SV.join,Option.some.injEq,reduceCtorEq] at h
  ·subst h;simp [SV.g]
  ·subst h;simp [SV.g]
  ·split at h
   ·rename_i e
    simp only [b5] at e;have e1:=b8 e.1.1.1;have e2:=b8 e.1.1.2;have e3:=b8 e.1.2;have e4:=b8 e.2;subst e1 e2 e3 e4;cases h;exact hg
   ·cases h
 | .agg p l,y,z,_,h,hg=>by
  cases y<;>simp only [SV.join,Option.some.injEq,reduceCtorEq] at h
  ·subst h;simp [SV.g]
  ·subst h;simp [SV.g]
  ·split at h
   ·rename_i r hr
    cases h;simp only [SV.g] at hg ⊢;obtain ⟨cs,rfl,h1,h2⟩:=hg;exact ⟨cs,rfl,s9.S9 _ _ hr h1,fun k hk=>h2 k (WC hk)⟩
   ·cases h
 | .tuple l,y,z,_,h,hg=>by
  cases y<;>simp only [SV.join,Option.some.injEq,reduceCtorEq] at h
  ·subst h;simp [SV.g]
  ·subst h;simp [SV.g]
  ·split at h
   ·rename_i r hr
    cases h;simp only [SV.g] at hg ⊢;obtain ⟨cs,rfl,h1⟩:=hg;exact ⟨cs,rfl,s9.S9 _ _ hr h1⟩
   ·cases h
 | .bn k,y,z,_,h,hg=>by
  cases y<;>simp only [SV.join,Option.some.injEq,reduceCtorEq] at h
  ·subst h;simp [SV.g]
  ·subst h;simp [SV.g]
  ·split at h
   ·rename_i e
    have e:=b8 e;subst e;cases h;exact hg
   ·cases h
theorem s9.S9:∀ (x y:List SV) {z:List SV} {v:List b6},s9.join x y=some z->s9.g C vs y v->s9.g C vs z v
 |[],y,z,_,h,hg=>by cases y<;>simp only [s9.join,Option.some.injEq,reduceCtorEq] at h;subst h;exact hg
 |x::xs,y,z,_,h,hg=>by
  cases y<;>simp only [s9.join,reduceCtorEq] at h;split at h
  ·rename_i a r ha hr
   cases h;simp only [s9.g] at hg ⊢;obtain ⟨d,ds,rfl,h1,h2⟩:=hg;exact ⟨d,ds,rfl,SV.S9 _ _ ha h1,s9.S9 _ _ hr h2⟩
  ·cases h
end
theorem SO.iQ {x y z:SO}{o:z6}(h:x.join y=some z):(x.g C vs o->z.g C vs o)/\(y.g C vs o->z.g C vs o):=by
 cases x<;>cases y<;>simp only [SO.join,Option.some.injEq,reduceCtorEq] at h
 ·subst h;exact ⟨id,id⟩
 ·split at h
  ·rename_i hp
   have hp:=EN hp;subst hp;split at h
   ·rename_i r hr
    cases h;exact ⟨fun ⟨cs,h1,h2,h3⟩=>⟨cs,h1,s9.S8 _ _ hr h2,h3⟩,fun ⟨cs,h1,h2,h3⟩=>⟨cs,h1,s9.S9 _ _ hr h2,h3⟩⟩
   ·cases h
  ·cases h
 ·split at h
  ·rename_i e
   have e:=b8 e;subst e;cases h;exact ⟨id,id⟩
  ·cases h
 ·split at h
  ·rename_i e
   have e:=b8 e;subst e;cases h;exact ⟨id,id⟩
  ·cases h
theorem F2.iQ:∀ {x y z:List SO} {o:o6},F2.join x y=some z->(F2.g C vs x o->F2.g C vs z o)/\(F2.g C vs y o->F2.g C vs z o)
 |[],[],z,o,h=>by simp only [F2.join,Option.some.injEq] at h;subst h;exact ⟨id,id⟩
 |[],_::_,z,o,h=>by simp [F2.join] at h
 |_::_,[],z,o,h=>by simp [F2.join] at h
 |x::xs,y::ys,z,o,h=>by
  simp only [F2.join] at h;split at h
  ·rename_i a r ha hr
   cases h;refine ⟨fun hg=> ?_,fun hg=> ?_⟩
   ·simp only [F2.g] at hg ⊢
    obtain ⟨d,ds,rfl,h1,h2⟩:=hg;exact ⟨d,ds,rfl,(SO.iQ ha).1 h1,(F2.iQ hr).1 h2⟩
   ·simp only [F2.g] at hg ⊢
    obtain ⟨d,ds,rfl,h1,h2⟩:=hg;exact ⟨d,ds,rfl,(SO.iQ ha).2 h1,(F2.iQ hr).2 h2⟩
  ·cases h
theorem Bg.Uv:∀ (R:gO) {vs:List Nat} {B:gO},Bg vs B->R.all (fun p=>J9 p.1 p.2)=true->∃ ws,Le vs ws/\Bg ws (B++R)
 |[],vs,B,h,_=>⟨vs,Le.refl _,by simpa using h⟩
 |p::R,vs,B,h,hr=>by
  simp only [List.all_cons,b5,Nat.ble_eq] at hr;obtain ⟨ws,h1,h2⟩:=Bg.Uv R (h.add (p:=p) (m:=p.1) (k9 _) hr.1) hr.2;exact ⟨ws,(Le.app _ _).trans h1,by simpa using h2⟩
theorem SA {B1 B2:gO}{i lo hi:Nat}(h:(List.zipWith BL B1 B2)[i]? =some (lo,hi)):∃ a b,B1[i]? =some a/\B2[i]? =some b/\lo=min a.1 b.1/\hi=max a.2 b.2:=by
 rw [List.getElem?_zipWith] at h;split at h
 ·rename_i a b h1 h2
  simp only [Option.some.injEq,BL,Prod.mk.injEq] at h;exact ⟨a,b,h1,h2,h.1.symm,h.2.symm⟩
 ·cases h
theorem Bg.af5 {B1 B2:gO}(hB:Bg vs B1):Bg vs (List.zipWith BL B1 B2++B1.drop B2.length):=by
 refine ⟨by simp [hB.1];omega,fun i lo hi h=> ?_⟩
 rcases p9 i (List.zipWith BL B1 B2).length with hl|hl
 ·rw [p7 hl] at h
  obtain ⟨a,b,h1,h2,h3,h4⟩:=SA h;obtain ⟨m,e1,e2,e3⟩:=hB.2 i a.1 a.2 h1;exact ⟨m,e1,by omega,by omega⟩
 ·rw [q8 hl,List.getElem?_drop] at h
  simp only [List.length_zipWith] at h hl
  rcases Nat.le_total B1.length B2.length with hc|hc
  ·rw [q9 (by omega)] at h;cases h
  ·rw [show B2.length+(i - min B1.length B2.length)=i by omega] at h
   exact hB.2 _ _ _ h
theorem Bg.af6 {B1 B2:gO}(hB:Bg vs B2):Bg vs (List.zipWith BL B1 B2++B2.drop B1.length):=by
 have:=Bg.af5 (B1:=B2) (B2:=B1) hB;have e:List.zipWith BL B2 B1=List.zipWith BL B1 B2:=by
  rw [List.zipWith_comm]
  congr 1
  funext a b
  simp [BL,Nat.min_comm,Nat.max_comm]
 rwa [e] at this
theorem HY {B1 B2 B:gO}(h:Mm B1 B2=some B):(Bg vs B1->∃ ws,Le vs ws/\Bg ws B)/\(Bg vs B2->∃ ws,Le vs ws/\Bg ws B):=by
 unfold Mm at h;split at h
 ·rename_i hall
  cases h;rw [List.all_append,b5] at hall;refine ⟨fun hB=> ?_,fun hB=> ?_⟩
  ·rw [<- List.append_assoc]
   exact Bg.Uv _ hB.af5 hall.2
  ·rcases Nat.le_total B1.length B2.length with hc|hc
   ·rw [show B1.drop B2.length=[] from m6 hc,List.nil_append]
    exact ⟨vs,Le.refl _,hB.af6⟩
   ·have h2:B2.drop B1.length=[]:=m6 hc
    have:=hB.af6 (B1:=B1);rw [h2,List.append_nil] at this;rw [h2,List.append_nil];exact Bg.Uv _ this hall.1
 ·cases h
theorem CS.iQ {kp:List Nat}{s t u:CS}{st:St}(h:CS.join kp s t=some u):(s.g C vs st->∃ ws,Le vs ws/\u.g C ws st)/\(t.g C vs st->∃ ws,Le vs ws/\u.g C ws st):=by
 unfold CS.join at h;split at h
 ·split at h
  ·rename_i T H B hT hH hB
   cases h;refine ⟨fun ⟨h1,h2,h3⟩=> ?_,fun ⟨h1,h2,h3⟩=> ?_⟩
   ·obtain ⟨ws,l1,h4⟩:=(HY hB).1 h3
    exact ⟨ws,l1,s9.N4 l1 _ (s9.S8 _ _ hT h1),F2.N4 l1 _ ((F2.iQ hH).1 h2),h4⟩
   ·obtain ⟨ws,l1,h4⟩:=(HY hB).2 h3
    exact ⟨ws,l1,s9.N4 l1 _ (s9.S9 _ _ hT h1),F2.N4 l1 _ ((F2.iQ hH).2 h2),h4⟩
  ·cases h
 ·cases h
theorem GS {kp:List Nat}{st:St}:∀ (s:CS) (l:List CS),(s.g C vs st->∃ t,t ∈ Nd kp s l/\∃ ws,Le vs ws/\t.g C ws st)/\∀ t,t ∈ l->t.g C vs st->∃ u,u ∈ Nd kp s l/\∃ ws,Le vs ws/\u.g C ws st
 |s,[]=>⟨fun h=>⟨s,p4.2 rfl,vs,Le.refl _,h⟩,fun t h=>by cases h⟩
 |s,q::r=>by
  simp only [Nd];split
  ·rename_i u hu
   refine ⟨fun h=> ?_,fun t ht h=> ?_⟩
   ·obtain ⟨ws,l1,h1⟩:=(CS.iQ hu).2 h
    exact ⟨u,List.mem_cons_self,ws,l1,h1⟩
   ·rcases x9.1 ht with rfl|ht
    ·obtain ⟨ws,l1,h1⟩:=(CS.iQ hu).1 h
     exact ⟨u,List.mem_cons_self,ws,l1,h1⟩
    ·exact ⟨t,List.mem_cons_of_mem _ ht,vs,Le.refl _,h⟩
  ·obtain ⟨h1,h2⟩:=GS s r
   refine ⟨fun h=> ?_,fun t ht h=> ?_⟩
   ·obtain ⟨t,m,h3⟩:=h1 h
    exact ⟨t,List.mem_cons_of_mem _ m,h3⟩
   ·rcases x9.1 ht with rfl|ht
    ·exact ⟨t,List.mem_cons_self,vs,Le.refl _,h⟩
    ·obtain ⟨u,m,h3⟩:=h2 t ht h
     exact ⟨u,List.mem_cons_of_mem _ m,h3⟩
theorem mj {kp:List Nat}{st:St}:∀ (l:List CS) {vs:List Nat} {s:CS},s ∈ l->s.g C vs st->∃ t,t ∈ kD kp l/\∃ ws,Le vs ws/\t.g C ws st
 |q::r,vs,s,hm,h=>by
  simp only [kD]
  rcases x9.1 hm with rfl|hm
  ·exact (GS s (kD kp r)).1 h
  ·obtain ⟨t,m,ws,l1,h1⟩:=mj r hm h
   obtain ⟨u,m2,WG,l2,h2⟩:=(GS q (kD kp r)).2 t m h1;exact ⟨u,m2,WG,l1.trans l2,h2⟩
end
def kT:List Bool->List SV->List SV
 |true::m,v::vs=>v::kT m vs
 |false::m,_::vs=> .any::kT m vs
 |[],_::vs=> .any::kT [] vs
 |_,[]=>[]
def Hx (mask:List Bool)(strict n:Nat)(s:CS):Option CS:=match s9.Y1 (kT mask s.T),vE s.H with
 |some a,some bs=>if J9 a n&&J9 (vA ((bs.take n).drop strict)) n then some ⟨kT mask s.T,s.H.take n,s.B⟩ else some ⟨kT mask s.T,s.H,s.B⟩
 |_,_=>none
def xE:List SV->Nat->Option (Nat×Nat×Nat×Nat×Nat)
 |[],_=>none
 | .E3 id sz lo len::_,i=>some (i,id,sz,lo,len)
 | .top::_,_=>none
 | .bn _::_,_=>none
 |_::r,i=>xE r (i+1)
def sfz (lim:H7)(entry t:Nat)(s:CS):Option CS:=match s.T[t]? with
 |some (.ptr b o)=>if y7 o 0 then match s.H[b]? with
  |some (.cells _ cs)=>match xE cs 0 with
   |some (i,id,sz,lo,len)=>match Sq s.H id lo (len * sz) with
    |some l=>match ir l with
     |some xs=>if J9 lim.base id&&J9 entry id&&lim.may id&&J9 lim.base b&& !(y7 id b)&&y7 xs.length (len * sz) then
       some ⟨s9.kill id s.T,((s.H.take lim.base++(s.H.drop lim.base).map (SO.kill id)).set id .dead).set b (.cells none ((s9.kill id cs).set i (.d (mkSlice sz len xs)))),s.B⟩
      else none
     |none=>none
    |none=>none
   |none=>none
  |_=>none
  else none
 |_=>none
abbrev Gk:=List n9->Bool->u5->CS->Option (List CS×List CS)
def wN:List (E4×CS)->List CS
 |[]=>[]
 |(.normal,s)::r=>s::wN r
 |_::r=>wN r
def vX:List (E4×CS)->List (E4×CS)
 |[]=>[]
 |(.normal,_)::r=>vX r
 |x::r=>x::vX r
def Uc (id:Nat):List (E4×CS)->List (E4×CS)
 |[]=>[]
 |(.exit i,s)::r=>(if y7 i id then .normal else .exit i,s)::Uc id r
 |x::r=>x::Uc id r
def EB (kp:List Nat)(body:CS->Option (List (E4×CS)))(mask:List Bool)(strict n:Nat):Nat->List CS->Option (List (E4×CS))
 |0,l=>if l.isEmpty then some [] else none
 |k+1,l=>if l.isEmpty then some [] else
  match gf (fun s=>match Hx mask strict n s with
   |some s' =>body s'
   |none=>none) l with
  |some outs=>match EB kp body mask strict n k (kD kp (wN outs)) with
   |some r=>some (vX outs++r)
   |none=>none
  |none=>none
def branch (v:SV)(s:CS):Option (List CS×List CS):=match v with
 | .d x=>match x.bool? with
  |some (.t b)=>some (if b then ([s],[]) else ([],[s]))
  |some (.u c)=>some (match qN s.B c true with|some B' =>[{ s with B:=B' }]|none=>[],match qN s.B c false with|some B' =>[{ s with B:=B' }]|none=>[])
  |none=>none
 |_=>none
def pZ:List SS->u5->Option (List CS×List CS)
 |[],_=>some ([],[])
 |o::r,c=>match branch (bO o.T o.L c) ⟨o.T,o.H,o.B⟩,pZ r c with
  |some (p,q),some (p',q')=>some (p++p',q++q')
  |_,_=>none
section
variable (A:Prog) (sem:Sem) (hook:Gk) (kp:List Nat) (lim:H7) (entry fuel:Nat)
def aS:p6->CS->Option (List (E4×CS))
 | .skip,s=>some [(.normal,s)]
 | .region ops draw,s=>match ve A sem lim entry ops draw s.T s.H s.B with
  |some outs=>some (outs.map fun o=>(.normal,⟨o.T,o.H,o.B⟩))
  |none=>none
 | .seq a b,s=>match aS a s with
  |some outs=>match gf (aS b) (kD kp (wN outs)) with
   |some r=>some (vX outs++r)
   |none=>none
  |none=>none
 | .cond c a b,s=>match branch (bO s.T [] c) s with
  |some (p,q)=>match gf (aS a) p,gf (aS b) q with
   |some x,some y=>some (x++y)
   |_,_=>none
  |none=>none
 | .test ops draw c a b,s=>match (match hook ops draw c s with
   |some pq=>some pq
   |none=>match ve A sem lim entry ops draw s.T s.H s.B with
    |some outs=>pZ outs c
    |none=>none) with
  |some (p,q)=>match gf (aS a) (kD kp p),gf (aS b) (kD kp q) with
   |some x,some y=>some (x++y)
   |_,_=>none
  |none=>none
 | .block id body,s=>match aS body s with
  |some outs=>some (Uc id outs)
  |none=>none
 | .loop mask body,s=>EB kp (aS body) mask lim.strict s.H.length fuel [s]
 | .exit id,s=>some [(.exit id,s)]
 | .ret,s=>some [(.ret,s)]
 | .fz t,s=>match sfz lim entry t s with
  |some s' =>some [(.normal,s')]
  |none=>none
 | .bad,_=>none
end
def Qr (A:Prog)(l:H7)(b:Nat)(mask:List Bool)(body:p6)(n0:Nat)(st:St)(Q:E4->St->Prop):Prop :=
 ∃ x s N,Q x s/\∀ n,N<=n->∀ j,N<=j->eV (exec (K4 A n l b) n body) mask l.strict n0 j st=some (x,s)
section
variable {A:Prog} {l:H7} {b:Nat}
theorem Qr.step {mask:List Bool}{body:p6}{n0:Nat}{st:St}{Q:E4->St->Prop}(h:Ex A l b body (clean mask l.strict n0 st) (sJ Q fun s' =>Qr A l b mask body n0 s' Q)):Qr A l b mask body n0 st Q:=by
 obtain ⟨x,s1,N,hq,h1⟩:=h;cases x with
 |normal =>
  obtain ⟨x,s2,N2,Qi,h2⟩:=hq;refine ⟨x,s2,max N N2+1,Qi,fun n hn j hj=> ?_⟩;obtain ⟨j,rfl⟩:∃ j',j=j' +1:=⟨j - 1,by omega⟩;simp only [eV,h1 n (by omega)];exact h2 n (by omega) j (by omega)
 |exit i =>
  refine ⟨_,_,N+1,hq,fun n hn j hj=> ?_⟩;obtain ⟨j,rfl⟩:∃ j',j=j' +1:=⟨j - 1,by omega⟩;simp only [eV,h1 n (by omega)]
 |ret =>
  refine ⟨_,_,N+1,hq,fun n hn j hj=> ?_⟩;obtain ⟨j,rfl⟩:∃ j',j=j' +1:=⟨j - 1,by omega⟩;simp only [eV,h1 n (by omega)]
theorem Ex.ofL {mask:List Bool}{body:p6}{st:St}{Q:E4->St->Prop}(h:Qr A l b mask body st.H.length st Q):Ex A l b (.loop mask body) st Q:=by
 obtain ⟨x,s,N,hq,h⟩:=h;exact ⟨x,s,N,hq,fun n hn=>by simp only [exec];exact h n hn n hn⟩
theorem Qr.mono {mask:List Bool}{body:p6}{n0:Nat}{st:St}{Q R:E4->St->Prop}(h:Qr A l b mask body n0 st Q)(k:∀ x s,Q x s->R x s):Qr A l b mask body n0 st R:=by
 obtain ⟨x,s,N,hq,h⟩:=h;exact ⟨x,s,N,k x s hq,h⟩
def Be (C:Ctx)(A:Prog)(l:H7)(b:Nat)(hook:Gk):Prop:=∀ ops dr c s p q,hook ops dr c s=some (p,q)->∀ vs T H,CS.g C vs s ⟨T,H⟩ ->
 Rn A l b ops dr T H fun T' H' L=>∃ t,F8 T' L c= .d (.bool t)/\∃ o,o ∈ (if t then p else q)/\∃ ws,Le vs ws/\o.g C ws ⟨T',H'⟩
variable {C:Ctx}
def Post (C:Ctx)(vs:List Nat)(outs:List (E4×CS))(x:E4)(st:St):Prop:=∃ o,o ∈ outs/\o.1=x/\∃ ws,Le vs ws/\o.2.g C ws st
theorem Post.sub {vs ws:List Nat}{o1 o2:List (E4×CS)}{x:E4}{st:St}(h:Post C ws o1 x st)(hl:Le vs ws)(hs:∀ o,o ∈ o1->o ∈ o2):Post C vs o2 x st:=by
 obtain ⟨o,h1,h2,us,l1,h3⟩:=h;exact ⟨o,hs o h1,h2,us,hl.trans l1,h3⟩
theorem sQ:∀ {l:List (E4×CS)} {o:E4×CS},o ∈ l->o.1= .normal->o.2 ∈ wN l
 |(e,s)::r,o,hm,h=>by
  rcases x9.1 hm with rfl|hm
  ·simp only at h
   subst h;simp [wN]
  ·have:=sQ hm h
   cases e<;>simp [wN,this]
theorem jl:∀ {l:List (E4×CS)} {o:E4×CS},o ∈ l->o.1≠ .normal->o ∈ vX l
 |(e,s)::r,o,hm,h=>by
  rcases x9.1 hm with rfl|hm
  ·cases e<;>simp_all [vX]
  ·have:=jl hm h
   cases e<;>simp [vX,this]
theorem Jr {id:Nat}:∀ {l:List (E4×CS)} {o:E4×CS},o ∈ l->(match o.1 with| .exit i=>if i=id then (E4.normal,o.2) else (E4.exit i,o.2)|x=>(x,o.2)) ∈ Uc id l
 |(e,s)::r,o,hm=>by
  rcases x9.1 hm with rfl|hm
  ·cases e with
   |exit i =>
    simp only [Uc]
    by_cases hi:i=id
    ·subst hi;simp
    ·rw [if_neg hi,if_neg (fun e=>hi (b8 e))];exact List.mem_cons_self
   |normal=>simp [Uc]
   |ret=>simp [Uc]
  ·have:=Jr (id:=id) hm
   cases e<;>simp only [Uc,x9]<;>exact .inr this
theorem uZ {vs:List Nat}:∀ (m:List Bool) {x:List SV} {v:List b6},s9.g C vs x v->s9.g C vs (kT m x) (S5 m v)
 |m,[],_,h=>by simp only [s9.g] at h;subst h;cases m with|nil=>simp [kT,S5,s9.g]|cons a m=>cases a<;>simp [kT,S5,s9.g]
 |[],x::xs,_,h=>by
  simp only [s9.g] at h;obtain ⟨d,ds,rfl,h1,h2⟩:=h;simp only [kT,S5,s9.g,SV.g];exact ⟨_,_,rfl,rfl,uZ [] h2⟩
 |true::m,x::xs,_,h=>by
  simp only [s9.g] at h;obtain ⟨d,ds,rfl,h1,h2⟩:=h;simp only [kT,S5,s9.g];exact ⟨_,_,rfl,h1,uZ m h2⟩
 |false::m,x::xs,_,h=>by
  simp only [s9.g] at h;obtain ⟨d,ds,rfl,h1,h2⟩:=h;simp only [kT,S5,s9.g,SV.g];exact ⟨_,_,rfl,rfl,uZ m h2⟩
theorem Ot {vs:List Nat}{s s' :CS}{st:St}{mask:List Bool}{strict n:Nat}(hs:s.g C vs st)(h:Hx mask strict n s=some s'):s'.g C vs (clean mask strict n st):=by
 obtain ⟨hT,hH,hB⟩:=hs;have hm:=uZ mask hT;unfold Hx at h;split at h
 ·rename_i a bs ha Lh
  have e1:=s9.cC ha hm;have e2:=Bn Lh hH;split at h
  ·rename_i hc
   simp only [b5,Nat.ble_eq] at hc;cases h;unfold clean;rw [if_pos ⟨by rw [e1];exact hc.1,by rw [nu,e2];exact hc.2⟩];exact ⟨hm,F2.take hH n,hB⟩
  ·rename_i hc
   simp only [b5,Nat.ble_eq] at hc;cases h;unfold clean;rw [if_neg (by rw [e1,nu,e2];exact hc)];exact ⟨hm,hH,hB⟩
 ·cases h
theorem bN {vs:List Nat}:∀ {x:List SV} {v:List b6} {k:Nat} {r:Nat×Nat×Nat×Nat×Nat},s9.g C vs x v->xE x k=some r->eZ v k=some r
 |[],_,_,_,_,h=>by simp [xE] at h
 |x::xs,_,k,r,hg,h=>by
  simp only [s9.g] at hg;obtain ⟨d,ds,rfl,h1,h2⟩:=hg;cases x<;>simp only [xE,reduceCtorEq] at h<;>simp only [SV.g] at h1
  ·subst h1;simp only [eZ];exact bN h2 h
  ·obtain ⟨_,rfl,_⟩:=h1;simp only [eZ];exact bN h2 h
  ·obtain ⟨_,_,rfl,_⟩:=h1;simp only [eZ];exact bN h2 h
  ·subst h1;simp only [eZ];exact bN h2 h
  ·subst h1;simp only [eZ];exact bN h2 h
  ·obtain ⟨_,_,rfl,_⟩:=h1;simp only [eZ];exact bN h2 h
  ·subst h1;simp only [eZ];exact h
  ·obtain ⟨_,rfl,_⟩:=h1;simp only [eZ];exact bN h2 h
  ·obtain ⟨_,rfl,_⟩:=h1;simp only [eZ];exact bN h2 h
  ·obtain ⟨_,h0,_⟩:=h1;cases d<;>simp only [b6.G9,reduceCtorEq] at h0<;>simp only [eZ]<;>exact bN h2 h
theorem ad8 {vs:List Nat}{s s' :CS}{st:St}{entry t:Nat}(hs:s.g C vs st)(h:sfz l entry t s=some s'):∃ st',GK l entry t st=some st' /\s'.g C vs st' :=by
 obtain ⟨hT,hH,hB⟩:=hs;unfold sfz at h;split at h
 ·rename_i b' o e
  obtain ⟨a,h1,h2⟩:=s9.get hT e;have h2:=bC h2;subst h2;split at h
  ·rename_i ho
   have ho:=b8 ho;subst ho;split at h
   ·rename_i p cs e2
    obtain ⟨o,h3,h4⟩:=F2.get hH e2;obtain ⟨ds,rfl,h5,_⟩:=h4;split at h
    ·rename_i i id sz lo len hr
     have hr:=bN h5 hr;split at h
     ·rename_i l' hl
      obtain ⟨us,h6,h7⟩:=Aj hH hl;split at h
      ·rename_i xs hxs
       obtain ⟨ys,h8,h9⟩:=mH h7 hxs;split at h
       ·rename_i hc
        simp only [b5,Nat.ble_eq,j5] at hc;obtain ⟨⟨⟨⟨⟨c1,c2⟩,c3⟩,c4⟩,c5⟩,c6⟩:=hc;have c6:=b8 c6;have c5:id≠b' :=fun e=>by rw [e] at c5;simp at c5
        cases h;refine ⟨⟨J0 id st.T,((st.H.take l.base++(st.H.drop l.base).map (z6.kill id)).set id .dead).set b' (.cells ((J0 id ds).set i (.d (.slice len ys))))⟩,?_,s9.di id hT,F2.set (F2.set (F2.app (F2.take hH _) (F2.map (fun _ _=>SO.di id) (F2.drop hH _))) id (a:= .dead) (b:= .dead) rfl) b' (a:= .cells none ((s9.kill id cs).set i (.d (mkSlice sz len xs)))) (b:= .cells ((J0 id ds).set i (.d (.slice len ys)))) ⟨_,rfl,s9.set (s9.di id h5) i (aM (nF c6 h9)),fun k h=>by cases h⟩,hB⟩;simp only [GK,h1,h3,hr,h6,h8];rw [if_pos ⟨c1,c2,c3,c4,c5⟩]
       ·cases h
      ·cases h
     ·cases h
    ·cases h
   ·cases h
  ·cases h
 ·cases h
theorem De {vs:List Nat}{v:SV}{a:b6}{s:CS}{st:St}{p q:List CS}(hv:v.g C vs a)(hs:s.g C vs st)(h:branch v s=some (p,q)):∃ t,a= .d (.bool t)/\∃ o,o ∈ (if t then p else q)/\o.g C vs st:=by
 unfold branch at h;split at h
 ·rename_i x
  obtain ⟨d,rfl,h1⟩:=Y7 hv;split at h
  ·rename_i b hb
   obtain ⟨t,rfl,h2⟩:=SD.cW hb h1;simp only at h2;subst h2;simp only [Option.some.injEq] at h;refine ⟨t,rfl,s,?_,hs⟩;cases t<;>simp at h<;>obtain ⟨rfl,rfl⟩:=h<;>simp
  ·rename_i c hc
   obtain ⟨t,rfl,h2⟩:=SD.cW hc h1;simp only at h2;obtain ⟨B',h3,h4⟩:=Ab hs.2.2 h2;simp only [Option.some.injEq,Prod.mk.injEq] at h;obtain ⟨rfl,rfl⟩:=h;refine ⟨t,rfl,{ s with B:=B' },?_,hs.1,hs.2.1,h4⟩;cases t
   ·rw [if_neg (by simp),h3];exact p4.2 rfl
   ·rw [if_pos rfl,h3];exact p4.2 rfl
  ·cases h
 ·cases h
theorem qa:∀ {outs:List SS} {c:u5} {p q:List CS},pZ outs c=some (p,q)->∀ o,o ∈ outs->∃ p' q',branch (bO o.T o.L c) ⟨o.T,o.H,o.B⟩=some (p',q')/\(∀ x,x ∈ p' ->x ∈ p)/\∀ x,x ∈ q' ->x ∈ q
 |o::r,c,p,q,h,o',hm=>by
  simp only [pZ] at h;split at h
  ·rename_i p1 q1 p2 q2 h1 h2
   simp only [Option.some.injEq,Prod.mk.injEq] at h;obtain ⟨rfl,rfl⟩:=h
   rcases x9.1 hm with rfl|hm
   ·exact ⟨p1,q1,h1,fun x hx=>List.mem_append_left _ hx,fun x hx=>List.mem_append_left _ hx⟩
   ·obtain ⟨p',q',h3,h4,h5⟩:=qa h2 o' hm
    exact ⟨p',q',h3,fun x hx=>List.mem_append_right _ (h4 x hx),fun x hx=>List.mem_append_right _ (h5 x hx)⟩
  ·cases h
variable {sem:Sem} (eU:eN C A sem) {hook:Gk} (Dz:Be C A l b hook) {kp:List Nat} {fuel:Nat}
omit eU Dz in
theorem Jg {body:p6}{sb:CS->Option (List (E4×CS))}(hb:∀ {vs s st outs},CS.g C vs s st->sb s=some outs->Ex A l b body st (Post C vs outs)){mask:List Bool}{n0:Nat} :
  ∀ (k:Nat) {L:List CS} {vs:List Nat} {s:CS} {st:St} {outs:List (E4×CS)},s ∈ L->s.g C vs st->EB kp sb mask l.strict n0 k L=some outs->Qr A l b mask body n0 st (Post C vs outs)
 |0,L,vs,s,st,outs,hm,hs,h=>by
  cases L with
  |nil=>cases hm
  |cons a L=>simp [EB] at h
 |k+1,L,vs,s,st,outs,hm,hs,h=>by
  have hne:L.isEmpty=false:=by cases L with|nil=>cases hm|cons a L=>rfl
  simp only [EB,hne,b7,if_false] at h;split at h
  ·rename_i os hos
   split at h
   ·rename_i r hr
    cases h;obtain ⟨x,hx,YY⟩:=V6 hos s hm;split at hx
    ·rename_i s' hs'
     refine Qr.step ((hb (Ot hs hs') hx).mono ?_);rintro e st' ⟨o,o1,rfl,ws,l1,o3⟩;cases he:o.1 with
     |normal =>
      simp only [sJ];obtain ⟨t,t1,us,l2,t2⟩:=mj _ (sQ (YY o o1) he) o3;exact (Jg hb k t1 t2 hr).mono fun e OL hp=>hp.sub (l1.trans l2) fun o h=>List.mem_append_right _ h
     |exit i=>exact ⟨o,List.mem_append_left _ (jl (YY o o1) (by rw [he];simp)),he,ws,l1,o3⟩
     |ret=>exact ⟨o,List.mem_append_left _ (jl (YY o o1) (by rw [he];simp)),he,ws,l1,o3⟩
    ·cases hx
   ·cases h
  ·cases h
include eU Dz
theorem eH:∀ (c:p6) {vs:List Nat} {s:CS} {st:St} {outs:List (E4×CS)},s.g C vs st->aS A sem hook kp l b fuel c s=some outs->Ex A l b c st (Post C vs outs)
 | .skip,vs,s,st,outs,hs,h=>by
  simp only [aS,Option.some.injEq] at h;subst h;exact Ex.skip ⟨_,p4.2 rfl,rfl,vs,Le.refl _,hs⟩
 | .exit id,vs,s,st,outs,hs,h=>by
  simp only [aS,Option.some.injEq] at h;subst h;exact Ex.exit ⟨_,p4.2 rfl,rfl,vs,Le.refl _,hs⟩
 | .ret,vs,s,st,outs,hs,h=>by
  simp only [aS,Option.some.injEq] at h;subst h;exact Ex.ret ⟨_,p4.2 rfl,rfl,vs,Le.refl _,hs⟩
 | .bad,vs,s,st,outs,hs,h=>by simp [aS] at h
 | .region ops draw,vs,s,st,outs,hs,h=>by
  simp only [aS] at h;split at h
  ·rename_i os hos
   cases h;obtain ⟨r,N,⟨o,o1,ws,l1,g1,g2,g3,g4⟩,hr⟩:=Ak eU hs.1 hs.2.1 hs.2.2 hos;exact Ex.region ⟨r,N,⟨_,List.mem_map.2 ⟨o,o1,rfl⟩,rfl,ws,l1,g1,g2,g4⟩,hr⟩
  ·cases h
 | .seq a c,vs,s,st,outs,hs,h=>by
  simp only [aS] at h;split at h
  ·rename_i os hos
   split at h
   ·rename_i r hr
    cases h;refine Ex.seq ((eH a hs hos).mono ?_);rintro e st' ⟨o,o1,rfl,ws,l1,o3⟩;cases he:o.1 with
    |normal =>
     simp only [sJ];obtain ⟨t,t1,us,l2,t2⟩:=mj _ (sQ o1 he) o3;obtain ⟨x,hx,YY⟩:=V6 hr t t1;exact (eH c t2 hx).mono fun e OL hp=>hp.sub (l1.trans l2) fun o h=>List.mem_append_right _ (YY o h)
    |exit i=>exact ⟨o,List.mem_append_left _ (jl o1 (by rw [he];simp)),he,ws,l1,o3⟩
    |ret=>exact ⟨o,List.mem_append_left _ (jl o1 (by rw [he];simp)),he,ws,l1,o3⟩
   ·cases h
  ·cases h
 | .cond c a d,vs,s,st,outs,hs,h=>by
  simp only [aS] at h;split at h
  ·rename_i p q hpq
   split at h
   ·rename_i x y hx hy
    cases h;obtain ⟨t,h1,o,o1,o2⟩:=De (Cy (L:=[]) (L' :=[]) hs.1 (by simp [s9.g]) c) hs hpq;refine Ex.cond h1 (fun ht=> ?_) (fun ht=> ?_)
    ·subst ht
     obtain ⟨z,hz,hm⟩:=V6 hx o (by simpa using o1);exact (eH a o2 hz).mono fun e OL hp=>hp.sub (Le.refl _) fun o h=>List.mem_append_left _ (hm o h)
    ·subst ht
     obtain ⟨z,hz,hm⟩:=V6 hy o (by simpa using o1);exact (eH d o2 hz).mono fun e OL hp=>hp.sub (Le.refl _) fun o h=>List.mem_append_right _ (hm o h)
   ·cases h
  ·cases h
 | .test ops draw c a d,vs,s,⟨T,H⟩,outs,hs,h=>by
  simp only [aS] at h;split at h
  ·rename_i p q hpq
   split at h
   ·rename_i x y hx hy
    cases h;have hR:Rn A l b ops draw T H fun T' H' L=>∃ t,F8 T' L c= .d (.bool t)/\∃ o,o ∈ (if t then p else q)/\∃ ws,Le vs ws/\o.g C ws ⟨T',H'⟩:=by
     split at hpq
     ·rename_i pq hh
      cases hpq;exact Dz _ _ _ _ _ _ hh vs T H hs
     ·split at hpq
      ·rename_i os hos
       obtain ⟨r,N,⟨o,o1,ws,l1,g1,g2,g3,g4⟩,hr⟩:=Ak eU hs.1 hs.2.1 hs.2.2 hos;obtain ⟨p',q',h1,h2,h3⟩:=qa hpq o o1;obtain ⟨t,h4,u,u1,u2⟩:=De (st:=⟨r.T,r.H⟩) (Cy g1 g3 c) ⟨g1,g2,g4⟩ h1;refine ⟨r,N,⟨t,h4,u,?_,ws,l1,u2⟩,hr⟩;cases t
       ·simpa using h3 u (by simpa using u1)
       ·simpa using h2 u (by simpa using u1)
      ·cases hpq
    obtain ⟨r,N,⟨t,h4,u,u1,ws,l1,u2⟩,hr⟩:=hR;refine Ex.test ⟨r,N,⟨t,h4,fun ht=> ?_,fun ht=> ?_⟩,hr⟩
    ·subst ht
     obtain ⟨m,m1,us,l2,m2⟩:=mj _ (by simpa using u1) u2;obtain ⟨z,hz,hm⟩:=V6 hx m m1;exact (eH a m2 hz).mono fun e OL hp=>hp.sub (l1.trans l2) fun o h=>List.mem_append_left _ (hm o h)
    ·subst ht
     obtain ⟨m,m1,us,l2,m2⟩:=mj _ (by simpa using u1) u2;obtain ⟨z,hz,hm⟩:=V6 hy m m1;exact (eH d m2 hz).mono fun e OL hp=>hp.sub (l1.trans l2) fun o h=>List.mem_append_right _ (hm o h)
   ·cases h
  ·cases h
 | .block id body,vs,s,st,outs,hs,h=>by
  simp only [aS] at h;split at h
  ·rename_i os hos
   cases h;refine Ex.block ((eH body hs hos).mono ?_);rintro e st' ⟨o,o1,rfl,ws,l1,o3⟩;have hm:=Jr (id:=id) o1;cases he:o.1 with
   |normal=>rw [he] at hm;exact ⟨_,hm,rfl,ws,l1,o3⟩
   |ret=>rw [he] at hm;exact ⟨_,hm,rfl,ws,l1,o3⟩
   |exit i =>
    rw [he] at hm;simp only at hm;simp only [CH];split
    ·rename_i hi;rw [if_pos hi] at hm;exact ⟨_,hm,rfl,ws,l1,o3⟩
    ·rename_i hi;rw [if_neg hi] at hm;exact ⟨_,hm,rfl,ws,l1,o3⟩
  ·cases h
 | .loop mask body,vs,s,st,outs,hs,h=>by
  simp only [aS] at h;refine Ex.ofL ?_;rw [F2.len hs.2.1];exact Jg (sb:=aS A sem hook kp l b fuel body) (fun {_ _ _ _} h1 h2=>eH body h1 h2) fuel (p4.2 rfl) hs h
 | .fz t,vs,s,st,outs,hs,h=>by
  simp only [aS] at h;split at h
  ·rename_i s' hs'
   cases h;obtain ⟨st',h1,h2⟩:=ad8 hs hs';exact ⟨_,_,0,⟨_,p4.2 rfl,rfl,vs,Le.refl _,h2⟩,fun n _=>by
    have:GK (K4 A n l b).lim (K4 A n l b).entry t st=some st' :=h1;simp only [exec,this]⟩
  ·cases h
end
def Cw (T:List SV)(H:List SO):yM->Option SV
 | .slot t=>T[t]?
 | .cell t none=>match T[t]? with
  |some (.ptr id off)=>match Sq H id off 1 with
   |some [v]=>some v.G9
   |_=>none
  |_=>none
 | .cell t (some n)=>match T[t]? with
  |some (.ptr id off)=>match H[id]? with
   |some (.cells p l)=>if J9 (off+n) l.length then some (.agg (if y7 off 0&&y7 n l.length then p else none) (((l.drop off).take n).map SV.G9)) else none
   |_=>none
  |_=>none
def mL (T:List SV)(H:List SO):List yM->Option (List SV)
 |[]=>some []
 |r::rs=>match Cw T H r,mL T H rs with
  |some v,some vs=>some (v::vs)
  |_,_=>none
def Cs:List SV->SV
 |[v]=>v
 |vs=> .tuple (vs.map SV.G9)
def Cm (H:List SO)(n:Nat):Nat->List SV->Option (List SV)
 |0,_=>none
 |fuel+1,l=>match l with
  |[]=>some []
  |v::vs=>match Cm H n fuel vs with
   |none=>none
   |some ws=>match v with
    | .E3 id sz lo len=>if Nat.blt id n then some (.E3 id sz lo len::ws) else match Sq H id lo (len * sz) with
     |some us=>match Cm H n fuel us with
      |some us' =>match ir us' with
       |some xs=>if y7 xs.length (len * sz) then some (.d (mkSlice sz len xs)::ws) else none
       |none=>none
      |none=>none
     |none=>none
    | .agg p l=>match Cm H n fuel l with
     |some l' =>some (.agg (match s9.Y1 l with|some 0=>p|_=>none) l' ::ws)
     |none=>none
    | .tuple l=>match Cm H n fuel l with
     |some l' =>some (.tuple l' ::ws)
     |none=>none
    | .top=>none
    | .bn k=>if y7 k 0 then some (.bn 0::ws) else none
    |v=>some (v::ws)
def Cl (aL:Bool)(n:Nat)(vs:List SV)(H:List SO):Option (SV×List SO) :=
 if aL then some (Cs vs,H) else match Cm H n 1000 [Cs vs] with
  |some [v]=>match v.Y1 with
   |some b=>if J9 b n then some (v,H.take n) else none
   |none=>none
  |_=>none
section
variable {C:Ctx} {vs:List Nat}
theorem Ih (cs:List b6):(cs.map b6.G9).map b6.G9=cs.map b6.G9:=by
 rw [List.map_map]
 congr 1
 funext v
 cases v<;>rfl
theorem LV {T:List SV}{H:List SO}{T' :List b6}{H' :o6}(hT:s9.g C vs T T')(hH:F2.g C vs H H'){r:yM}{v:SV}(h:Cw T H r=some v):∃ a,kH T' H' r=some a/\v.g C vs a:=by
 unfold Cw at h;split at h
 ·exact s9.get hT h
 ·split at h
  ·rename_i id off e
   obtain ⟨a,h1,h2⟩:=s9.get hT e;rw [bC h2] at h1;split at h
   ·rename_i w hw
    cases h;obtain ⟨cs,h3,h4⟩:=Aj hH hw;simp only [s9.g] at h4;obtain ⟨d,_,rfl,h5,rfl⟩:=h4;exact ⟨d.G9,by simp only [kH,h1,h3],SV.nU h5⟩
   ·cases h
  ·cases h
 ·rename_i t n
  split at h
  ·rename_i id off e
   obtain ⟨a,h1,h2⟩:=s9.get hT e;rw [bC h2] at h1;split at h
   ·rename_i p l hl
    split at h
    ·rename_i hc
     have hc:=m8 hc;cases h;obtain ⟨o,h3,h4⟩:=F2.get hH hl;obtain ⟨cs,rfl,h5,h6⟩:=h4;have hlen:=s9.len h5;refine ⟨.agg (((cs.drop off).take n).map b6.G9),?_,?_⟩
     ·simp only [kH,h1,rd,h3]
      rw [if_pos (by omega)]
     ·simp only [SV.g]
      refine ⟨_,rfl,s9.map (fun _ _=>SV.nU) (s9.take (s9.drop h5 off) n),fun k hk=> ?_⟩;split at hk
      ·rename_i kR
       simp only [b5] at kR;have c1:=b8 kR.1;have c2:=b8 kR.2;subst c1;rw [show (cs.drop 0).take n=cs by rw [List.drop_zero,q7 (by omega)],Ih];exact h6 k hk
      ·cases hk
    ·cases h
   ·cases h
  ·cases h
theorem xF {T:List SV}{H:List SO}{T' :List b6}{H' :o6}(hT:s9.g C vs T T')(hH:F2.g C vs H H'):∀ {rs:List yM} {l:List SV},mL T H rs=some l->∃ as,bV T' H' rs=some as/\s9.g C vs l as
 |[],l,h=>by simp only [mL,Option.some.injEq] at h;subst h;exact ⟨[],rfl,by simp [s9.g]⟩
 |r::rs,l,h=>by
  simp only [mL] at h;split at h
  ·rename_i v ws hv hws
   cases h;obtain ⟨a,h1,h2⟩:=LV hT hH hv;obtain ⟨as,h3,h4⟩:=xF hT hH hws;exact ⟨a::as,by simp only [bV,h1,h3],by simp only [s9.g];exact ⟨_,_,rfl,h2,h4⟩⟩
  ·cases h
theorem EC {l:List SV}{as:List b6}(h:s9.g C vs l as):(Cs l).g C vs (b9 as):=by
 have key:∀ {l:List SV} {as:List b6},s9.g C vs l as->(SV.tuple (l.map SV.G9)).g C vs (.tuple (as.map b6.G9)):=fun h=>by
  simp only [SV.g];exact ⟨_,rfl,s9.map (fun _ _=>SV.nU) h⟩
 match l,h with
 |[],h=>have:=key h;simp only [s9.g] at h;subst h;exact this
 |[v],h=>simp only [s9.g] at h;obtain ⟨d,_,rfl,h1,rfl⟩:=h;exact h1
 |v::w::l,h=>have:=key h;simp only [s9.g] at h;obtain ⟨d,_,rfl,h1,e,es,rfl,h2,h3⟩:=h;exact this
theorem QH {H:o6}{n:Nat}:∀ (fuel:Nat) {l ws:List b6},A9 l=0->bY H n fuel l=some ws->ws=l
 |0,l,ws,_,h=>by simp [bY] at h
 |fuel+1,[],ws,_,h=>by simp only [bY,Option.some.injEq] at h;exact h.symm
 |fuel+1,v::l,ws,hb,h=>by
  simp only [A9] at hb;simp only [bY] at h;split at h
  ·cases h
  ·rename_i us wC
   have e1:=QH fuel (by omega) wC;subst e1;split at h
   ·simp [b6.N7] at hb
   ·rename_i l0
    simp only [b6.N7] at hb;split at h
    ·rename_i l' hl'
     have e2:=QH fuel (l:=l0) (by omega) hl';cases h;rw [e2]
    ·cases h
   ·rename_i l0
    simp only [b6.N7] at hb;split at h
    ·rename_i l' hl'
     have e2:=QH fuel (l:=l0) (by omega) hl';cases h;rw [e2]
    ·cases h
   ·cases h;rfl
theorem xy {H:List SO}{H' :o6}{n:Nat}(hH:F2.g C vs H H'):∀ (fuel:Nat) {l ws:List SV} {as:List b6},s9.g C vs l as->Cm H n fuel l=some ws->∃ bs,bY H' n fuel as=some bs/\s9.g C vs ws bs
 |0,l,ws,as,_,h=>by simp [Cm] at h
 |fuel+1,[],ws,as,hg,h=>by
  simp only [s9.g] at hg;subst hg;simp only [Cm,Option.some.injEq] at h;subst h;exact ⟨[],by simp [bY],by simp [s9.g]⟩
 |fuel+1,v::l,ws,as,hg,h=>by
  simp only [s9.g] at hg;obtain ⟨a,as,rfl,ha,hl⟩:=hg;simp only [Cm] at h;split at h
  ·cases h
  ·rename_i us wC
   obtain ⟨bs,h1,h2⟩:=xy hH fuel hl wC;have fin:∀ {v:SV} {a:b6},v.g C vs a->s9.g C vs (v::us) (a::bs):=fun h=>by simp only [s9.g];exact ⟨_,_,rfl,h,h2⟩
   split at h
   ·rename_i id sz lo len
    rw [kI ha];split at h
    ·rename_i hc
     have hc:id<n:=m8 hc;cases h;exact ⟨.E3 id sz lo len::bs,by simp only [bY,h1];rw [if_pos hc],fin (by simp only [SV.g])⟩
    ·rename_i hc
     have hc:¬ id<n:=fun e=>hc (by rw [Nat.blt_eq];exact e)
     split at h
     ·rename_i q hq
      split at h
      ·rename_i q' Za
       split at h
       ·rename_i xs hxs
        split at h
        ·rename_i hlen
         have hlen:=b8 hlen;cases h;obtain ⟨cs,h3,h4⟩:=Aj hH hq;obtain ⟨ds,h5,h6⟩:=xy hH fuel h4 Za;obtain ⟨es,h7,h8⟩:=mH h6 hxs;exact ⟨.d (.slice len es)::bs,by simp only [bY,h1];rw [if_neg hc];simp only [h3,h5,h7],fin (aM (nF hlen h8))⟩
        ·cases h
       ·cases h
      ·cases h
     ·cases h
   ·rename_i p l'
    simp only [SV.g] at ha;obtain ⟨cs,rfl,h3,h4⟩:=ha;split at h
    ·rename_i l2 lV
     cases h;obtain ⟨ds,h5,h6⟩:=xy hH fuel h3 lV;refine ⟨.agg ds::bs,by simp only [bY,h1,h5],fin ?_⟩;simp only [SV.g];refine ⟨ds,rfl,h6,fun k hk=> ?_⟩;split at hk
     ·rename_i hb
      rw [QH fuel (s9.cC hb h3) h5];exact h4 k hk
     ·cases hk
    ·cases h
   ·rename_i l'
    simp only [SV.g] at ha;obtain ⟨cs,rfl,h3⟩:=ha;split at h
    ·rename_i l2 lV
     cases h;obtain ⟨ds,h5,h6⟩:=xy hH fuel h3 lV;exact ⟨.tuple ds::bs,by simp only [bY,h1,h5],fin (by simp only [SV.g];exact ⟨_,rfl,h6⟩)⟩
    ·cases h
   ·cases h
   ·rename_i k
    split at h
    ·rename_i hk
     have hk:=b8 hk;subst hk;cases h;simp only [SV.g] at ha;refine ⟨a::bs,?_,fin (by simp only [SV.g];exact ha)⟩;obtain ⟨a1,a2⟩:=ha;cases a<;>simp only [b6.N7,b6.one,b7,reduceCtorEq] at a1 a2<;>first
      |(simp only [bY,h1];done)
      |omega
    ·cases h
   ·rename_i w1 w2 w3 w4 w5
    cases h;refine ⟨a::bs,?_,fin ha⟩;cases v<;>simp only [SV.g] at ha
    ·exact absurd rfl w4
    ·subst ha;simp only [bY,h1]
    ·obtain ⟨_,rfl,_⟩:=ha;simp only [bY,h1]
    ·obtain ⟨_,_,rfl,_⟩:=ha;simp only [bY,h1]
    ·subst ha;simp only [bY,h1]
    ·subst ha;simp only [bY,h1]
    ·obtain ⟨_,_,rfl,_⟩:=ha;simp only [bY,h1]
    ·exact absurd rfl (w1 _ _ _ _)
    ·exact absurd rfl (w2 _ _)
    ·exact absurd rfl (w3 _)
    ·exact absurd rfl (w5 _)
    ·obtain ⟨_,h0,_⟩:=ha;cases a<;>simp only [b6.G9,reduceCtorEq] at h0<;>simp only [bY,h1]
theorem LO {H H1:List SO}{H' :o6}{aL:Bool}{n:Nat}{l:List SV}{as:List b6}{v:SV}(hH:F2.g C vs H H')(hl:s9.g C vs l as)(h:Cl aL n l H=some (v,H1)) :
  ∃ a H2,finish aL n as H' =some (a,H2)/\v.g C vs a/\F2.g C vs H1 H2:=by
 unfold Cl at h;split at h
 ·rename_i hp
  cases h;exact ⟨_,_,by simp only [finish,hp,if_true],EC hl,hH⟩
 ·rename_i hp
  split at h
  ·rename_i w hw
   split at h
   ·rename_i b hb
    split at h
    ·rename_i hc
     have hc:=m8 hc;cases h;obtain ⟨bs,h1,h2⟩:=xy hH 1000 (l:=[Cs l]) (as:=[b9 as]) (by simp only [s9.g];exact ⟨_,_,rfl,EC hl,rfl⟩) hw;simp only [s9.g] at h2;obtain ⟨a,_,rfl,h3,rfl⟩:=h2;have e:=SV.cC hb h3;refine ⟨a,H'.take n,?_,h3,F2.take hH n⟩;simp only [finish];rw [if_neg hp,h1];simp only;rw [if_pos (by omega)]
    ·cases h
   ·cases h
  ·cases h
end
def SB.cl:SB->Bool
 | .sr=>true
 |_=>false
def Rel.cl:Rel->Bool
 | .no=>true
 |_=>false
mutual
def SD.cl:SD->Bool
 | .bool c=>c.cl
 | .int _ _ _ r=>r.cl
 | .slice v _ _ row=>v.isNone&&E6.cl row
 | .pr _ x=>x.cl
 |_=>true
def E6.cl:List SD->Bool
 |[]=>true
 |x::xs=>x.cl&&E6.cl xs
end
mutual
def SV.cl:SV->Bool
 | .d x=>x.cl
 | .own _ x=>x.cl
 | .q x=>x.cl
 | .Q9 r=>E6.cl r
 | .agg _ l=>s9.cl l
 | .tuple l=>s9.cl l
 |_=>true
def s9.cl:List SV->Bool
 |[]=>true
 |x::xs=>x.cl&&s9.cl xs
end
def SO.cl:SO->Bool
 | .cells _ l=>s9.cl l
 |_=>true
def F2.cl:List SO->Bool
 |[]=>true
 |x::xs=>x.cl&&F2.cl xs
section
variable {C:Ctx} {vs ws:List Nat}
mutual
theorem SD.bW:∀ (x:SD) {d:Data},x.cl=true->x.g C vs d->x.g C ws d
 | .top,_,_,_=>by simp [SD.g]
 | .lit _,_,_,h=>by simpa only [SD.g] using h
 | .bool c,_,hc,h=>by
  cases c with
  |sr=>simp only [SD.g] at h ⊢;obtain ⟨b,h1,_⟩:=h;exact ⟨b,h1,trivial⟩
  |cmp=>simp [SD.cl,SB.cl] at hc
 | .int k lo hi r,_,hc,h=>by
  cases r with
  |no=>simp only [SD.g] at h ⊢;obtain ⟨b,h1,h2,h3,_⟩:=h;exact ⟨b,h1,h2,h3,trivial⟩
  |eq=>simp [SD.cl,Rel.cl] at hc
  |lt=>simp [SD.cl,Rel.cl] at hc
 | .anyI _,_,_,h=>by simpa only [SD.g] using h
 | .str _,_,_,h=>by simpa only [SD.g] using h
 | .slice v lo hi row,_,hc,h=>by
  cases v with
  |some i=>simp [SD.cl] at hc
  |none =>
   simp only [SD.cl,Option.isNone_none,Bool.true_and] at hc;simp only [SD.g] at h ⊢;obtain ⟨rows,h1,h2,h3,_,h5⟩:=h;exact ⟨rows,h1,h2,h3,(fun i e=>by cases e),fun r hr=>E6.bW row hc (h5 r hr)⟩
 | .pr _ x,_,hc,h=>by simp only [SD.cl] at hc;simp only [SD.g] at h ⊢;exact ⟨h.1,SD.bW x hc h.2⟩
theorem E6.bW:∀ (x:List SD) {d:List Data},E6.cl x=true->E6.g C vs x d->E6.g C ws x d
 |[],_,_,h=>by simpa only [E6.g] using h
 |x::xs,_,hc,h=>by
  simp only [E6.cl,b5] at hc;simp only [E6.g] at h ⊢;obtain ⟨d,ds,h1,h2,h3⟩:=h;exact ⟨d,ds,h1,SD.bW x hc.1 h2,E6.bW xs hc.2 h3⟩
end
mutual
theorem SV.bW:∀ (x:SV) {d:b6},x.cl=true->x.g C vs d->x.g C ws d
 | .top,_,_,_=>by simp [SV.g]
 | .any,_,_,h=>by simpa only [SV.g] using h
 | .d x,_,hc,h=>by simp only [SV.cl] at hc;simp only [SV.g] at h ⊢;obtain ⟨y,h1,h2⟩:=h;exact ⟨y,h1,SD.bW x hc h2⟩
 | .own _ x,_,hc,h=>by simp only [SV.cl] at hc;simp only [SV.g] at h ⊢;obtain ⟨a,b,h1,h2⟩:=h;exact ⟨a,b,h1,SD.bW x hc h2⟩
 | .J6,_,_,h=>by simpa only [SV.g] using h
 | .ptr ..,_,_,h=>by simpa only [SV.g] using h
 | .Q9 row,_,hc,h=>by simp only [SV.cl] at hc;simp only [SV.g] at h ⊢;obtain ⟨a,b,h1,h2⟩:=h;exact ⟨a,b,h1,E6.bW row hc h2⟩
 | .E3 ..,_,_,h=>by simpa only [SV.g] using h
 | .agg p l,_,hc,h=>by simp only [SV.cl] at hc;simp only [SV.g] at h ⊢;obtain ⟨cs,h1,h2,h3⟩:=h;exact ⟨cs,h1,s9.bW l hc h2,h3⟩
 | .tuple l,_,hc,h=>by simp only [SV.cl] at hc;simp only [SV.g] at h ⊢;obtain ⟨cs,h1,h2⟩:=h;exact ⟨cs,h1,s9.bW l hc h2⟩
 | .bn _,_,_,h=>by simpa only [SV.g] using h
 | .q x,_,hc,h=>by simp only [SV.cl] at hc;simp only [SV.g] at h ⊢;obtain ⟨y,h1,h2⟩:=h;exact ⟨y,h1,SD.bW x hc h2⟩
theorem s9.bW:∀ (x:List SV) {d:List b6},s9.cl x=true->s9.g C vs x d->s9.g C ws x d
 |[],_,_,h=>by simpa only [s9.g] using h
 |x::xs,_,hc,h=>by
  simp only [s9.cl,b5] at hc;simp only [s9.g] at h ⊢;obtain ⟨d,ds,h1,h2,h3⟩:=h;exact ⟨d,ds,h1,SV.bW x hc.1 h2,s9.bW xs hc.2 h3⟩
end
theorem SO.bW (x:SO){o:z6}(hc:x.cl=true)(h:x.g C vs o):x.g C ws o:=by
 cases x with
 |dead=>exact h
 |cells p l=>obtain ⟨cs,h1,h2,h3⟩:=h;exact ⟨cs,h1,s9.bW l hc h2,h3⟩
 |pr k=>exact h
 |bn k=>exact h
 |top=>trivial
theorem F2.bW:∀ (x:List SO) {o:o6},F2.cl x=true->F2.g C vs x o->F2.g C ws x o
 |[],_,_,h=>by simpa only [F2.g] using h
 |x::xs,_,hc,h=>by
  simp only [F2.cl,b5] at hc;simp only [F2.g] at h ⊢;obtain ⟨d,ds,h1,h2,h3⟩:=h;exact ⟨d,ds,h1,SO.bW x hc.1 h2,F2.bW xs hc.2 h3⟩
end
def DO:List SV->Option (List Data)
 |[]=>some []
 | .d (.lit x)::r=>match DO r with
  |some xs=>some (x::xs)
  |none=>none
 |_=>none
abbrev Fact:=Nat->List Data->Bool
def vk (C:Ctx)(fact:Fact):Prop:=∀ k ds,fact k ds=true->C.Θ k (ds.map .d)
def Jn (fact:Fact)(p:Option Nat)(l:List SV):Option Nat->Bool
 |none=>true
 |some k=>EM p (some k)||(match DO l with
  |some ds=>fact k ds
  |none=>false)
mutual
def SV.le (fact:Fact)(B:gO)(x:SV):SV->Bool
 | .top=>true
 | .any=>match x with
  | .any=>true
  |_=>false
 | .d y=>match x with
  | .d x=>SD.le B x y
  |_=>false
 | .own z y=>match x with
  | .own z' x=>y7 z z' &&SD.le B x y
  |_=>false
 | .J6=>match x with
  | .J6=>true
  |_=>false
 | .ptr i o=>match x with
  | .ptr i' o' =>y7 i i' &&y7 o o'
  |_=>false
 | .Q9 _=>false
 | .E3 i z l n=>match x with
  | .E3 i' z' l' n' =>y7 i i' &&y7 z z' &&y7 l l' &&y7 n n'
  |_=>false
 | .agg p l=>match x with
  | .agg p' l' =>Jn fact p' l' p&&s9.le fact B l' l
  |_=>false
 | .tuple l=>match x with
  | .tuple l' =>s9.le fact B l' l
  |_=>false
 | .q y=>match x.data? with
  |some x=>SD.le B x y
  |none=>false
 | .bn k=>x.one&&(match x.Y1 with
  |some b=>y7 b k
  |none=>false)
def s9.le (fact:Fact)(B:gO)(xs:List SV):List SV->Bool
 |[]=>xs.isEmpty
 |y::ys=>match xs with
  |x::xs=>SV.le fact B x y&&s9.le fact B xs ys
  |[]=>false
end
def SO.le (fact:Fact)(B:gO):SO->SO->Bool
 | .dead,.dead=>true
 | .cells p l,.cells p' l' =>Jn fact p l p' &&s9.le fact B l l'
 | .pr k,.pr k' =>y7 k k'
 |x,.bn k=>(match x.Y1 with
  |some b=>y7 b k
  |none=>false)
 |_,.top=>true
 |_,_=>false
def F2.le (fact:Fact)(B:gO):List SO->List SO->Bool
 |[],[]=>true
 |x::xs,y::ys=>x.le fact B y&&F2.le fact B xs ys
 |_,_=>false
section
variable {C:Ctx} {vs:List Nat} {B:gO} {fact:Fact} (hB:Bg vs B) (hf:vk C fact)
theorem IL:∀ {l:List SV} {ds:List Data} {cs:List b6},DO l=some ds->s9.g C vs l cs->cs=ds.map .d
 |[],_,_,h,hg=>by simp only [DO,Option.some.injEq] at h;subst h;simp only [s9.g] at hg;simpa using hg
 |x::xs,_,_,h,hg=>by
  simp only [s9.g] at hg;obtain ⟨d,ds',rfl,h1,h2⟩:=hg;unfold DO at h;split at h
  ·rename_i e;cases e
  ·rename_i y r e
   cases e;split at h
   ·rename_i ys hys
    cases h;obtain ⟨q,rfl,h3⟩:=Y7 h1;simp only [SD.g] at h3;subst h3;rw [IL hys h2];rfl
   ·cases h
  ·cases h
include hf in
theorem Jo {p q:Option Nat}{l:List SV}{cs:List b6}(h:Jn fact p l q=true)(hl:s9.g C vs l cs)(hp:∀ k,p=some k->C.Θ k (cs.map b6.G9)):∀ k,q=some k->C.Θ k (cs.map b6.G9):=by
 rintro k rfl;simp only [Jn,Bool.or_eq_true] at h
 rcases h with h|h
 ·exact hp k (EN h)
 ·split at h
  ·rename_i ds hds
   rw [IL hds hl];have e:(ds.map b6.d).map b6.G9=ds.map b6.d:=by rw [List.map_map];rfl
   rw [e];exact hf k ds h
  ·cases h
include hB hf
mutual
theorem SV.aR:∀ (y:SV) {x:SV} {v:b6},SV.le fact B x y=true->x.g C vs v->y.g C vs v
 | .top,_,_,_,_=>by simp [SV.g]
 | .any,x,_,h,hg=>by cases x<;>simp only [SV.le,b7] at h;exact hg
 | .d y,x,_,h,hg=>by
  cases x<;>simp only [SV.le,b7] at h;obtain ⟨d,rfl,h1⟩:=Y7 hg;exact aM (SD.aR hB y h h1)
 | .own z y,x,_,h,hg=>by
  cases x<;>simp only [SV.le,b7,b5] at h;have e:=b8 h.1;subst e;obtain ⟨len,cells,rfl,h1⟩:=pe hg;simp only [SV.g];exact ⟨_,_,rfl,SD.aR hB y h.2 h1⟩
 | .J6,x,_,h,hg=>by cases x<;>simp only [SV.le,b7] at h;exact hg
 | .ptr i o,x,_,h,hg=>by
  cases x<;>simp only [SV.le,b7,b5] at h;have e:=b8 h.1;have e2:=b8 h.2;subst e e2;exact hg
 | .Q9 _,x,_,h,hg=>by simp [SV.le] at h
 | .E3 i z l n,x,_,h,hg=>by
  cases x<;>simp only [SV.le,b7,b5] at h;have e1:=b8 h.1.1.1;have e2:=b8 h.1.1.2;have e3:=b8 h.1.2;have e4:=b8 h.2;subst e1 e2 e3 e4;exact hg
 | .agg p l,x,_,h,hg=>by
  cases x<;>simp only [SV.le,b7,b5] at h;simp only [SV.g] at hg ⊢;obtain ⟨cs,rfl,h1,h2⟩:=hg;exact ⟨cs,rfl,s9.aR l h.2 h1,Jo hf h.1 h1 h2⟩
 | .tuple l,x,_,h,hg=>by
  cases x<;>simp only [SV.le,b7] at h;simp only [SV.g] at hg ⊢;obtain ⟨cs,rfl,h1⟩:=hg;exact ⟨cs,rfl,s9.aR l h h1⟩
 | .q y,x,_,h,hg=>by
  simp only [SV.le] at h;split at h
  ·rename_i z hz
   obtain ⟨d,h0,h1⟩:=Cb hg hz;exact Ca h0 (SD.aR hB y h h1)
  ·cases h
 | .bn k,x,_,h,hg=>by
  simp only [SV.le,b5] at h;split at h
  ·rename_i b hb
   have e:=b8 h.2;subst e;simp only [SV.g];exact ⟨SV.cC hb hg,SV.wS hg h.1⟩
  ·exact absurd h.2 (by simp)
theorem s9.aR:∀ (y:List SV) {x:List SV} {v:List b6},s9.le fact B x y=true->s9.g C vs x v->s9.g C vs y v
 |[],x,_,h,hg=>by
  cases x with
  |nil=>exact hg
  |cons=>simp [s9.le] at h
 |y::ys,x,_,h,hg=>by
  cases x<;>simp only [s9.le,b7,b5] at h;simp only [s9.g] at hg ⊢;obtain ⟨d,ds,rfl,h1,h2⟩:=hg;exact ⟨d,ds,rfl,SV.aR y h.1 h1,s9.aR ys h.2 h2⟩
end
theorem SO.aR {x y:SO}{o:z6}(h:x.le fact B y=true)(hg:x.g C vs o):y.g C vs o:=by
 have key:∀ k,(match x.Y1 with|some b=>y7 b k|none=>false)=true->o.N7=k:=fun k hk=>by
  split at hk
  ·rename_i b hb
   rw [SO.cC hb hg];exact b8 hk
  ·cases hk
 cases y
 case top=>trivial
 case bn k=>exact key k (by cases x<;>simpa only [SO.le] using h)
 all_goals cases x<;>simp only [SO.le,b7,b5] at h
 ·exact hg
 ·obtain ⟨cs,rfl,h1,h2⟩:=hg
  exact ⟨cs,rfl,s9.aR hB hf _ h.2 h1,Jo hf h.1 h1 h2⟩
 ·have e:=b8 h
  subst e;exact hg
theorem F2.aR:∀ {x y:List SO} {o:o6},F2.le fact B x y=true->F2.g C vs x o->F2.g C vs y o
 |[],[],_,_,hg=>hg
 |[],_::_,_,h,_=>by simp [F2.le] at h
 |_::_,[],_,h,_=>by simp [F2.le] at h
 |x::xs,y::ys,_,h,hg=>by
  simp only [F2.le,b5] at h;simp only [F2.g] at hg ⊢;obtain ⟨d,ds,rfl,h1,h2⟩:=hg;exact ⟨d,ds,rfl,SO.aR hB hf h.1 h1,F2.aR h.2 h2⟩
end
structure Spec where
 f:FuncId
 args:List SV
 H:List SO
 lim:H7
 outs:List (SV×List SO)
def Spec.cl (s:Spec):Bool:=s9.cl s.args&&F2.cl s.H&&s.outs.all fun o=>o.1.cl&&F2.cl o.2
def Spec.ok (C:Ctx)(A:Prog)(s:Spec):Prop:=s.cl=true/\∀ as Hc,s9.g C [] s.args as->F2.g C [] s.H Hc->Pq A s.f as Hc s.lim fun v H1=>∃ o,o ∈ s.outs/\o.1.g C [] v/\F2.g C [] o.2 H1
def ju (a b:H7):Bool:=y7 a.SX b.SX&&y7 a.SW b.SW&&y7 a.base b.base&&y7 a.strict b.strict
def Ox (fact:Fact)(specs:List Spec):Sem:=fun B f args H l=>match specs.find? (fun s=>y7 s.f f&&s9.le fact B args s.args&&F2.le fact B H s.H&&ju s.lim l) with
 |some s=>some s.outs
 |none=>none
theorem Oy {C:Ctx}{A:Prog}{fact:Fact}(hf:vk C fact){specs:List Spec}(hs:∀ s,s ∈ specs->s.ok C A):eN C A (Ox fact specs):=by
 intro B f args H l outs h vs hB as Hc ha hH;unfold Ox at h;split at h
 ·rename_i s hfind
  cases h;have hm:=List.mem_of_find?_eq_some hfind;have hc:=List.find?_some hfind;simp only [b5,ju] at hc;obtain ⟨⟨⟨c1,c2⟩,c3⟩,c4⟩:=hc;obtain ⟨k1,k2⟩:=hs s hm;have e:s.f=f:=b8 c1;have e1:=b8 c4.1.1.1;have e2:=b8 c4.1.1.2;have e3:=b8 c4.1.2;have e4:=b8 c4.2;have el:s.lim=l:=by
   cases uD:s.lim;cases l;rw [uD] at e1 e2 e3 e4;simp only at e1 e2 e3 e4;subst e1 e2 e3 e4;rfl
  simp only [Spec.cl,b5] at k1;obtain ⟨v,H1,⟨o,o1,o2,o3⟩,h1⟩:=k2 as Hc (s9.bW _ k1.1.1 (s9.aR hB hf _ c2 ha)) (F2.bW _ k1.1.2 (F2.aR hB hf c3 hH));rw [e,el] at h1;have k3:=List.all_eq_true.1 k1.2 o o1;simp only [b5] at k3;exact ⟨v,H1,⟨o,o1,SV.bW _ k3.1 o2,F2.bW _ k3.2 o3⟩,h1⟩
 ·cases h
def xu (a b:Sem):Sem:=fun B f args H l=>match a B f args H l with
 |some r=>some r
 |none=>b B f args H l
theorem jD {C:Ctx}{A:Prog}{a b:Sem}(ha:eN C A a)(hb:eN C A b):eN C A (xu a b):=by
 intro B f args H l outs h;unfold xu at h;split at h
 ·rename_i r hr;cases h;exact ha _ _ _ _ _ _ hr
 ·exact hb _ _ _ _ _ _ h
def Nu (s:CS)(k:Nat):CS:=match s.T[k]? with
 |some v=>match DV s.B.length v with
  |some (w,p)=>{ s with T:=s.T.set k w,B:=s.B++[p] }
  |none=>s
 |none=>s
def Hf (s:CS):Nat->CS
 |0=>s
 |n+1=>Hf (Nu s n) n
theorem Rl {C:Ctx}{vs:List Nat}{s:CS}{st:St}(hs:s.g C vs st)(k:Nat):∃ ws,Le vs ws/\(Nu s k).g C ws st:=by
 unfold Nu;split
 ·rename_i v e
  split
  ·rename_i w p hn
   rw [<- hs.2.2.1] at hn;obtain ⟨a,h1,h2⟩:=s9.get hs.1 e;obtain ⟨m,h3,h4,h5⟩:=BQ hn h2;refine ⟨vs++[m],Le.app _ _,?_,F2.N4 (Le.app _ _) _ hs.2.1,hs.2.2.add h3 h4⟩;have:=s9.set (s9.N4 (Le.app vs [m]) _ hs.1) k h5
   rwa [X5 h1] at this
  ·exact ⟨vs,Le.refl _,hs⟩
 ·exact ⟨vs,Le.refl _,hs⟩
theorem DU {C:Ctx}:∀ (n:Nat) {vs:List Nat} {s:CS} {st:St},s.g C vs st->∃ ws,Le vs ws/\(Hf s n).g C ws st
 |0,vs,s,st,hs=>⟨vs,Le.refl _,hs⟩
 |n+1,vs,s,st,hs=>by
  obtain ⟨ws,l1,h1⟩:=Rl hs n;obtain ⟨us,l2,h2⟩:=DU n h1;exact ⟨us,l1.trans l2,h2⟩
def HG (s:CS)(j:Nat):List CS:=match s.T[j]? with
 |some (.d x)=>match x.int? s.B with
  |some (k,lo,hi,_)=>(mb k lo (hi - lo+1).toNat).map fun v=>{ s with T:=s.T.set j v }
  |none=>[s]
 |_=>[s]
def Cu:List Nat->List CS->List CS
 |[],l=>l
 |j::r,l=>Cu r (l.flatMap fun s=>HG s j)
theorem OF {C:Ctx}{vs:List Nat}{s:CS}{st:St}(hs:s.g C vs st)(j:Nat):∃ s',s' ∈ HG s j/\s'.g C vs st:=by
 have hs' :=hs;obtain ⟨hT,hH,hB⟩:=hs;unfold HG;split
 ·rename_i x e
  split
  ·rename_i k lo hi r hc
   obtain ⟨a,h1,h2⟩:=s9.get hT e;obtain ⟨d,rfl,h3⟩:=Y7 h2;obtain ⟨m,rfl,h4,h5,_⟩:=SD.iP hB hc h3;refine ⟨_,List.mem_map.2 ⟨_,kB _ lo m h4 (by omega),rfl⟩,?_,hH,hB⟩;have:=s9.set hT j (a:= .d (.lit (.int k m))) (b:= .d (.int k m)) (aM (by simp only [SD.g]))
   rwa [X5 h1] at this
  ·exact ⟨s,p4.2 rfl,hs'⟩
 ·exact ⟨s,p4.2 rfl,hs'⟩
theorem Ai {C:Ctx}{vs:List Nat}{st:St}:∀ (js:List Nat) {l:List CS} {s:CS},s ∈ l->s.g C vs st->∃ s',s' ∈ Cu js l/\s'.g C vs st
 |[],l,s,hm,hs=>⟨s,hm,hs⟩
 |j::js,l,s,hm,hs=>by
  obtain ⟨s1,h1,h2⟩:=OF hs j;exact Ai js (List.mem_flatMap.2 ⟨s,hm,h1⟩) h2
def Zl:E4->Bool
 | .exit _=>false
 |_=>true
def Wq (A:Prog)(sem:Sem)(hook:Gk)(fact:Fact)(kp js:List Nat)(fuel:Nat)(af:q6)(s:Spec):Bool :=
 s.cl&&y7 s.args.length af.nparams&&match gf (aS A sem hook kp s.lim s.H.length fuel af.body) (Cu js [Hf ⟨s.args++c9 (af.names.length - s.args.length) .any,s.H,[]⟩ s.args.length]) with
  |some outs=>outs.all fun o=>Zl o.1&&match mL o.2.T o.2.H af.results with
   |some l=>match Cl af.aL s.H.length l o.2.H with
    |some (v,H1)=>s.outs.any fun p=>SV.le fact o.2.B v p.1&&F2.le fact o.2.B H1 p.2
    |none=>false
   |none=>false
  |none=>false
theorem qU {C:Ctx}{A:Prog}{sem:Sem}{hook:Gk}{fact:Fact}{kp js:List Nat}{fuel:Nat}{s:Spec}{af:q6}(eU:eN C A sem)(hf:vk C fact)(Dz:Be C A s.lim s.H.length hook)(hp:A.gB s.f=none)(ha:A.fn s.f=some af)
  (h:Wq A sem hook fact kp js fuel af s=true):s.ok C A:=by
 unfold Wq at h;simp only [b5] at h;obtain ⟨⟨c1,c2⟩,c3⟩:=h;have c2:=b8 c2;refine ⟨c1,fun as Hc hA hH=> ?_⟩;split at c3
 ·rename_i outs hx
  have tK:=s9.len hA;have hHl:=F2.len hH;obtain ⟨ws,_,h0⟩:=DU s.args.length (C:=C) (vs:=[]) (s:=⟨s.args++c9 (af.names.length - s.args.length) .any,s.H,[]⟩) (st:=⟨as++c9 (af.names.length - as.length) .any,Hc⟩) ⟨by rw [tK];exact s9.app hA (Bj _),hH,rfl,fun i lo hi h=>by simp at h⟩;obtain ⟨s0,m0,h0⟩:=Ai js (p4.2 rfl) h0;obtain ⟨z,hz,hmz⟩:=V6 hx s0 m0;have h1:=eH eU Dz af.body h0 hz;refine Pq.run (b:=s.H.length) _ hp ha (by omega) hHl rfl (h1.mono ?_);rintro x st' ⟨o,o1,rfl,us,l1,g1,g2,g3⟩;have c4:=List.all_eq_true.1 c3 o (hmz o o1);simp only [b5] at c4;obtain ⟨c5,c6⟩:=c4;split at c6
  ·rename_i l hl
   obtain ⟨bs,h2,h3⟩:=xF g1 g2 hl;split at c6
   ·rename_i v H1 sN
    obtain ⟨a,H2,h4,h5,h6⟩:=LO g2 h3 sN;obtain ⟨p,p1,p2⟩:=List.any_eq_true.1 c6;simp only [b5] at p2;refine ⟨a,H2,?_,p,p1,?_,?_⟩
    ·cases he:o.1 with
     |exit i=>rw [he] at c5;cases c5
     |normal=>simp only [ki,h2,h4]
     |ret=>simp only [ki,h2,h4]
    ·simp only [Spec.cl,b5] at c1
     have k3:=List.all_eq_true.1 c1.2 p p1;simp only [b5] at k3;exact SV.bW _ k3.1 (SV.aR g3 hf _ p2.1 h5)
    ·simp only [Spec.cl,b5] at c1
     have k3:=List.all_eq_true.1 c1.2 p p1;simp only [b5] at k3;exact F2.bW _ k3.2 (F2.aR g3 hf p2.2 h6)
   ·cases c6
  ·cases c6
 ·cases c3
end Go.z7.Sh


import Derived.Test.YtibjocmpkoepoaaGreatE0
set_option linter.all false
open Bool renaming and_eq_true→c9,eq_false_or_eq_true→C4,not_eq_false'→C5,not_eq_true'→o5,or_eq_false_iff→D5,true→W,false→F
open List renaming append_assoc→K2,getElem_of_mem→L5,length_append→l5,length_map→A9,take_of_length_le→A4,length→O
open Nat renaming le_refl→k9,lt_or_ge→A7
open Option renaming some→J,none→K
namespace Go.Proofs.YtibjocmpkoepoaaGreat
open Go.A5 Go.A5.S
def Ca (c:p9)(prev:List (List K0))(k:Nat):List K0 :=
 if k<O c.j7 then (Y c.j7 k).o7.map U4.name
 else if x5 (Y c.views (k - O c.j7)).kind 2 then Y prev (F8 c (Y c.views (k - O c.j7)).left k).toNat
 else (de (Y c.views (k - O c.j7))).map DY.name
def JO (c:p9):Nat->List (List K0)
 |0=>[]
 |k+1=>JO c k++[Ca c (JO c k) k]
def TU (c:p9)(k:Nat):List K0:=Ca c (JO c k) k
theorem JP (c:p9):∀k,O (JO c k)=k
 |0=>rfl
 |k+1=>by simp [JO,JP c k]
theorem BI (c:p9):∀{k j:Nat},j<k->Y (JO c k) j=TU c j
 |k+1,j,h=>by
  have hl:=JP c k
  rcases A7 j k with h1|h1
  .rw [<- BI c h1,JO,F9 D,F9 V,List.getElem_append_left V]
  grind [JO,F9,List.getElem_append_right,TU]
def qm (c:p9)(j:Nat):gD:=(Y (p9.sn c) j,TU c j,T6 c j)
def N4 (c:p9)(k:Nat):List gD:=(List.range k).map (qm c)
def aN (c:p9)(k:Nat):O (N4 c k)=k:=by simp [N4]
def bA (c:p9){k j:Nat}(h:j<k):Y (N4 c k) j=qm c j:=by
 simp_all [F9,aN,N4]
def Cf (c:p9)(k:Nat):N4 c (k+1)=N4 c k++[qm c k]:=by simp [N4,List.range_succ]
def qn (c:p9){k:Nat}(h:k<=p9.ns c):(N4 c k).map (·.1)=(p9.sn c).take k:=by
 apply List.ext_getElem
 all_goals grind [Z6,N4,p9.sn,qm,F9]
def dg (c:p9){k:Nat}(h:k<=p9.ns c)(s:K0):J5 s ((N4 c k).map (·.1)) 0=F8 c s k:=by rw [qn c h];rfl
def wK (c:p9){g:Nat}(h:g<O c.j7):Y c.names g=(Y c.j7 g).name:=by
 rw [F9 (by grind [p9.names]),F9 h];simp_all [p9.names]
def iB (c:p9)(g:Nat)(s:K0)(h:Y c.names g=s)(e:Int)(he:Q6 c g=(if !M3 (Y c.names g) then 3 else if (c.names.take g).any λy=>O4 y (Y c.names g) then 4 else e)) :
  Q6 c g=if !x5 (R3 (c.names.take g) s) 0 then R3 (c.names.take g) s else e:=by
 unfold R3
 grind [x5,M3,O4]
theorem eX (c:p9)(g:Nat)(hg:g<O c.names)(h:Q6 c g=0):P8 (c.names.take g) (Y c.names g)=c.names.take (g+1):=by
 grind [AZ,R3,Y,P8,H8,o9]
def Pv (c:p9){g:Nat}(h:g<=p9.ns c)(s:K0)(hs:((c.names.take g).any λy=>O4 y s)=F):(((N4 c g).map (·.1)).any λy=>O4 y s)=F:=by
 rw [qn c h];have h1:c.names=p9.sn c++(c.idxs.map mg.name++c.J7.map mb.name++c.L0.map oF.name++c.M7.map oo.name++c.O0.map rA.name++c.Q3.map ru.name):=by simp [p9.names,p9.sn]
 grind [p9.sn,Z6]
theorem Jx:∀(l:List K0) (i:Nat),(∀x,x∈l->x≠[])->J5 [] l i= -1
 |[],_,_=>rfl
 |x::l,i,h=>by
  have h1:O4 x []=F:=by simp [I9,h x (List.mem_cons_self)]
  simp [J5,h1,if_false];exact Jx l (i+1) λy hy=>h y (List.mem_cons_of_mem _ hy)
theorem Zg {s:K0}(h:M3 s=W):s≠[]:=by
 grind [M3]
def ZP (c:p9){g:Nat}(h:g<=p9.ns c):(p9.sn c).take g=c.names.take g:=by
 have h1:c.names=p9.sn c++(c.idxs.map mg.name++c.J7.map mb.name++c.L0.map oF.name++c.M7.map oo.name++c.O0.map rA.name++c.Q3.map ru.name):=by simp [p9.names,p9.sn]
 simp_all [List.take_append_of_le_length,Z6]
theorem Uo {c:p9}{g:Nat}(hg:g<=p9.ns c)(hok:lP c g):F8 c [] g= -1:=by
 apply Jx;intro x hx;rw [ZP c hg] at hx;obtain ⟨j,hj,rfl⟩:=L5 hx;have h1:j<g:=by grind
 have h2:=AZ (hok j h1)
 grind [F9,C5,Zg]
def KF (c:p9){g:Nat}(h:g<=O c.j7)(s:K0):gv c s g=F8 c s g:=by
 grind [gv,Nat.min_eq_left]
def AQ (c:p9){k:Nat}(h:k<O c.j7):T6 c k=(Y c.j7 k).o7.map U4.type:=by
 simp_all [T6,iZ]
def Zm {α β:Type} [Inhabited α] [Inhabited β] (f:α->β){l:List α}{i:Nat}(h:i<O l):Y (l.map f) i=f (Y l i):=by
 simp_all [F9]
def Ui (a b:Int):x5 a b=x5 b a:=by
 simp [o9]
 grind
def Ks (t:fR)(x:U4):(!nW t x)=((!s4 x.fc 0 1||(x5 (O x.D6) 0&&(!x5 x.fc 0|| !x5 x.kA 0)))||(!s4 x.kA 0 1048576||(!x5 t.cz 0&&F0 t.cz x.kA))):=by
 have h1:x5 (O x.D6) 0= !F0 0 (O x.D6):=by
  simp [o9,A1]
  grind
 have h2:s4 x.fc 0 1=(x5 x.fc 0||x5 x.fc 1):=by
  simp [s4,x8,o9]
  grind
 have h3:F0 t.cz x.kA= !aH x.kA t.cz:=by
  simp [x8,A1]
  grind
 grind [nW,x5,F0,s4,aH]
def ao9:∀(A d9 C ow wj d4 wd ret E:Bool),(if A=W then (3:Int) else if d9=W then 4 else if C=W then 5 else if (ow||((wj||d4)||(wd||ret)))=W then 1 else if E=W then 1 else 0)=(if A=W then (3:Int) else if d9=W then 4 else if C=W then 5 else if (ow||wj||d4)=W then 1 else if (wd||ret||E)=W then 1 else 0):=by decide
def ap0:∀(A d9 C sp ow wj d4 wd ret E d6:Bool),(if A=W then (3:Int) else if d9=W then 4 else if C=W then 5 else if (sp||ow||((wj||d4)||(wd||ret)))=W then 1 else if E=W then 1 else if d6=W then 1 else 0)=(if A=W then (3:Int) else if d9=W then 4 else if C=W then 5 else if (sp||ow||wj||d4)=W then 1 else if (wd||ret||E)=W then 1 else if d6=W then 1 else 0):=by decide
set_option maxHeartbeats 4000000 in
def Yp {c:p9}{g i:Nat}(hg:g<O c.j7)(hok:lP c g):rD c (N4 c g) (Y c.j7 g) i=aK c g i:=by
 have eD:g<=p9.ns c:=by grind [p9.ns]
 unfold rD aK;rw [dg c eD,KF c V];generalize hx:Y (Y c.j7 g).o7 i=x;have hTO:=L9 c x.refs g;have hnil:O4 x.refs []=W->F8 c x.refs g= -1:=λh=>by grind [aO4,Uo]
 have tP:0<=F8 c x.refs g->Y (Y (N4 c g) (F8 c x.refs g).toNat).2.2 0=(Y (Y c.j7 (F8 c x.refs g).toNat).o7 0).type:=λh=>by
  have h1:(F8 c x.refs g).toNat<g:=V
  rw [bA c h1];show Y (T6 c _) 0=_
  rw [AQ c V,Zm _ (fA (Y0 (hok _ h1) V)).1]
 generalize F8 c x.refs g=TO at *
 rcases C4 (O4 x.refs []) with hr|hr
 .have h1:=hnil hr
  have h2:aH 0 (-1)=F:=by simp [x8]
  rw [Ks]
  grind
 .rcases C4 (aH 0 TO) with h0|h0
  .rw [tP (kM h0)]
   have h2:F0 TO 0=F:=by simp_all [kM,A1]
   rw [Ks,Ui x.type (Y (Y c.j7 TO.toNat).o7 0).type];simp only [Bool.not_or,hasB]
   grind
  simp_all [F0,rR,A1,Bool.not_false,Bool.and_self,if_true]
theorem IU {c:p9}{g:Nat}(hg:g<O c.j7)(hok:lP c g):∀k i,Eh c (N4 c g) (Y c.j7 g) k i=ek c g k i
 |0,_=>rfl
 |k+1,i=>by
  rw [Eh,ek,Yp hg hok,IU hg hok k (i+1)]
def Tg (t:fR):qo t=(!s4 (O t.o7) 1 8|| !s4 t.erase 0 1|| !s4 t.cz 0 1048576):=by
 have h2:s4 t.erase 0 1=(x5 t.erase 0||x5 t.erase 1):=by
  simp [s4,x8,o9]
  grind
 simp_all [qo,Bool.not_or]
def Pw {c:p9}{g:Nat}(hg:g<O c.j7)(hok:lP c g):wY c (N4 c g) (c.names.take g) (Y c.j7 g)=Q6 c g:=by
 have he:=iB c g (Y c.j7 g).name (wK c hg) (eH c g) (by simp_all [Q6]);simp_all [wY,eH,Tg,IU]
def ZX {c:p9}{g:Nat}(hg:g<O c.j7)(hok:lP c g)(h0:Q6 c g=0):KE c (N4 c g) (c.names.take g) (Y c.j7 g)=N4 c (g+1):=by
 unfold KE;rw [Pw hg hok,h0,Cf];have h1:qm c g=((Y c.j7 g).name,(Y c.j7 g).o7.map U4.name,(Y c.j7 g).o7.map U4.type):=by
  unfold qm;rw [AQ c hg,<- BG c (by grind [p9.ns]),wK c hg];simp_all [TU,Ca,if_pos]
 simp_all [o9]
def HS (c:p9)(s:K0)(col:Int):mR (N4 c (p9.ns c)) s col=mQ c s col:=by
 unfold mR mQ;rw [dg c (k9 _)];have hb:=L9 c s (p9.ns c)
 rcases C4 (F0 (F8 c s (p9.ns c)) 0) with h|h
 .simp_all
 .have h1:=D4 h
  rw [bA c V];rfl
def JB (c:p9)(s:K0):(!nQ c (N4 c (p9.ns c)) s)=F0 (gv c s (O c.j7)) 0:=by
 unfold nQ;rw [dg c (k9 _),KF c (k9 _)];unfold F8;have h0:(p9.sn c).take (p9.ns c)=p9.sn c:=A4 (by rw [Z6];omega);have h1:∀(l:List K0) (k i:Nat),(J5 s (l.take k) i= -1/\(J5 s l i= -1\/((i:Int)+k<=J5 s l i/\k<=O l)))\/(J5 s (l.take k) i=J5 s l i/\(i:Int)<=J5 s l i/\J5 s l i<i+k):=by
  intro l
  induction l with
  |nil=>simp_all [J5]
  |cons x l ih =>
   intro k i;cases k with
   |zero =>
    grind [gQ]
   |succ k =>
    simp [List.take_succ_cons,J5]
    all_goals grind
 rcases h1 (p9.sn c) (O c.j7) 0 with h|h
 .have e1:F0 (J5 s ((p9.sn c).take (O c.j7)) 0) 0=W:=by simp_all [A1,decide_eq_true_eq]
  grind [s4,J5,p9.sn,x8,Bool.and_eq_false_iff,decide_eq_false_iff_not]
 .have e1:F0 (J5 s ((p9.sn c).take (O c.j7)) 0) 0=F:=by simp_all [A1,decide_eq_false_iff_not]
  have e2:s4 (J5 s (p9.sn c) 0) 0 (O c.j7 - 1)=W:=by simp [s4,x8,c9,decide_eq_true_eq];omega
  simp_all
theorem TH (c:p9):∀seen l,bkL c (N4 c (p9.ns c)) seen l=bkE c seen l
 |_,[]=>rfl
 |seen,t::r=>by
  rw [bkL,bkE,JB,TH c (seen++[t]) r]
def bu (c:p9){g i:Nat}{α:Type} [Inhabited α] (l1 l3:List K0)(l2:List α)(f:α->K0)(h:c.names=l1++l2.map f++l3)(hl:O l1=g)(hi:i<O l2):Y c.names (g+i)=f (Y l2 i):=by
 grind [K2,F9,List.getElem_append_right,Nat.add_sub_cancel_left,List.getElem_append_left]
def mG {c:p9}{g:Nat}(h:p9.ns c<=g):Q6 c g=(if !M3 (Y c.names g) then 3 else if (c.names.take g).any λy=>O4 y (Y c.names g) then 4 else Y1 c (g - p9.ns c)):=by
 grind [p9.ns,Q6]
theorem YV {c:p9}{g i:Nat}(hg:g=p9.ns c+i)(hi:i<O c.idxs):Jv (N4 c (p9.ns c)) (c.names.take g) (Y c.idxs i)=Q6 c g:=by
 have hn:Y c.names g=(Y c.idxs i).name:=by
  rw [hg];exact bu c (p9.sn c) (c.J7.map mb.name++c.L0.map oF.name++c.M7.map oo.name++c.O0.map rA.name++c.Q3.map ru.name) c.idxs mg.name (by simp [p9.names,p9.sn]) (Z6 c) hi
 have he:=iB c g _ hn (Y1 c (g - p9.ns c)) (mG V);rw [he];have e1:Y1 c (g - p9.ns c)=Sk c (Y c.idxs i):=by
  simp_all [Nat.add_sub_cancel_left,Y1,if_pos]
 rw [e1];unfold Jv Sk;rw [HS]
 grind [x5,mQ,Y]
theorem Yn {c:p9}{g i:Nat}(hg:g=p9.ns c+(O c.idxs+O c.J7)+i)(hi:i<O c.L0):IG (N4 c (p9.ns c)) (c.names.take g) (Y c.L0 i)=Q6 c g:=by
 have hn:Y c.names g=(Y c.L0 i).name:=by
  rw [hg];exact bu c (p9.sn c++c.idxs.map mg.name++c.J7.map mb.name) (c.M7.map oo.name++c.O0.map rA.name++c.Q3.map ru.name) c.L0 oF.name (by simp [p9.names,p9.sn]) (by simp [Z6]) hi
 have he:=iB c g _ hn (Y1 c (g - p9.ns c)) (mG V);rw [he];have e1:Y1 c (g - p9.ns c)=RD c (Y c.L0 i):=by
  have hm:g - p9.ns c=O c.idxs+O c.J7+i:=V
  unfold Y1
  grind
 rw [e1];unfold IG RD;rw [HS]
 grind [x5,mQ,Y]
theorem ZV {c:p9}{g i:Nat}(hg:g=p9.ns c+(O c.idxs+O c.J7+O c.L0+O c.M7)+i)(hi:i<O c.O0):NO c (N4 c (p9.ns c)) (c.names.take g) (Y c.O0 i)=Q6 c g:=by
 have hn:Y c.names g=(Y c.O0 i).name:=by
  rw [hg];exact bu c (p9.sn c++c.idxs.map mg.name++c.J7.map mb.name++c.L0.map oF.name++c.M7.map oo.name) (c.Q3.map ru.name) c.O0 rA.name (by rfl) (by simp [Z6,Nat.add_assoc]) hi
 have he:=iB c g _ hn (Y1 c (g - p9.ns c)) (mG V);have e1:Y1 c (g - p9.ns c)=Tf c (Y c.O0 i):=by
  have hm:g - p9.ns c=(O c.idxs+O c.J7+O c.L0+O c.M7)+i:=V
  unfold Y1
  grind
 simp_all [NO,Tf,JB]
theorem aj7 {c:p9}{g i:Nat}(hg:g=p9.ns c+(O c.idxs+O c.J7+O c.L0+O c.M7+O c.O0)+i)(hi:i<O c.Q3):bkM c (N4 c (p9.ns c)) (c.names.take g) (Y c.Q3 i)=Q6 c g:=by
 have hn:Y c.names g=(Y c.Q3 i).name:=by
  rw [hg];exact bu c (p9.sn c++c.idxs.map mg.name++c.J7.map mb.name++c.L0.map oF.name++c.M7.map oo.name++c.O0.map rA.name) ([]) c.Q3 ru.name (by simp [p9.names,p9.sn]) (by simp [Z6,Nat.add_assoc]) hi
 have he:=iB c g _ hn (Y1 c (g - p9.ns c)) (mG V);have e1:Y1 c (g - p9.ns c)=Iw c (Y c.Q3 i):=by
  have hm:g - p9.ns c=(O c.idxs+O c.J7+O c.L0+O c.M7+O c.O0)+i:=V
  unfold Y1
  grind
 simp_all [bkM,Iw,TH]
theorem ZO {c:p9}{g i:Nat}(hg:g=p9.ns c+(O c.idxs)+i)(hi:i<O c.J7):BV (N4 c (p9.ns c)) (c.names.take g) (Y c.J7 i)=Q6 c g:=by
 have hn:Y c.names g=(Y c.J7 i).name:=by
  rw [hg];exact bu c (p9.sn c++c.idxs.map mg.name) (c.L0.map oF.name++c.M7.map oo.name++c.O0.map rA.name++c.Q3.map ru.name) c.J7 mb.name (by simp [p9.names,p9.sn]) (by simp [Z6]) hi
 have he:=iB c g _ hn (Y1 c (g - p9.ns c)) (mG V);rw [he];have e1:Y1 c (g - p9.ns c)=DK c (Y c.J7 i):=by
  have hm:g - p9.ns c=(O c.idxs)+i:=V
  unfold Y1
  grind
 rw [e1];unfold BV DK HP;rw [HS];generalize Y c.J7 i=x;have h2:s4 x.kind 0 2=(x5 x.kind 0||x5 x.kind 1||x5 x.kind 2):=by
  simp [s4,x8,o9]
  grind
 grind
theorem ZJ {c:p9}{g i:Nat}(hg:g=p9.ns c+(O c.idxs+O c.J7+O c.L0)+i)(hi:i<O c.M7):Kn c (N4 c (p9.ns c)) (c.names.take g) (Y c.M7 i)=Q6 c g:=by
 have hn:Y c.names g=(Y c.M7 i).name:=by
  rw [hg];exact bu c (p9.sn c++c.idxs.map mg.name++c.J7.map mb.name++c.L0.map oF.name) (c.O0.map rA.name++c.Q3.map ru.name) c.M7 oo.name (by simp [p9.names,p9.sn]) (by simp [Z6,Nat.add_assoc]) hi
 have he:=iB c g _ hn (Y1 c (g - p9.ns c)) (mG V);rw [he];have e1:Y1 c (g - p9.ns c)=Km c (Y c.M7 i):=by
  have hm:g - p9.ns c=(O c.idxs+O c.J7+O c.L0)+i:=V
  unfold Y1
  grind
 rw [e1];unfold Kn Km rlV;rw [dg c (k9 _)]
 grind [F0,F8,Y,p9.ns]
def Ct (k:Int):s4 k 0 2=(x5 k 0||x5 k 1||x5 k 2):=by
 simp [s4,x8,o9]
 grind
def VV {v:Vw}(h:s4 v.kind 0 2=W):lQ v=bQ v:=by
 have h1:F0 0 (O v.on)= !x5 (O v.on) 0:=by
  simp [o9,A1]
  grind
 have h2:F0 8 (O v.on)= !aH (O v.on) 8:=by
  simp [x8,A1]
  grind
 rw [Ct] at h;unfold lQ bQ lU;have hx:x5 v.kind 0=W->x5 v.kind 1=F/\x5 v.kind 2=F:=λh=>by
  simp_all [br,o9]
 have hy:x5 v.kind 1=W->x5 v.kind 2=F:=λh=>by
  simp_all [br,o9]
 grind
def ae0 {c:p9}{g:Nat}(hg:g<=p9.ns c)(h:0<=F8 c (Z0 c g).left g):(bI (N4 c g) (Z0 c g).left).2.2=lT c g:=by
 have hb:=L9 c (Z0 c g).left g;unfold bI lT;rw [dg c hg,bA c V,W7 c V];rfl
def af7 {c:p9}{g:Nat}(hg:g<=p9.ns c)(h:O4 (Z0 c g).right []=F->0<=F8 c (Z0 c g).right g):(Ij (N4 c g) (Z0 c g)).2.2=rT c g:=by
 have hb:=L9 c (Z0 c g).right g;unfold Ij rT bI
 rcases C4 (O4 (Z0 c g).right []) with hr|hr
 .rw [hr];rfl
 .have:=h hr
  rw [hr,if_neg U,if_neg U,dg c hg,bA c V,W7 c V];rfl
theorem tw (c:p9){g:Nat}(h:O c.j7<=g)(h2:g<p9.ns c):Y c.names g=(Z0 c g).name:=by
 have hv:g - O c.j7<O c.views:=by grind [p9.ns]
 have:=bu c (i:=g - O c.j7) (c.j7.map fR.name) (c.idxs.map mg.name++c.J7.map mb.name++c.L0.map oF.name++c.M7.map oo.name++c.O0.map rA.name++c.Q3.map ru.name) c.views Vw.name (by simp [p9.names]) (g:=O c.j7) U hv;rw [show O c.j7+(g - O c.j7)=g by omega] at this;exact this
theorem KT {c:p9}{g:Nat}(h:O c.j7<=g)(h2:g<p9.ns c):fD (N4 c g) (c.names.take g) (Z0 c g)=Q6 c g:=by
 have hg:g<=p9.ns c:=V
 have he:=iB c g _ (tw c h h2) (Y3 c g) (by
  grind [Q6])
 rw [he];unfold fD Y3;rw [Ct,dg c hg,dg c hg];simp only [Bool.not_or]
 rcases C4 (!x5 (Z0 c g).kind 0&& !x5 (Z0 c g).kind 1&& !x5 (Z0 c g).kind 2) with k1|k1
 .simp_all
 .rcases C4 (F0 (F8 c (Z0 c g).left g) 0||(!O4 (Z0 c g).right []&&F0 (F8 c (Z0 c g).right g) 0)) with k2|k2
  .simp_all
  .have k2' :=k2
   simp [D5] at k2';have f1:=D4 k2'.1;have f2:O4 (Z0 c g).right []=F->0<=F8 c (Z0 c g).right g:=λh=>by
    simp_all [Bool.not_false,Bool.true_and,D4]
   have hk:s4 (Z0 c g).kind 0 2=W:=by
    rw [Ct]
    grind
   rw [VV hk,ae0 hg f1,af7 hg f2];rfl
theorem Ws {c:p9}{g:Nat}(h:O c.j7<=g)(h2:g<p9.ns c)(h0:Q6 c g=0):rZ (N4 c g) (c.names.take g) (Z0 c g)=N4 c (g+1):=by
 have hg:g<=p9.ns c:=V
 have hs:=iK (eC h0 h h2);have hb:=L9 c (Z0 c g).left g;have h00:x5 0 0=W:=by simp [o9]
 have hn:Y (p9.sn c) g=(Z0 c g).name:=by rw [<- BG c h2,tw c h h2]
 have hnt:¬ g<O c.j7:=V
 unfold rZ;rw [KT h h2,h0,h00,if_pos rfl,Cf]
 rcases C4 (x5 (Z0 c g).kind 2) with hk|hk
 .have e1:qm c g=((Z0 c g).name,(bI (N4 c g) (Z0 c g).left).2.1,(bI (N4 c g) (Z0 c g).left).2.2):=by
   have hk' :x5 (Y c.views (g - O c.j7)).kind 2=W:=hk;have hb' :=L9 c (Y c.views (g - O c.j7)).left g;unfold qm bI;rw [hn,dg c hg,bA c V];unfold T6 TU iZ Ca;rw [if_neg hnt,if_neg hnt,hk',if_pos rfl,if_pos rfl,W7 c V,BI c V];rfl
  simp_all
 .have e1:qm c g=((Z0 c g).name,(de (Z0 c g)).map DY.name,bf (Z0 c g) ((bI (N4 c g) (Z0 c g).left).2.2++(Ij (N4 c g) (Z0 c g)).2.2)):=by
   have hk' :x5 (Y c.views (g - O c.j7)).kind 2=F:=hk;rw [ae0 hg hs.2.1,af7 hg hs.2.2.1];unfold qm;rw [hn];unfold T6 TU iZ Ca;rw [if_neg hnt,if_neg hnt,hk',if_neg U,if_neg U];rfl
  simp_all
def SV {v:Vw}(hk:s4 v.kind 0 2=W)(h:bQ v=W)(h2:x5 v.kind 2=F):0<O v.items+O v.I6:=by
 unfold bQ at h;rw [h2,if_neg U] at h
 rcases C4 (x5 v.kind 0) with h0|h0
 .rw [h0,if_pos rfl] at h
  simp only [c9,o5,D5] at h;have:=ot h.1.1;omega
 .rw [h0,if_neg U] at h
  simp only [c9,o5,D5] at h;have:=ot h.1.1;omega
theorem HU {c:p9}(hs:G8 c):∀(n k:Nat),k<n->n<=p9.ns c->lP c n->0<O (T6 c k)/\0<O (TU c k)/\O (TU c k)<=2000
 |0,k,h,_,_=>absurd h V
 |n+1,k,h,hn,ho=>by
  rcases A7 k n with h1|h1
  .exact HU hs n k h1 V (λm hm=>ho m V)
  obtain rfl:k=n:=V
  rcases A7 k (O c.j7) with h2|h2
  .have h3:=hs.sm.o7 k h2
   have h4:=(fA (Y0 (ho k V) h2)).1;unfold T6 TU iZ Ca;rw [if_pos h2,if_pos h2];simp;omega
  .have h3:¬ k<O c.j7:=V
   have hv:k - O c.j7<O c.views:=by unfold p9.ns at hn;omega
   have hsr:=iK (eC (ho k V) h2 V);unfold Z0 at hsr;unfold T6 TU iZ Ca;rw [if_neg h3,if_neg h3]
   rcases C4 (x5 (Y c.views (k - O c.j7)).kind 2) with hk|hk
   .have hb:=L9 c (Y c.views (k - O c.j7)).left k
    have f1:=hsr.2.1;rw [hk,if_pos rfl,if_pos rfl,W7 c V,BI c V];exact HU hs k _ V V (λm hm=>ho m V)
   .have h5:=SV hsr.1 hsr.2.2.2 hk
    have h6:=hs.items _ hv;have h7:=hs.I6 _ hv;rw [hk,if_neg U,if_neg U,A9,mF];simp only [bf,l5,A9];omega
def XM (c:p9)(g:Nat)(ds:List K0)(ss:List gD):Prop:=ds=c.names.take g/\ss=N4 c (min g (p9.ns c))
def dx [Inhabited XO] (c:p9)(f:FuncId)(i g:Nat):Prop:=∃dz sz,(Q6 c g=0->XM c (g+1) dz sz)/\Pm A f [.ptr 5 0,.d (Z i)] (HH c (c.names.take g) (N4 c (min g (p9.ns c)))) lW (.d (Z (Q6 c g))) (HH c dz sz)
def Wh [Inhabited XO] {c:p9}(hs:G8 c){i:Nat}(hi:i<O c.j7)(hok:lP c i):dx c 149 i i:=by
 have eD:i<p9.ns c:=by unfold p9.ns;omega
 have hf:=hs.sm.iC.1;have hm:min i (p9.ns c)=i:=V
 have p:=bt1 c (c.names.take i) (N4 c i) i hi (hs.sm.o7 i hi) (λj hj=>hs.sm.D6 i j hi hj) (by rw [aN];omega) (by rw [aN];omega) V
  (λk hk=>by
   rw [aN] at hk;have h1:=(fA (Y0 (hok k hk) V)).1;rw [bA c hk];refine ⟨?_,h1⟩;show 0<O (T6 c k)
   rw [AQ c V];simpa using h1) (λs hs' =>Pv c V s hs')
 rw [Pw hi hok] at p;unfold dx;rw [hm];refine ⟨_,_,λh0=>?_,p⟩;unfold XM;have hnl:i<O c.names:=by have:=V0 c;omega
 rw [ZX hi hok h0,<- wK c hi,eX c i hnl h0,Nat.min_eq_left V];exact ⟨rfl,rfl⟩
def Te [Inhabited XO] {c:p9}(hs:G8 c)(hn:p9.ns c<=1000){g:Nat}(h:O c.j7<=g)(h2:g<p9.ns c)(hok:lP c g):dx c 150 (g - O c.j7) g:=by
 have hv:g - O c.j7<O c.views:=by grind [p9.ns]
 have p:=bt2 c (c.names.take g) (N4 c g) (g - O c.j7) hv (hs.on _ hv) (hs.wh _ hv) (hs.items _ hv) (hs.I6 _ hv) (λj hj=>hs.JC _ j hv hj) (λj hj=>hs.TG _ j hv hj) (by rw [aN];omega)
  (λk hk=>by
   rw [aN] at hk;have h1:=HU hs g k hk V hok;have h3:=dI hs g k hk V (jY hok V);rw [bA c hk];exact ⟨h1.2.1,by show O (TU c k)<=5000;omega,h1.1,by show O (T6 c k)<=5000;omega⟩) (λs hs' =>Pv c V s hs')
 grind [Y,Z0,KT,dx,XM,V0,Ws,tw,eX,Nat.min_eq_left]
def Wd [Inhabited XO] {c:p9}(hs:G8 c)  {g i:Nat}(hg:g=p9.ns c+i)(hi:i<O c.idxs)(hok:lP c g):dx c 151 i g:=by
 have hn:Y c.names g=(Y c.idxs i).name:=by
  rw [hg];exact bu c (p9.sn c) (c.J7.map mb.name++c.L0.map oF.name++c.M7.map oo.name++c.O0.map rA.name++c.Q3.map ru.name) c.idxs mg.name (by simp [p9.names,p9.sn]) (by simp [Z6]) hi
 have hnl:g<O c.names:=by rw [eF];omega
 have tP:∀k,k<O (N4 c (p9.ns c))->O (Y (N4 c (p9.ns c)) k).2.2<=100000:=λk hk=>by
  rw [aN] at hk;have h3:=dI hs (p9.ns c) k hk (k9 _) (jY (λm hm=>hok m V) (k9 _));rw [bA c hk];show O (T6 c k)<=100000
  omega
 have p:=bt3 c (c.names.take g) (N4 c (p9.ns c)) i hi tP
 grind [YV,dx,XM,eX,Nat.min_eq_right]
def Wf [Inhabited XO] {c:p9}(hs:G8 c)  {g i:Nat}(hg:g=p9.ns c+(O c.idxs)+i)(hi:i<O c.J7)(hok:lP c g):dx c 152 i g:=by
 have hn:Y c.names g=(Y c.J7 i).name:=by
  rw [hg];exact bu c (p9.sn c++c.idxs.map mg.name) (c.L0.map oF.name++c.M7.map oo.name++c.O0.map rA.name++c.Q3.map ru.name) c.J7 mb.name (by simp [p9.names,p9.sn]) (by simp [Z6]) hi
 have hnl:g<O c.names:=by rw [eF];omega
 have tP:∀k,k<O (N4 c (p9.ns c))->O (Y (N4 c (p9.ns c)) k).2.2<=100000:=λk hk=>by
  rw [aN] at hk;have h3:=dI hs (p9.ns c) k hk (k9 _) (jY (λm hm=>hok m V) (k9 _));rw [bA c hk];show O (T6 c k)<=100000
  omega
 have p:=bt4 c (c.names.take g) (N4 c (p9.ns c)) i hi tP
 grind [ZO,dx,XM,eX,Nat.min_eq_right]
def Wc [Inhabited XO] {c:p9}(hs:G8 c)  {g i:Nat}(hg:g=p9.ns c+(O c.idxs+O c.J7)+i)(hi:i<O c.L0)(hok:lP c g):dx c 153 i g:=by
 have hn:Y c.names g=(Y c.L0 i).name:=by
  rw [hg];exact bu c (p9.sn c++c.idxs.map mg.name++c.J7.map mb.name) (c.M7.map oo.name++c.O0.map rA.name++c.Q3.map ru.name) c.L0 oF.name (by simp [p9.names,p9.sn]) (by simp [Z6]) hi
 have hnl:g<O c.names:=by rw [eF];omega
 have tP:∀k,k<O (N4 c (p9.ns c))->O (Y (N4 c (p9.ns c)) k).2.2<=100000:=λk hk=>by
  rw [aN] at hk;have h3:=dI hs (p9.ns c) k hk (k9 _) (jY (λm hm=>hok m V) (k9 _));rw [bA c hk];show O (T6 c k)<=100000
  omega
 have p:=bt5 c (c.names.take g) (N4 c (p9.ns c)) i hi tP
 grind [Yn,dx,XM,eX,Nat.min_eq_right]
def We [Inhabited XO] {c:p9}(hs:G8 c)(XR:∀k,k<O c.views->(Y c.views k).kind≠1\/0<O (Y c.views k).I6){g i:Nat}(hg:g=p9.ns c+(O c.idxs+O c.J7+O c.L0)+i)(hi:i<O c.M7)(hok:lP c g):dx c 154 i g:=by
 have hn:Y c.names g=(Y c.M7 i).name:=by
  rw [hg];exact bu c (p9.sn c++c.idxs.map mg.name++c.J7.map mb.name++c.L0.map oF.name) (c.O0.map rA.name++c.Q3.map ru.name) c.M7 oo.name (by simp [p9.names,p9.sn]) (by simp [Z6,Nat.add_assoc]) hi
 have hnl:g<O c.names:=by rw [eF];omega
 have p:=bt6 c (c.names.take g) (N4 c (p9.ns c)) i hi hs.sm.iC.1 (by rw [aN];exact k9 _) hs.sm.iC.2.1 XR
 grind [ZJ,dx,XM,eX,Nat.min_eq_right]
def Wg [Inhabited XO] {c:p9}(hs:G8 c)  {g i:Nat}(hg:g=p9.ns c+(O c.idxs+O c.J7+O c.L0+O c.M7)+i)(hi:i<O c.O0)(hok:lP c g):dx c 155 i g:=by
 have hn:Y c.names g=(Y c.O0 i).name:=by
  rw [hg];exact bu c (p9.sn c++c.idxs.map mg.name++c.J7.map mb.name++c.L0.map oF.name++c.M7.map oo.name) (c.Q3.map ru.name) c.O0 rA.name (by rfl) (by simp [Z6,Nat.add_assoc]) hi
 have hnl:g<O c.names:=by rw [eF];omega
 have p:=bt7 c (c.names.take g) (N4 c (p9.ns c)) i hi hs.sm.iC.1
 grind [ZV,dx,XM,eX,Nat.min_eq_right]
def Wb [Inhabited XO] {c:p9}(hs:G8 c)  {g i:Nat}(hg:g=p9.ns c+(O c.idxs+O c.J7+O c.L0+O c.M7+O c.O0)+i)(hi:i<O c.Q3)(hok:lP c g):dx c 156 i g:=by
 have hn:Y c.names g=(Y c.Q3 i).name:=by
  rw [hg];exact bu c (p9.sn c++c.idxs.map mg.name++c.J7.map mb.name++c.L0.map oF.name++c.M7.map oo.name++c.O0.map rA.name) ([]) c.Q3 ru.name (by simp [p9.names,p9.sn]) (by simp [Z6,Nat.add_assoc]) hi
 have hnl:g<O c.names:=by rw [eF];omega
 have p:=bt8 c (c.names.take g) (N4 c (p9.ns c)) i hi hs.sm.iC.1 (hs.bk i hi)
 grind [aj7,dx,XM,eX,Nat.min_eq_right]
def Zd {c:p9}(h:tooMany c=F):p9.ns c<=20:=by
 simp only [tooMany,EN,A1,D5,decide_eq_false_iff_not] at h;unfold p9.ns;omega
def VF [Inhabited XO] (c:p9)(hs:G8 c):Pq A 101 [cat c] [xa,xo] R5 (Ab c c.names (N4 c (p9.ns c))):=by
 have hnl:=V0 c;refine bu3 c hs.sm.iC (XM c) ⟨rfl,rfl⟩ (λg ds ss ds' ss' h h' =>⟨h.1.trans h'.1.symm,h.2.trans h'.2.symm⟩) _ _ (λds ss h=>⟨by rw [h.1,List.take_length],by rw [h.2,Nat.min_eq_right hnl]⟩) ?_;rintro q i ds ss hq hi ON hok ⟨rfl,rfl⟩;have h20:=Zd ON
 match q,hq with
 |0,_ =>
  have hi' :i<O c.j7:=hi;have e:aV c 0+i=i:=by simp [aV]
  rw [e] at hok ⊢;exact Wh hs hi' hok
 |1,_ =>
  have hi' :i<O c.views:=hi;have e:aV c 1+i=O c.j7+i:=by simp [aV,cnt]
  rw [e] at hok ⊢;have:=Te hs V (g:=O c.j7+i) V (by unfold p9.ns;omega) hok;rw [Nat.add_sub_cancel_left] at this;exact this
 |2,_=>exact Wd hs (by simp [aV,cnt,p9.ns]) hi hok
 |3,_=>exact Wf hs (by simp [aV,cnt,p9.ns,Nat.add_assoc]) hi hok
 |4,_=>exact Wc hs (by simp [aV,cnt,p9.ns,Nat.add_assoc]) hi hok
 |5,_ =>
  refine We hs (λk hk=>?_) (by simp [aV,cnt,p9.ns,Nat.add_assoc]) hi hok;have hle:p9.ns c<=aV c 5+i:=by simp [aV,cnt,p9.ns];omega
  have h9:=iK (eC (hok (k+O c.j7) (by unfold p9.ns at hle;omega)) V (by unfold p9.ns;omega));have h10:Z0 c (k+O c.j7)=Y c.views k:=by unfold Z0;rw [Nat.add_sub_cancel]
  rw [h10] at h9;exact Fh h9.2.2.2
 |6,_=>exact Wg hs (by simp [aV,cnt,p9.ns,Nat.add_assoc]) hi hok
 |7,_=>exact Wb hs (by simp [aV,cnt,p9.ns,Nat.add_assoc]) hi hok
end Go.Proofs.YtibjocmpkoepoaaGreat


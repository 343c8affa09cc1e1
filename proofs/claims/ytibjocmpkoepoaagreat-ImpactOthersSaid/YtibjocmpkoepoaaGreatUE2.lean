import Derived.Test.YtibjocmpkoepoaaGreatUE0
set_option linter.all false
open Bool renaming and_eq_true→c9,eq_false_or_eq_true→B3,not_eq_false'→B5,not_eq_true'→o3,or_eq_false_iff→C7,true→W,false→F
open List renaming append_assoc→G8,getElem_of_mem→E9,length_append→k8,length_map→A1,take_length→I8,take_of_length_le→s4,length→O
open Nat renaming add_assoc→K1,le_refl→j9,lt_or_ge→y7
open Option renaming some→J,none→K
namespace Go.Proofs.YtibjocmpkoepoaaGreat
open Go.y9 Go.y9.S
def wD (c:o9)(prev:List (List G4))(k:Nat):List G4 :=
 if k<O c.j7 then (Y c.j7 k).o7.map P4.name
 else if x4 (Y c.views (k - O c.j7)).kind 2 then Y prev (E5 c (Y c.views (k - O c.j7)).left k).toNat
 else (aA (Y c.views (k - O c.j7))).map xS.name
def CY (c:o9):Nat->List (List G4)
 |0=>[]
 |k+1=>CY c k++[wD c (CY c k) k]
def Kh (c:o9)(k:Nat):List G4:=wD c (CY c k) k
theorem CZ (c:o9):∀k,O (CY c k)=k
 |0=>rfl
 |k+1=>by simp [CY,CZ c k]
theorem vR (c:o9):∀{k j:Nat},j<k->Y (CY c k) j=Kh c j
 |k+1,j,h=>by
  have hl:=CZ c k
  rcases y7 j k with h1|h1
  .rw [<- vR c h1,CY,D6 D,D6 V,List.getElem_append_left V]
  grind [CY,D6,List.getElem_append_right,Kh]
def kW (c:o9)(j:Nat):cU:=(Y (o9.sn c) j,Kh c j,O7 c j)
def J9 (c:o9)(k:Nat):List cU:=(List.range k).map (kW c)
def U9 (c:o9)(k:Nat):O (J9 c k)=k:=by simp [J9]
def X1 (c:o9){k j:Nat}(h:j<k):Y (J9 c k) j=kW c j:=by
 simp_all [D6,U9,J9]
def wH (c:o9)(k:Nat):J9 c (k+1)=J9 c k++[kW c k]:=by simp [J9,List.range_succ]
def gH (c:o9){k:Nat}(h:k<=o9.ns c):(J9 c k).map (·.1)=(o9.sn c).take k:=by
 apply List.ext_getElem
 all_goals grind [S7,J9,o9.sn,kW,D6]
def aC (c:o9){k:Nat}(h:k<=o9.ns c)(s:G4):F7 s ((J9 c k).map (·.1)) 0=E5 c s k:=by rw [gH c h];rfl
def qN (c:o9){g:Nat}(h:g<O c.j7):Y c.names g=(Y c.j7 g).name:=by
 rw [D6 (by grind [o9.names]),D6 h];simp_all [o9.names]
def ec (c:o9)(g:Nat)(s:G4)(h:Y c.names g=s)(e:Int)(he:M5 c g=(if !J3 (Y c.names g) then 3 else if (c.names.take g).any λy=>K3 y (Y c.names g) then 4 else e)) :
  M5 c g=if !x4 (N4 (c.names.take g) s) 0 then N4 (c.names.take g) s else e:=by
 unfold N4
 grind [x4,J3,K3]
theorem bQ (c:o9)(g:Nat)(hg:g<O c.names)(h:M5 c g=0):L8 (c.names.take g) (Y c.names g)=c.names.take (g+1):=by
 grind [uT,N4,Y,L8,E4,o6]
def Ht (c:o9){g:Nat}(h:g<=o9.ns c)(s:G4)(hs:((c.names.take g).any λy=>K3 y s)=F):(((J9 c g).map (·.1)).any λy=>K3 y s)=F:=by
 rw [gH c h];have h1:c.names=o9.sn c++(c.idxs.map gZ.name++c.G7.map gW.name++c.I5.map jK.name++c.J5.map jD.name++c.J6.map me.name++c.L4.map mc.name):=by simp [o9.names,o9.sn]
 grind [o9.sn,S7]
theorem Cz:∀(l:List G4) (i:Nat),(∀x,x∈l->x≠[])->F7 [] l i= -1
 |[],_,_=>rfl
 |x::l,i,h=>by
  have h1:K3 x []=F:=by simp [F3,h x (List.mem_cons_self)]
  simp [F7,h1,if_false];exact Cz l (i+1) λy hy=>h y (List.mem_cons_of_mem _ hy)
theorem OB {s:G4}(h:J3 s=W):s≠[]:=by
 grind [J3]
def Px (c:o9){g:Nat}(h:g<=o9.ns c):(o9.sn c).take g=c.names.take g:=by
 have h1:c.names=o9.sn c++(c.idxs.map gZ.name++c.G7.map gW.name++c.I5.map jK.name++c.J5.map jD.name++c.J6.map me.name++c.L4.map mc.name):=by simp [o9.names,o9.sn]
 simp_all [List.take_append_of_le_length,S7]
theorem KF {c:o9}{g:Nat}(hg:g<=o9.ns c)(hok:gR c g):E5 c [] g= -1:=by
 apply Cz;intro x hx;rw [Px c hg] at hx;obtain ⟨j,hj,rfl⟩:=E9 hx;have h1:j<g:=by grind
 have h2:=uT (hok j h1)
 grind [D6,B5,OB]
def DN (c:o9){g:Nat}(h:g<=O c.j7)(s:G4):cL c s g=E5 c s g:=by
 grind [cL,Nat.min_eq_left]
def uJ (c:o9){k:Nat}(h:k<O c.j7):O7 c k=(Y c.j7 k).o7.map P4.type:=by
 simp_all [O7,eP]
def OH {α β:Type} [Inhabited α] [Inhabited β] (f:α->β){l:List α}{i:Nat}(h:i<O l):Y (l.map f) i=f (Y l i):=by
 simp_all [D6]
def Kx (a b:Int):x4 a b=x4 b a:=by
 simp [o6]
 grind
def DB (t:cw)(x:P4):(!jr t x)=((!p9 x.bU 0 1||(x4 (O x.C6) 0&&(!x4 x.bU 0|| !x4 x.fZ 0)))||(!p9 x.fZ 0 1048576||(!x4 t.Z7 0&&D5 t.Z7 x.fZ))):=by
 have h1:x4 (O x.C6) 0= !D5 0 (O x.C6):=by
  simp [o6,y4]
  grind
 have h2:p9 x.bU 0 1=(x4 x.bU 0||x4 x.bU 1):=by
  simp [p9,x6,o6]
  grind
 have h3:D5 t.Z7 x.fZ= !T5 x.fZ t.Z7:=by
  simp [x6,y4]
  grind
 grind [jr,x4,D5,p9,T5]
def SC:∀(A f8 C ow wj d5 wd ret E:Bool),(if A=W then (3:Int) else if f8=W then 4 else if C=W then 5 else if (ow||((wj||d5)||(wd||ret)))=W then 1 else if E=W then 1 else 0)=(if A=W then (3:Int) else if f8=W then 4 else if C=W then 5 else if (ow||wj||d5)=W then 1 else if (wd||ret||E)=W then 1 else 0):=by decide
def SD:∀(A f8 C sp ow wj d5 wd ret E d7:Bool),(if A=W then (3:Int) else if f8=W then 4 else if C=W then 5 else if (sp||ow||((wj||d5)||(wd||ret)))=W then 1 else if E=W then 1 else if d7=W then 1 else 0)=(if A=W then (3:Int) else if f8=W then 4 else if C=W then 5 else if (sp||ow||wj||d5)=W then 1 else if (wd||ret||E)=W then 1 else if d7=W then 1 else 0):=by decide
set_option maxHeartbeats 4000000 in
def NG {c:o9}{g i:Nat}(hg:g<O c.j7)(hok:gR c g):mj c (J9 c g) (Y c.j7 g) i=U6 c g i:=by
 have aa:g<=o9.ns c:=by grind [o9.ns]
 unfold mj U6;rw [aC c aa,DN c V];generalize hx:Y (Y c.j7 g).o7 i=x;have hTO:=J2 c x.refs g;have hnil:K3 x.refs []=W->E5 c x.refs g= -1:=λh=>by grind [XC,KF]
 have nU:0<=E5 c x.refs g->Y (Y (J9 c g) (E5 c x.refs g).toNat).2.2 0=(Y (Y c.j7 (E5 c x.refs g).toNat).o7 0).type:=λh=>by
  have h1:(E5 c x.refs g).toNat<g:=V
  rw [X1 c h1];show Y (O7 c _) 0=_
  rw [uJ c V,OH _ (cg (S1 (hok _ h1) V)).1]
 generalize E5 c x.refs g=TO at *
 rcases B3 (K3 x.refs []) with hr|hr
 .have h1:=hnil hr
  have h2:T5 0 (-1)=F:=by simp [x6]
  rw [DB]
  grind
 .rcases B3 (T5 0 TO) with h0|h0
  .rw [nU (ej h0)]
   have h2:D5 TO 0=F:=by simp_all [ej,y4]
   rw [DB,Kx x.type (Y (Y c.j7 TO.toNat).o7 0).type];simp only [Bool.not_or,hasB]
   grind
  simp_all [D5,kI,y4,Bool.not_false,Bool.and_self,if_true]
theorem BV {c:o9}{g:Nat}(hg:g<O c.j7)(hok:gR c g):∀k i,yf c (J9 c g) (Y c.j7 g) k i=br c g k i
 |0,_=>rfl
 |k+1,i=>by
  rw [yf,br,NG hg hok,BV hg hok k (i+1)]
def Js (t:cw):kX t=(!p9 (O t.o7) 1 8|| !p9 t.erase 0 1|| !p9 t.Z7 0 1048576):=by
 have h2:p9 t.erase 0 1=(x4 t.erase 0||x4 t.erase 1):=by
  simp [p9,x6,o6]
  grind
 simp_all [kX,Bool.not_or]
def Hu {c:o9}{g:Nat}(hg:g<O c.j7)(hok:gR c g):rC c (J9 c g) (c.names.take g) (Y c.j7 g)=M5 c g:=by
 have he:=ec c g (Y c.j7 g).name (qN c hg) (bF c g) (by simp_all [M5]);simp_all [rC,bF,Js,BV]
def PF {c:o9}{g:Nat}(hg:g<O c.j7)(hok:gR c g)(h0:M5 c g=0):DM c (J9 c g) (c.names.take g) (Y c.j7 g)=J9 c (g+1):=by
 unfold DM;rw [Hu hg hok,h0,wH];have h1:kW c g=((Y c.j7 g).name,(Y c.j7 g).o7.map P4.name,(Y c.j7 g).o7.map P4.type):=by
  unfold kW;rw [uJ c hg,<- vQ c (by grind [o9.ns]),qN c hg];simp_all [Kh,wD,if_pos]
 simp_all [o6]
def AZ (c:o9)(s:G4)(col:Int):iO (J9 c (o9.ns c)) s col=iN c s col:=by
 unfold iO iN;rw [aC c (j9 _)];have hb:=J2 c s (o9.ns c)
 rcases B3 (D5 (E5 c s (o9.ns c)) 0) with h|h
 .simp_all
 .have h1:=B8 h
  rw [X1 c V];rfl
def CC (c:o9)(s:G4):(!jj c (J9 c (o9.ns c)) s)=D5 (cL c s (O c.j7)) 0:=by
 unfold jj;rw [aC c (j9 _),DN c (j9 _)];unfold E5;have h0:(o9.sn c).take (o9.ns c)=o9.sn c:=s4 (by rw [S7];omega);have h1:∀(l:List G4) (k i:Nat),(F7 s (l.take k) i= -1/\(F7 s l i= -1\/((i:Int)+k<=F7 s l i/\k<=O l)))\/(F7 s (l.take k) i=F7 s l i/\(i:Int)<=F7 s l i/\F7 s l i<i+k):=by
  intro l
  induction l with
  |nil=>simp_all [F7]
  |cons x l ih =>
   intro k i;cases k with
   |zero =>
    grind [dG]
   |succ k =>
    simp [List.take_succ_cons,F7]
    all_goals grind
 rcases h1 (o9.sn c) (O c.j7) 0 with h|h
 .have e1:D5 (F7 s ((o9.sn c).take (O c.j7)) 0) 0=W:=by simp_all [y4,decide_eq_true_eq]
  grind [p9,F7,o9.sn,x6,Bool.and_eq_false_iff,decide_eq_false_iff_not]
 .have e1:D5 (F7 s ((o9.sn c).take (O c.j7)) 0) 0=F:=by simp_all [y4,decide_eq_false_iff_not]
  have e2:p9 (F7 s (o9.sn c) 0) 0 (O c.j7 - 1)=W:=by simp [p9,x6,c9,decide_eq_true_eq];omega
  simp_all
theorem JT (c:o9):∀seen l,PU c (J9 c (o9.ns c)) seen l=PT c seen l
 |_,[]=>rfl
 |seen,t::r=>by
  rw [PU,PT,CC,JT c (seen++[t]) r]
def W7 (c:o9){g i:Nat}{α:Type} [Inhabited α] (l1 l3:List G4)(l2:List α)(f:α->G4)(h:c.names=l1++l2.map f++l3)(hl:O l1=g)(hi:i<O l2):Y c.names (g+i)=f (Y l2 i):=by
 grind [G8,D6,List.getElem_append_right,Nat.add_sub_cancel_left,List.getElem_append_left]
def iB {c:o9}{g:Nat}(h:o9.ns c<=g):M5 c g=(if !J3 (Y c.names g) then 3 else if (c.names.take g).any λy=>K3 y (Y c.names g) then 4 else S2 c (g - o9.ns c)):=by
 grind [o9.ns,M5]
theorem On {c:o9}{g i:Nat}(hg:g=o9.ns c+i)(hi:i<O c.idxs):Cw (J9 c (o9.ns c)) (c.names.take g) (Y c.idxs i)=M5 c g:=by
 have hn:Y c.names g=(Y c.idxs i).name:=by
  rw [hg];exact W7 c (o9.sn c) (c.G7.map gW.name++c.I5.map jK.name++c.J5.map jD.name++c.J6.map me.name++c.L4.map mc.name) c.idxs gZ.name (by simp [o9.names,o9.sn]) (S7 c) hi
 have he:=ec c g _ hn (S2 c (g - o9.ns c)) (iB V);rw [he];have e1:S2 c (g - o9.ns c)=Iy c (Y c.idxs i):=by
  simp_all [Nat.add_sub_cancel_left,S2,if_pos]
 rw [e1];unfold Cw Iy;rw [AZ]
 grind [x4,iN,Y]
theorem NC {c:o9}{g i:Nat}(hg:g=o9.ns c+(O c.idxs+O c.G7)+i)(hi:i<O c.I5):BK (J9 c (o9.ns c)) (c.names.take g) (Y c.I5 i)=M5 c g:=by
 have hn:Y c.names g=(Y c.I5 i).name:=by
  rw [hg];exact W7 c (o9.sn c++c.idxs.map gZ.name++c.G7.map gW.name) (c.J5.map jD.name++c.J6.map me.name++c.L4.map mc.name) c.I5 jK.name (by simp [o9.names,o9.sn]) (by simp [S7]) hi
 have he:=ec c g _ hn (S2 c (g - o9.ns c)) (iB V);rw [he];have e1:S2 c (g - o9.ns c)=HN c (Y c.I5 i):=by
  have hm:g - o9.ns c=O c.idxs+O c.G7+i:=V
  unfold S2
  grind
 rw [e1];unfold BK HN;rw [AZ]
 grind [x4,iN,Y]
theorem PD {c:o9}{g i:Nat}(hg:g=o9.ns c+(O c.idxs+O c.G7+O c.I5+O c.J5)+i)(hi:i<O c.J6):FL c (J9 c (o9.ns c)) (c.names.take g) (Y c.J6 i)=M5 c g:=by
 have hn:Y c.names g=(Y c.J6 i).name:=by
  rw [hg];exact W7 c (o9.sn c++c.idxs.map gZ.name++c.G7.map gW.name++c.I5.map jK.name++c.J5.map jD.name) (c.L4.map mc.name) c.J6 me.name (by rfl) (by simp [S7,K1]) hi
 have he:=ec c g _ hn (S2 c (g - o9.ns c)) (iB V);have e1:S2 c (g - o9.ns c)=Jr c (Y c.J6 i):=by
  have hm:g - o9.ns c=(O c.idxs+O c.G7+O c.I5+O c.J5)+i:=V
  unfold S2
  grind
 simp_all [FL,Jr,CC]
theorem Ru {c:o9}{g i:Nat}(hg:g=o9.ns c+(O c.idxs+O c.G7+O c.I5+O c.J5+O c.J6)+i)(hi:i<O c.L4):PW c (J9 c (o9.ns c)) (c.names.take g) (Y c.L4 i)=M5 c g:=by
 have hn:Y c.names g=(Y c.L4 i).name:=by
  rw [hg];exact W7 c (o9.sn c++c.idxs.map gZ.name++c.G7.map gW.name++c.I5.map jK.name++c.J5.map jD.name++c.J6.map me.name) ([]) c.L4 mc.name (by simp [o9.names,o9.sn]) (by simp [S7,K1]) hi
 have he:=ec c g _ hn (S2 c (g - o9.ns c)) (iB V);have e1:S2 c (g - o9.ns c)=BB c (Y c.L4 i):=by
  have hm:g - o9.ns c=(O c.idxs+O c.G7+O c.I5+O c.J5+O c.J6)+i:=V
  unfold S2
  grind
 simp_all [PW,BB,JT]
theorem Pw {c:o9}{g i:Nat}(hg:g=o9.ns c+(O c.idxs)+i)(hi:i<O c.G7):wu (J9 c (o9.ns c)) (c.names.take g) (Y c.G7 i)=M5 c g:=by
 have hn:Y c.names g=(Y c.G7 i).name:=by
  rw [hg];exact W7 c (o9.sn c++c.idxs.map gZ.name) (c.I5.map jK.name++c.J5.map jD.name++c.J6.map me.name++c.L4.map mc.name) c.G7 gW.name (by simp [o9.names,o9.sn]) (by simp [S7]) hi
 have he:=ec c g _ hn (S2 c (g - o9.ns c)) (iB V);rw [he];have e1:S2 c (g - o9.ns c)=xP c (Y c.G7 i):=by
  have hm:g - o9.ns c=(O c.idxs)+i:=V
  unfold S2
  grind
 rw [e1];unfold wu xP AX;rw [AZ];generalize Y c.G7 i=x;have h2:p9 x.kind 0 2=(x4 x.kind 0||x4 x.kind 1||x4 x.kind 2):=by
  simp [p9,x6,o6]
  grind
 grind
theorem Po {c:o9}{g i:Nat}(hg:g=o9.ns c+(O c.idxs+O c.G7+O c.I5)+i)(hi:i<O c.J5):Dz c (J9 c (o9.ns c)) (c.names.take g) (Y c.J5 i)=M5 c g:=by
 have hn:Y c.names g=(Y c.J5 i).name:=by
  rw [hg];exact W7 c (o9.sn c++c.idxs.map gZ.name++c.G7.map gW.name++c.I5.map jK.name) (c.J6.map me.name++c.L4.map mc.name) c.J5 jD.name (by simp [o9.names,o9.sn]) (by simp [S7,K1]) hi
 have he:=ec c g _ hn (S2 c (g - o9.ns c)) (iB V);rw [he];have e1:S2 c (g - o9.ns c)=Dy c (Y c.J5 i):=by
  have hm:g - o9.ns c=(O c.idxs+O c.G7+O c.I5)+i:=V
  unfold S2
  grind
 rw [e1];unfold Dz Dy Um;rw [aC c (j9 _)]
 grind [D5,E5,Y,o9.ns]
def wU (k:Int):p9 k 0 2=(x4 k 0||x4 k 1||x4 k 2):=by
 simp [p9,x6,o6]
 grind
def My {v:Vw}(h:p9 v.kind 0 2=W):gT v=Y6 v:=by
 have h1:D5 0 (O v.on)= !x4 (O v.on) 0:=by
  simp [o6,y4]
  grind
 have h2:D5 8 (O v.on)= !T5 (O v.on) 8:=by
  simp [x6,y4]
  grind
 rw [wU] at h;unfold gT Y6 gU;have hx:x4 v.kind 0=W->x4 v.kind 1=F/\x4 v.kind 2=F:=λh=>by
  simp_all [W6,o6]
 have hy:x4 v.kind 1=W->x4 v.kind 2=F:=λh=>by
  simp_all [W6,o6]
 grind
def Qx {c:o9}{g:Nat}(hg:g<=o9.ns c)(h:0<=E5 c (T1 c g).left g):(Y1 (J9 c g) (T1 c g).left).2.2=lT c g:=by
 have hb:=J2 c (T1 c g).left g;unfold Y1 lT;rw [aC c hg,X1 c V,R6 c V];rfl
def QV {c:o9}{g:Nat}(hg:g<=o9.ns c)(h:K3 (T1 c g).right []=F->0<=E5 c (T1 c g).right g):(Bn (J9 c g) (T1 c g)).2.2=rT c g:=by
 have hb:=J2 c (T1 c g).right g;unfold Bn rT Y1
 rcases B3 (K3 (T1 c g).right []) with hr|hr
 .rw [hr];rfl
 .have:=h hr
  rw [hr,if_neg U,if_neg U,aC c hg,X1 c V,R6 c V];rfl
theorem nG (c:o9){g:Nat}(h:O c.j7<=g)(h2:g<o9.ns c):Y c.names g=(T1 c g).name:=by
 have hv:g - O c.j7<O c.views:=by grind [o9.ns]
 have:=W7 c (i:=g - O c.j7) (c.j7.map cw.name) (c.idxs.map gZ.name++c.G7.map gW.name++c.I5.map jK.name++c.J5.map jD.name++c.J6.map me.name++c.L4.map mc.name) c.views Vw.name (by simp [o9.names]) (g:=O c.j7) U hv;rw [show O c.j7+(g - O c.j7)=g by omega] at this;exact this
theorem Eb {c:o9}{g:Nat}(h:O c.j7<=g)(h2:g<o9.ns c):cq (J9 c g) (c.names.take g) (T1 c g)=M5 c g:=by
 have hg:g<=o9.ns c:=V
 have he:=ec c g _ (nG c h h2) (S4 c g) (by
  grind [M5])
 rw [he];unfold cq S4;rw [wU,aC c hg,aC c hg];simp only [Bool.not_or]
 rcases B3 (!x4 (T1 c g).kind 0&& !x4 (T1 c g).kind 1&& !x4 (T1 c g).kind 2) with k1|k1
 .simp_all
 .rcases B3 (D5 (E5 c (T1 c g).left g) 0||(!K3 (T1 c g).right []&&D5 (E5 c (T1 c g).right g) 0)) with k2|k2
  .simp_all
  .have k2' :=k2
   simp [C7] at k2';have f1:=B8 k2'.1;have f2:K3 (T1 c g).right []=F->0<=E5 c (T1 c g).right g:=λh=>by
    simp_all [Bool.not_false,Bool.true_and,B8]
   have hk:p9 (T1 c g).kind 0 2=W:=by
    rw [wU]
    grind
   rw [My hk,Qx hg f1,QV hg f2];rfl
theorem MU {c:o9}{g:Nat}(h:O c.j7<=g)(h2:g<o9.ns c)(h0:M5 c g=0):mP (J9 c g) (c.names.take g) (T1 c g)=J9 c (g+1):=by
 have hg:g<=o9.ns c:=V
 have hs:=eC (bz h0 h h2);have hb:=J2 c (T1 c g).left g;have h00:x4 0 0=W:=by simp [o6]
 have hn:Y (o9.sn c) g=(T1 c g).name:=by rw [<- vQ c h2,nG c h h2]
 have hnt:¬ g<O c.j7:=V
 unfold mP;rw [Eb h h2,h0,h00,if_pos rfl,wH]
 rcases B3 (x4 (T1 c g).kind 2) with hk|hk
 .have e1:kW c g=((T1 c g).name,(Y1 (J9 c g) (T1 c g).left).2.1,(Y1 (J9 c g) (T1 c g).left).2.2):=by
   have hk' :x4 (Y c.views (g - O c.j7)).kind 2=W:=hk;have hb' :=J2 c (Y c.views (g - O c.j7)).left g;unfold kW Y1;rw [hn,aC c hg,X1 c V];unfold O7 Kh eP wD;rw [if_neg hnt,if_neg hnt,hk',if_pos rfl,if_pos rfl,R6 c V,vR c V];rfl
  simp_all
 .have e1:kW c g=((T1 c g).name,(aA (T1 c g)).map xS.name,W1 (T1 c g) ((Y1 (J9 c g) (T1 c g).left).2.2++(Bn (J9 c g) (T1 c g)).2.2)):=by
   have hk' :x4 (Y c.views (g - O c.j7)).kind 2=F:=hk;rw [Qx hg hs.2.1,QV hg hs.2.2.1];unfold kW;rw [hn];unfold O7 Kh eP wD;rw [if_neg hnt,if_neg hnt,hk',if_neg U,if_neg U];rfl
  simp_all
def Jj {v:Vw}(hk:p9 v.kind 0 2=W)(h:Y6 v=W)(h2:x4 v.kind 2=F):0<O v.items+O v.F6:=by
 unfold Y6 at h;rw [h2,if_neg U] at h
 rcases B3 (x4 v.kind 0) with h0|h0
 .rw [h0,if_pos rfl] at h
  simp only [c9,o3,C7] at h;have:=jF h.1.1;omega
 .rw [h0,if_neg U] at h
  simp only [c9,o3,C7] at h;have:=jF h.1.1;omega
theorem Bb {c:o9}(hs:E7 c):∀(n k:Nat),k<n->n<=o9.ns c->gR c n->0<O (O7 c k)/\0<O (Kh c k)/\O (Kh c k)<=2000
 |0,k,h,_,_=>absurd h V
 |n+1,k,h,hn,ho=>by
  rcases y7 k n with h1|h1
  .exact Bb hs n k h1 V (λm hm=>ho m V)
  obtain rfl:k=n:=V
  rcases y7 k (O c.j7) with h2|h2
  .have h3:=hs.sm.o7 k h2
   have h4:=(cg (S1 (ho k V) h2)).1;unfold O7 Kh eP wD;rw [if_pos h2,if_pos h2];simp;omega
  .have h3:¬ k<O c.j7:=V
   have hv:k - O c.j7<O c.views:=by unfold o9.ns at hn;omega
   have Su:=eC (bz (ho k V) h2 V);unfold T1 at Su;unfold O7 Kh eP wD;rw [if_neg h3,if_neg h3]
   rcases B3 (x4 (Y c.views (k - O c.j7)).kind 2) with hk|hk
   .have hb:=J2 c (Y c.views (k - O c.j7)).left k
    have f1:=Su.2.1;rw [hk,if_pos rfl,if_pos rfl,R6 c V,vR c V];exact Bb hs k _ V V (λm hm=>ho m V)
   .have h5:=Jj Su.1 Su.2.2.2 hk
    have h6:=hs.items _ hv;have h7:=hs.F6 _ hv;rw [hk,if_neg U,if_neg U,A1,iA];simp only [W1,k8,A1];omega
def Nf (c:o9)(g:Nat)(ds:List G4)(ss:List cU):Prop:=ds=c.names.take g/\ss=J9 c (min g (o9.ns c))
def aF [Inhabited XO] (c:o9)(f:FuncId)(i g:Nat):Prop:=∃dz sz,(M5 c g=0->Nf c (g+1) dz sz)/\Pm A f [.ptr 5 0,.d (Z i)] (HH c (c.names.take g) (J9 c (min g (o9.ns c)))) lW (.d (Z (M5 c g))) (HH c dz sz)
def MK [Inhabited XO] {c:o9}(hs:E7 c){i:Nat}(hi:i<O c.j7)(hok:gR c i):aF c 149 i i:=by
 have aa:i<o9.ns c:=by unfold o9.ns;omega
 have hf:=hs.sm.eD.1;have hm:min i (o9.ns c)=i:=V
 have p:=ar6 c (c.names.take i) (J9 c i) i hi (hs.sm.o7 i hi) (λj hj=>hs.sm.C6 i j hi hj) (by rw [U9];omega) (by rw [U9];omega) V
  (λk hk=>by
   rw [U9] at hk;have h1:=(cg (S1 (hok k hk) V)).1;rw [X1 c hk];refine ⟨?_,h1⟩;show 0<O (O7 c k)
   rw [uJ c V];simpa using h1) (λs hs' =>Ht c V s hs')
 rw [Hu hi hok] at p;unfold aF;rw [hm];refine ⟨_,_,λh0=>?_,p⟩;unfold Nf;have hnl:i<O c.names:=by have:=Q1 c;omega
 rw [PF hi hok h0,<- qN c hi,bQ c i hnl h0,Nat.min_eq_left V];exact ⟨rfl,rfl⟩
def Jq [Inhabited XO] {c:o9}(hs:E7 c)(hn:o9.ns c<=1000){g:Nat}(h:O c.j7<=g)(h2:g<o9.ns c)(hok:gR c g):aF c 150 (g - O c.j7) g:=by
 have hv:g - O c.j7<O c.views:=by grind [o9.ns]
 have p:=ar7 c (c.names.take g) (J9 c g) (g - O c.j7) hv (hs.on _ hv) (hs.wh _ hv) (hs.items _ hv) (hs.F6 _ hv) (λj hj=>hs.CD _ j hv hj) (λj hj=>hs.JS _ j hv hj) (by rw [U9];omega)
  (λk hk=>by
   rw [U9] at hk;have h1:=Bb hs g k hk V hok;have h3:=aN hs g k hk V (fS hok V);rw [X1 c hk];exact ⟨h1.2.1,by show O (Kh c k)<=5000;omega,h1.1,by show O (O7 c k)<=5000;omega⟩) (λs hs' =>Ht c V s hs')
 grind [Y,T1,Eb,aF,Nf,Q1,MU,nG,bQ,Nat.min_eq_left]
def MG [Inhabited XO] {c:o9}(hs:E7 c)  {g i:Nat}(hg:g=o9.ns c+i)(hi:i<O c.idxs)(hok:gR c g):aF c 151 i g:=by
 have hn:Y c.names g=(Y c.idxs i).name:=by
  rw [hg];exact W7 c (o9.sn c) (c.G7.map gW.name++c.I5.map jK.name++c.J5.map jD.name++c.J6.map me.name++c.L4.map mc.name) c.idxs gZ.name (by simp [o9.names,o9.sn]) (by simp [S7]) hi
 have hnl:g<O c.names:=by rw [bB];omega
 have nU:∀k,k<O (J9 c (o9.ns c))->O (Y (J9 c (o9.ns c)) k).2.2<=100000:=λk hk=>by
  rw [U9] at hk;have h3:=aN hs (o9.ns c) k hk (j9 _) (fS (λm hm=>hok m V) (j9 _));rw [X1 c hk];show O (O7 c k)<=100000
  omega
 have p:=ar8 c (c.names.take g) (J9 c (o9.ns c)) i hi nU
 grind [On,aF,Nf,bQ,Nat.min_eq_right]
def MI [Inhabited XO] {c:o9}(hs:E7 c)  {g i:Nat}(hg:g=o9.ns c+(O c.idxs)+i)(hi:i<O c.G7)(hok:gR c g):aF c 152 i g:=by
 have hn:Y c.names g=(Y c.G7 i).name:=by
  rw [hg];exact W7 c (o9.sn c++c.idxs.map gZ.name) (c.I5.map jK.name++c.J5.map jD.name++c.J6.map me.name++c.L4.map mc.name) c.G7 gW.name (by simp [o9.names,o9.sn]) (by simp [S7]) hi
 have hnl:g<O c.names:=by rw [bB];omega
 have nU:∀k,k<O (J9 c (o9.ns c))->O (Y (J9 c (o9.ns c)) k).2.2<=100000:=λk hk=>by
  rw [U9] at hk;have h3:=aN hs (o9.ns c) k hk (j9 _) (fS (λm hm=>hok m V) (j9 _));rw [X1 c hk];show O (O7 c k)<=100000
  omega
 have p:=ar9 c (c.names.take g) (J9 c (o9.ns c)) i hi nU
 grind [Pw,aF,Nf,bQ,Nat.min_eq_right]
def MF [Inhabited XO] {c:o9}(hs:E7 c)  {g i:Nat}(hg:g=o9.ns c+(O c.idxs+O c.G7)+i)(hi:i<O c.I5)(hok:gR c g):aF c 153 i g:=by
 have hn:Y c.names g=(Y c.I5 i).name:=by
  rw [hg];exact W7 c (o9.sn c++c.idxs.map gZ.name++c.G7.map gW.name) (c.J5.map jD.name++c.J6.map me.name++c.L4.map mc.name) c.I5 jK.name (by simp [o9.names,o9.sn]) (by simp [S7]) hi
 have hnl:g<O c.names:=by rw [bB];omega
 have nU:∀k,k<O (J9 c (o9.ns c))->O (Y (J9 c (o9.ns c)) k).2.2<=100000:=λk hk=>by
  rw [U9] at hk;have h3:=aN hs (o9.ns c) k hk (j9 _) (fS (λm hm=>hok m V) (j9 _));rw [X1 c hk];show O (O7 c k)<=100000
  omega
 have p:=as0 c (c.names.take g) (J9 c (o9.ns c)) i hi nU
 grind [NC,aF,Nf,bQ,Nat.min_eq_right]
def MH [Inhabited XO] {c:o9}(hs:E7 c)(Ni:∀k,k<O c.views->(Y c.views k).kind≠1\/0<O (Y c.views k).F6){g i:Nat}(hg:g=o9.ns c+(O c.idxs+O c.G7+O c.I5)+i)(hi:i<O c.J5)(hok:gR c g):aF c 154 i g:=by
 have hn:Y c.names g=(Y c.J5 i).name:=by
  rw [hg];exact W7 c (o9.sn c++c.idxs.map gZ.name++c.G7.map gW.name++c.I5.map jK.name) (c.J6.map me.name++c.L4.map mc.name) c.J5 jD.name (by simp [o9.names,o9.sn]) (by simp [S7,K1]) hi
 have hnl:g<O c.names:=by rw [bB];omega
 have p:=as1 c (c.names.take g) (J9 c (o9.ns c)) i hi hs.sm.eD.1 (by rw [U9];exact j9 _) hs.sm.eD.2.1 Ni
 grind [Po,aF,Nf,bQ,Nat.min_eq_right]
def MJ [Inhabited XO] {c:o9}(hs:E7 c)  {g i:Nat}(hg:g=o9.ns c+(O c.idxs+O c.G7+O c.I5+O c.J5)+i)(hi:i<O c.J6)(hok:gR c g):aF c 155 i g:=by
 have hn:Y c.names g=(Y c.J6 i).name:=by
  rw [hg];exact W7 c (o9.sn c++c.idxs.map gZ.name++c.G7.map gW.name++c.I5.map jK.name++c.J5.map jD.name) (c.L4.map mc.name) c.J6 me.name (by rfl) (by simp [S7,K1]) hi
 have hnl:g<O c.names:=by rw [bB];omega
 have p:=as2 c (c.names.take g) (J9 c (o9.ns c)) i hi hs.sm.eD.1
 grind [PD,aF,Nf,bQ,Nat.min_eq_right]
def ME [Inhabited XO] {c:o9}(hs:E7 c)  {g i:Nat}(hg:g=o9.ns c+(O c.idxs+O c.G7+O c.I5+O c.J5+O c.J6)+i)(hi:i<O c.L4)(hok:gR c g):aF c 156 i g:=by
 have hn:Y c.names g=(Y c.L4 i).name:=by
  rw [hg];exact W7 c (o9.sn c++c.idxs.map gZ.name++c.G7.map gW.name++c.I5.map jK.name++c.J5.map jD.name++c.J6.map me.name) ([]) c.L4 mc.name (by simp [o9.names,o9.sn]) (by simp [S7,K1]) hi
 have hnl:g<O c.names:=by rw [bB];omega
 have p:=as3 c (c.names.take g) (J9 c (o9.ns c)) i hi hs.sm.eD.1 (hs.bk i hi)
 grind [Ru,aF,Nf,bQ,Nat.min_eq_right]
def Oy {c:o9}(h:tooMany c=F):o9.ns c<=20:=by
 simp only [tooMany,yV,y4,C7,decide_eq_false_iff_not] at h;unfold o9.ns;omega
def Mg [Inhabited XO] (c:o9)(hs:E7 c):Pq A 101 [cat c] [xa,xo] N6 (tR c c.names (J9 c (o9.ns c))):=by
 have hnl:=Q1 c;refine at1 c hs.sm.eD (Nf c) ⟨rfl,rfl⟩ (λg ds ss ds' ss' h h' =>⟨h.1.trans h'.1.symm,h.2.trans h'.2.symm⟩) _ _ (λds ss h=>⟨by rw [h.1,I8],by rw [h.2,Nat.min_eq_right hnl]⟩) ?_;rintro q i ds ss hq hi GJ hok ⟨rfl,rfl⟩;have h20:=Oy GJ
 match q,hq with
 |0,_ =>
  have hi' :i<O c.j7:=hi;have e:V5 c 0+i=i:=by simp [V5]
  rw [e] at hok ⊢;exact MK hs hi' hok
 |1,_ =>
  have hi' :i<O c.views:=hi;have e:V5 c 1+i=O c.j7+i:=by simp [V5,cnt]
  rw [e] at hok ⊢;have:=Jq hs V (g:=O c.j7+i) V (by unfold o9.ns;omega) hok;rw [Nat.add_sub_cancel_left] at this;exact this
 |2,_=>exact MG hs (by simp [V5,cnt,o9.ns]) hi hok
 |3,_=>exact MI hs (by simp [V5,cnt,o9.ns,K1]) hi hok
 |4,_=>exact MF hs (by simp [V5,cnt,o9.ns,K1]) hi hok
 |5,_ =>
  refine MH hs (λk hk=>?_) (by simp [V5,cnt,o9.ns,K1]) hi hok;have hle:o9.ns c<=V5 c 5+i:=by simp [V5,cnt,o9.ns];omega
  have h9:=eC (bz (hok (k+O c.j7) (by unfold o9.ns at hle;omega)) V (by unfold o9.ns;omega));have RO:T1 c (k+O c.j7)=Y c.views k:=by unfold T1;rw [Nat.add_sub_cancel]
  rw [RO] at h9;exact zw h9.2.2.2
 |6,_=>exact MJ hs (by simp [V5,cnt,o9.ns,K1]) hi hok
 |7,_=>exact ME hs (by simp [V5,cnt,o9.ns,K1]) hi hok
end Go.Proofs.YtibjocmpkoepoaaGreat


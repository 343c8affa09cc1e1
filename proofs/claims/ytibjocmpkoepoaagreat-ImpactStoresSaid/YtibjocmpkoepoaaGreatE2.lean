import Derived.Test.YtibjocmpkoepoaaGreatE0
set_option linter.all false
open Bool renaming and_eq_true→c9,eq_false_or_eq_true→B6,not_eq_false'→B7,not_eq_true'→o9,or_eq_false_iff→B2,true→W,false→F
open List renaming append_assoc→F5,getElem_of_mem→E0,length_append→j9,length_map→A3,take_length→D3,take_of_length_le→s9,length→O
open Nat renaming add_assoc→M6,le_refl→k9,lt_or_ge→y8
open Option renaming some→J,none→K
namespace Go.Proofs.YtibjocmpkoepoaaGreat
open Go.z6 Go.z6.S
def xA (c:p7)(prev:List (List I4))(k:Nat):List I4 :=
 if k<O c.j7 then (Y c.j7 k).o4.map Q1.name
 else if s7 (Y c.views (k - O c.j7)).kind 2 then Y prev (F0 c (Y c.views (k - O c.j7)).left k).toNat
 else (aM (Y c.views (k - O c.j7))).map yV.name
def DQ (c:p7):Nat->List (List I4)
 |0=>[]
 |k+1=>DQ c k++[xA c (DQ c k) k]
def Lr (c:p7)(k:Nat):List I4:=xA c (DQ c k) k
theorem DS (c:p7):∀k,O (DQ c k)=k
 |0=>rfl
 |k+1=>by simp [DQ,DS c k]
theorem wS (c:p7):∀{k j:Nat},j<k->Y (DQ c k) j=Lr c j
 |k+1,j,h=>by
  have hl:=DS c k
  rcases y8 j k with h1|h1
  .rw [<- wS c h1,DQ,A7 D,A7 V,List.getElem_append_left V]
  grind [DQ,A7,List.getElem_append_right,Lr]
def mq (c:p7)(j:Nat):dB:=(Y (p7.sn c) j,Lr c j,M3 c j)
def K8 (c:p7)(k:Nat):List dB:=(List.range k).map (mq c)
def W1 (c:p7)(k:Nat):O (K8 c k)=k:=by simp [K8]
def Y7 (c:p7){k j:Nat}(h:j<k):Y (K8 c k) j=mq c j:=by
 simp_all [A7,W1,K8]
def xE (c:p7)(k:Nat):K8 c (k+1)=K8 c k++[mq c k]:=by simp [K8,List.range_succ]
def mz (c:p7){k:Nat}(h:k<=p7.ns c):(K8 c k).map (·.1)=(p7.sn c).take k:=by
 apply List.ext_getElem
 all_goals grind [S3,K8,p7.sn,mq,A7]
def aN (c:p7){k:Nat}(h:k<=p7.ns c)(s:I4):I5 s ((K8 c k).map (·.1)) 0=F0 c s k:=by rw [mz c h];rfl
def rV (c:p7){g:Nat}(h:g<O c.j7):Y c.names g=(Y c.j7 g).name:=by
 rw [A7 (by grind [p7.names]),A7 h];simp_all [p7.names]
def eG (c:p7)(g:Nat)(s:I4)(h:Y c.names g=s)(e:Int)(he:M9 c g=(if !K1 (Y c.names g) then 3 else if (c.names.take g).any λy=>K7 y (Y c.names g) then 4 else e)) :
  M9 c g=if !s7 (N7 (c.names.take g) s) 0 then N7 (c.names.take g) s else e:=by
 unfold N7
 grind [s7,K1,K7]
theorem cm (c:p7)(g:Nat)(hg:g<O c.names)(h:M9 c g=0):M1 (c.names.take g) (Y c.names g)=c.names.take (g+1):=by
 grind [oB,N7,Y,M1,D2,o6]
def IB (c:p7){g:Nat}(h:g<=p7.ns c)(s:I4)(hs:((c.names.take g).any λy=>K7 y s)=F):(((K8 c g).map (·.1)).any λy=>K7 y s)=F:=by
 rw [mz c h];have h1:c.names=p7.sn c++(c.idxs.map iL.name++c.F4.map iI.name++c.H8.map kG.name++c.J5.map kA.name++c.J9.map nr.name++c.K6.map nq.name):=by simp [p7.names,p7.sn]
 grind [p7.sn,S3]
theorem Du:∀(l:List I4) (i:Nat),(∀x,x∈l->x≠[])->I5 [] l i= -1
 |[],_,_=>rfl
 |x::l,i,h=>by
  have h1:K7 x []=F:=by simp [E2,h x (List.mem_cons_self)]
  simp [I5,h1,if_false];exact Du l (i+1) λy hy=>h y (List.mem_cons_of_mem _ hy)
theorem Qk {s:I4}(h:K1 s=W):s≠[]:=by
 grind [K1]
def Iz (c:p7){g:Nat}(h:g<=p7.ns c):(p7.sn c).take g=c.names.take g:=by
 have h1:c.names=p7.sn c++(c.idxs.map iL.name++c.F4.map iI.name++c.H8.map kG.name++c.J5.map kA.name++c.J9.map nr.name++c.K6.map nq.name):=by simp [p7.names,p7.sn]
 simp_all [List.take_append_of_le_length,S3]
theorem LS {c:p7}{g:Nat}(hg:g<=p7.ns c)(hok:iD c g):F0 c [] g= -1:=by
 apply Du;intro x hx;rw [Iz c hg] at hx;obtain ⟨j,hj,rfl⟩:=E0 hx;have h1:j<g:=by grind
 have h2:=oB (hok j h1)
 grind [A7,B7,Qk]
def EI (c:p7){g:Nat}(h:g<=O c.j7)(s:I4):dm c s g=F0 c s g:=by
 grind [dm,Nat.min_eq_left]
def pV (c:p7){k:Nat}(h:k<O c.j7):M3 c k=(Y c.j7 k).o4.map Q1.type:=by
 simp_all [M3,fC]
def Qq {α β:Type} [Inhabited α] [Inhabited β] (f:α->β){l:List α}{i:Nat}(h:i<O l):Y (l.map f) i=f (Y l i):=by
 simp_all [A7]
def LK (a b:Int):s7 a b=s7 b a:=by
 simp [o6]
 grind
def Eu (t:cI)(x:Q1):(!jX t x)=((!p9 x.cr 0 1||(s7 (O x.C6) 0&&(!s7 x.cr 0|| !s7 x.gL 0)))||(!p9 x.gL 0 1048576||(!s7 t.ay 0&&D0 t.ay x.gL))):=by
 have h1:s7 (O x.C6) 0= !D0 0 (O x.C6):=by
  simp [o6,s4]
  grind
 have h2:p9 x.cr 0 1=(s7 x.cr 0||s7 x.cr 1):=by
  simp [p9,r7,o6]
  grind
 have h3:D0 t.ay x.gL= !U4 x.gL t.ay:=by
  simp [r7,s4]
  grind
 grind [jX,s7,D0,p9,U4]
def TX:∀(A f8 C ow wj d5 wd ret E:Bool),(if A=W then (3:Int) else if f8=W then 4 else if C=W then 5 else if (ow||((wj||d5)||(wd||ret)))=W then 1 else if E=W then 1 else 0)=(if A=W then (3:Int) else if f8=W then 4 else if C=W then 5 else if (ow||wj||d5)=W then 1 else if (wd||ret||E)=W then 1 else 0):=by decide
def TY:∀(A f8 C sp ow wj d5 wd ret E d7:Bool),(if A=W then (3:Int) else if f8=W then 4 else if C=W then 5 else if (sp||ow||((wj||d5)||(wd||ret)))=W then 1 else if E=W then 1 else if d7=W then 1 else 0)=(if A=W then (3:Int) else if f8=W then 4 else if C=W then 5 else if (sp||ow||wj||d5)=W then 1 else if (wd||ret||E)=W then 1 else if d7=W then 1 else 0):=by decide
set_option maxHeartbeats 4000000 in
def Ph {c:p7}{g i:Nat}(hg:g<O c.j7)(hok:iD c g):nB c (K8 c g) (Y c.j7 g) i=V7 c g i:=by
 have aO:g<=p7.ns c:=by grind [p7.ns]
 unfold nB V7;rw [aN c aO,EI c V];generalize hx:Y (Y c.j7 g).o4 i=x;have hTO:=J8 c x.refs g;have hnil:K7 x.refs []=W->F0 c x.refs g= -1:=λh=>by grind [Zj,LS]
 have nM:0<=F0 c x.refs g->Y (Y (K8 c g) (F0 c x.refs g).toNat).2.2 0=(Y (Y c.j7 (F0 c x.refs g).toNat).o4 0).type:=λh=>by
  have h1:(F0 c x.refs g).toNat<g:=V
  rw [Y7 c h1];show Y (M3 c _) 0=_
  rw [pV c V,Qq _ (cB (S8 (hok _ h1) V)).1]
 generalize F0 c x.refs g=TO at *
 rcases B6 (K7 x.refs []) with hr|hr
 .have h1:=hnil hr
  have h2:U4 0 (-1)=F:=by simp [r7]
  rw [Eu]
  grind
 .rcases B6 (U4 0 TO) with h0|h0
  .rw [nM (gU h0)]
   have h2:D0 TO 0=F:=by simp_all [gU,s4]
   rw [Eu,LK x.type (Y (Y c.j7 TO.toNat).o4 0).type];simp only [Bool.not_or,hasB]
   grind
  simp_all [D0,nO,s4,Bool.not_false,Bool.and_self,if_true]
theorem CN {c:p7}{g:Nat}(hg:g<O c.j7)(hok:iD c g):∀k i,zj c (K8 c g) (Y c.j7 g) k i=bF c g k i
 |0,_=>rfl
 |k+1,i=>by
  rw [zj,bF,Ph hg hok,CN hg hok k (i+1)]
def Kv (t:cI):mA t=(!p9 (O t.o4) 1 8|| !p9 t.erase 0 1|| !p9 t.ay 0 1048576):=by
 have h2:p9 t.erase 0 1=(s7 t.erase 0||s7 t.erase 1):=by
  simp [p9,r7,o6]
  grind
 simp_all [mA,Bool.not_or]
def IC {c:p7}{g:Nat}(hg:g<O c.j7)(hok:iD c g):sA c (K8 c g) (c.names.take g) (Y c.j7 g)=M9 c g:=by
 have he:=eG c g (Y c.j7 g).name (rV c hg) (bQ c g) (by simp_all [M9]);simp_all [sA,bQ,Kv,CN]
def Rj {c:p7}{g:Nat}(hg:g<O c.j7)(hok:iD c g)(h0:M9 c g=0):EH c (K8 c g) (c.names.take g) (Y c.j7 g)=K8 c (g+1):=by
 unfold EH;rw [IC hg hok,h0,xE];have h1:mq c g=((Y c.j7 g).name,(Y c.j7 g).o4.map Q1.name,(Y c.j7 g).o4.map Q1.type):=by
  unfold mq;rw [pV c hg,<- qy c (by grind [p7.ns]),rV c hg];simp_all [Lr,xA,if_pos]
 simp_all [o6]
def BN (c:p7)(s:I4)(col:Int):jt (K8 c (p7.ns c)) s col=jr c s col:=by
 unfold jt jr;rw [aN c (k9 _)];have hb:=J8 c s (p7.ns c)
 rcases B6 (D0 (F0 c s (p7.ns c)) 0) with h|h
 .simp_all
 .have h1:=A9 h
  rw [Y7 c V];rfl
def DA (c:p7)(s:I4):(!jQ c (K8 c (p7.ns c)) s)=D0 (dm c s (O c.j7)) 0:=by
 unfold jQ;rw [aN c (k9 _),EI c (k9 _)];unfold F0;have h0:(p7.sn c).take (p7.ns c)=p7.sn c:=s9 (by rw [S3];omega);have h1:∀(l:List I4) (k i:Nat),(I5 s (l.take k) i= -1/\(I5 s l i= -1\/((i:Int)+k<=I5 s l i/\k<=O l)))\/(I5 s (l.take k) i=I5 s l i/\(i:Int)<=I5 s l i/\I5 s l i<i+k):=by
  intro l
  induction l with
  |nil=>simp_all [I5]
  |cons x l ih =>
   intro k i;cases k with
   |zero =>
    grind [dR]
   |succ k =>
    simp [List.take_succ_cons,I5]
    all_goals grind
 rcases h1 (p7.sn c) (O c.j7) 0 with h|h
 .have e1:D0 (I5 s ((p7.sn c).take (O c.j7)) 0) 0=W:=by simp_all [s4,decide_eq_true_eq]
  grind [p9,I5,p7.sn,r7,Bool.and_eq_false_iff,decide_eq_false_iff_not]
 .have e1:D0 (I5 s ((p7.sn c).take (O c.j7)) 0) 0=F:=by simp_all [s4,decide_eq_false_iff_not]
  have e2:p9 (I5 s (p7.sn c) 0) 0 (O c.j7 - 1)=W:=by simp [p9,r7,c9,decide_eq_true_eq];omega
  simp_all
theorem Ld (c:p7):∀seen l,Rw c (K8 c (p7.ns c)) seen l=Rv c seen l
 |_,[]=>rfl
 |seen,t::r=>by
  rw [Rw,Rv,DA,Ld c (seen++[t]) r]
def Y2 (c:p7){g i:Nat}{α:Type} [Inhabited α] (l1 l3:List I4)(l2:List α)(f:α->I4)(h:c.names=l1++l2.map f++l3)(hl:O l1=g)(hi:i<O l2):Y c.names (g+i)=f (Y l2 i):=by
 grind [F5,A7,List.getElem_append_right,Nat.add_sub_cancel_left,List.getElem_append_left]
def iX {c:p7}{g:Nat}(h:p7.ns c<=g):M9 c g=(if !K1 (Y c.names g) then 3 else if (c.names.take g).any λy=>K7 y (Y c.names g) then 4 else S9 c (g - p7.ns c)):=by
 grind [p7.ns,M9]
theorem PY {c:p7}{g i:Nat}(hg:g=p7.ns c+i)(hi:i<O c.idxs):Ds (K8 c (p7.ns c)) (c.names.take g) (Y c.idxs i)=M9 c g:=by
 have hn:Y c.names g=(Y c.idxs i).name:=by
  rw [hg];exact Y2 c (p7.sn c) (c.F4.map iI.name++c.H8.map kG.name++c.J5.map kA.name++c.J9.map nr.name++c.K6.map nq.name) c.idxs iL.name (by simp [p7.names,p7.sn]) (S3 c) hi
 have he:=eG c g _ hn (S9 c (g - p7.ns c)) (iX V);rw [he];have e1:S9 c (g - p7.ns c)=JA c (Y c.idxs i):=by
  simp_all [Nat.add_sub_cancel_left,S9,if_pos]
 rw [e1];unfold Ds JA;rw [BN]
 grind [s7,jr,Y]
theorem Pd {c:p7}{g i:Nat}(hg:g=p7.ns c+(O c.idxs+O c.F4)+i)(hi:i<O c.H8):CA (K8 c (p7.ns c)) (c.names.take g) (Y c.H8 i)=M9 c g:=by
 have hn:Y c.names g=(Y c.H8 i).name:=by
  rw [hg];exact Y2 c (p7.sn c++c.idxs.map iL.name++c.F4.map iI.name) (c.J5.map kA.name++c.J9.map nr.name++c.K6.map nq.name) c.H8 kG.name (by simp [p7.names,p7.sn]) (by simp [S3]) hi
 have he:=eG c g _ hn (S9 c (g - p7.ns c)) (iX V);rw [he];have e1:S9 c (g - p7.ns c)=IT c (Y c.H8 i):=by
  have hm:g - p7.ns c=O c.idxs+O c.F4+i:=V
  unfold S9
  grind
 rw [e1];unfold CA IT;rw [BN]
 grind [s7,jr,Y]
theorem Rh {c:p7}{g i:Nat}(hg:g=p7.ns c+(O c.idxs+O c.F4+O c.H8+O c.J5)+i)(hi:i<O c.J9):GI c (K8 c (p7.ns c)) (c.names.take g) (Y c.J9 i)=M9 c g:=by
 have hn:Y c.names g=(Y c.J9 i).name:=by
  rw [hg];exact Y2 c (p7.sn c++c.idxs.map iL.name++c.F4.map iI.name++c.H8.map kG.name++c.J5.map kA.name) (c.K6.map nq.name) c.J9 nr.name (by rfl) (by simp [S3,M6]) hi
 have he:=eG c g _ hn (S9 c (g - p7.ns c)) (iX V);have e1:S9 c (g - p7.ns c)=Ku c (Y c.J9 i):=by
  have hm:g - p7.ns c=(O c.idxs+O c.F4+O c.H8+O c.J5)+i:=V
  unfold S9
  grind
 simp_all [GI,Ku,DA]
theorem SV {c:p7}{g i:Nat}(hg:g=p7.ns c+(O c.idxs+O c.F4+O c.H8+O c.J5+O c.J9)+i)(hi:i<O c.K6):RA c (K8 c (p7.ns c)) (c.names.take g) (Y c.K6 i)=M9 c g:=by
 have hn:Y c.names g=(Y c.K6 i).name:=by
  rw [hg];exact Y2 c (p7.sn c++c.idxs.map iL.name++c.F4.map iI.name++c.H8.map kG.name++c.J5.map kA.name++c.J9.map nr.name) ([]) c.K6 nq.name (by simp [p7.names,p7.sn]) (by simp [S3,M6]) hi
 have he:=eG c g _ hn (S9 c (g - p7.ns c)) (iX V);have e1:S9 c (g - p7.ns c)=Cq c (Y c.K6 i):=by
  have hm:g - p7.ns c=(O c.idxs+O c.F4+O c.H8+O c.J5+O c.J9)+i:=V
  unfold S9
  grind
 simp_all [RA,Cq,Ld]
theorem QZ {c:p7}{g i:Nat}(hg:g=p7.ns c+(O c.idxs)+i)(hi:i<O c.F4):xu (K8 c (p7.ns c)) (c.names.take g) (Y c.F4 i)=M9 c g:=by
 have hn:Y c.names g=(Y c.F4 i).name:=by
  rw [hg];exact Y2 c (p7.sn c++c.idxs.map iL.name) (c.H8.map kG.name++c.J5.map kA.name++c.J9.map nr.name++c.K6.map nq.name) c.F4 iI.name (by simp [p7.names,p7.sn]) (by simp [S3]) hi
 have he:=eG c g _ hn (S9 c (g - p7.ns c)) (iX V);rw [he];have e1:S9 c (g - p7.ns c)=yT c (Y c.F4 i):=by
  have hm:g - p7.ns c=(O c.idxs)+i:=V
  unfold S9
  grind
 rw [e1];unfold xu yT BL;rw [BN];generalize Y c.F4 i=x;have h2:p9 x.kind 0 2=(s7 x.kind 0||s7 x.kind 1||s7 x.kind 2):=by
  simp [p9,r7,o6]
  grind
 grind
theorem QT {c:p7}{g i:Nat}(hg:g=p7.ns c+(O c.idxs+O c.F4+O c.H8)+i)(hi:i<O c.J5):Es c (K8 c (p7.ns c)) (c.names.take g) (Y c.J5 i)=M9 c g:=by
 have hn:Y c.names g=(Y c.J5 i).name:=by
  rw [hg];exact Y2 c (p7.sn c++c.idxs.map iL.name++c.F4.map iI.name++c.H8.map kG.name) (c.J9.map nr.name++c.K6.map nq.name) c.J5 kA.name (by simp [p7.names,p7.sn]) (by simp [S3,M6]) hi
 have he:=eG c g _ hn (S9 c (g - p7.ns c)) (iX V);rw [he];have e1:S9 c (g - p7.ns c)=Er c (Y c.J5 i):=by
  have hm:g - p7.ns c=(O c.idxs+O c.F4+O c.H8)+i:=V
  unfold S9
  grind
 rw [e1];unfold Es Er VH;rw [aN c (k9 _)]
 grind [D0,F0,Y,p7.ns]
def xU (k:Int):p9 k 0 2=(s7 k 0||s7 k 1||s7 k 2):=by
 simp [p9,r7,o6]
 grind
def NS {v:Vw}(h:p9 v.kind 0 2=W):iE v=Z6 v:=by
 have h1:D0 0 (O v.on)= !s7 (O v.on) 0:=by
  simp [o6,s4]
  grind
 have h2:D0 8 (O v.on)= !U4 (O v.on) 8:=by
  simp [r7,s4]
  grind
 rw [xU] at h;unfold iE Z6 iF;have hx:s7 v.kind 0=W->s7 v.kind 1=F/\s7 v.kind 2=F:=λh=>by
  simp_all [W9,o6]
 have hy:s7 v.kind 1=W->s7 v.kind 2=F:=λh=>by
  simp_all [W9,o6]
 grind
def Sc {c:p7}{g:Nat}(hg:g<=p7.ns c)(h:0<=F0 c (T7 c g).left g):(Z1 (K8 c g) (T7 c g).left).2.2=lT c g:=by
 have hb:=J8 c (T7 c g).left g;unfold Z1 lT;rw [aN c hg,Y7 c V,S4 c V];rfl
def SA {c:p7}{g:Nat}(hg:g<=p7.ns c)(h:K7 (T7 c g).right []=F->0<=F0 c (T7 c g).right g):(Cc (K8 c g) (T7 c g)).2.2=rT c g:=by
 have hb:=J8 c (T7 c g).right g;unfold Cc rT Z1
 rcases B6 (K7 (T7 c g).right []) with hr|hr
 .rw [hr];rfl
 .have:=h hr
  rw [hr,if_neg U,if_neg U,aN c hg,Y7 c V,S4 c V];rfl
theorem oL (c:p7){g:Nat}(h:O c.j7<=g)(h2:g<p7.ns c):Y c.names g=(T7 c g).name:=by
 have hv:g - O c.j7<O c.views:=by grind [p7.ns]
 have:=Y2 c (i:=g - O c.j7) (c.j7.map cI.name) (c.idxs.map iL.name++c.F4.map iI.name++c.H8.map kG.name++c.J5.map kA.name++c.J9.map nr.name++c.K6.map nq.name) c.views Vw.name (by simp [p7.names]) (g:=O c.j7) U hv;rw [show O c.j7+(g - O c.j7)=g by omega] at this;exact this
theorem EX {c:p7}{g:Nat}(h:O c.j7<=g)(h2:g<p7.ns c):cE (K8 c g) (c.names.take g) (T7 c g)=M9 c g:=by
 have hg:g<=p7.ns c:=V
 have he:=eG c g _ (oL c h h2) (T1 c g) (by
  grind [M9])
 rw [he];unfold cE T1;rw [xU,aN c hg,aN c hg];simp only [Bool.not_or]
 rcases B6 (!s7 (T7 c g).kind 0&& !s7 (T7 c g).kind 1&& !s7 (T7 c g).kind 2) with k1|k1
 .simp_all
 .rcases B6 (D0 (F0 c (T7 c g).left g) 0||(!K7 (T7 c g).right []&&D0 (F0 c (T7 c g).right g) 0)) with k2|k2
  .simp_all
  .have k2' :=k2
   simp [B2] at k2';have f1:=A9 k2'.1;have f2:K7 (T7 c g).right []=F->0<=F0 c (T7 c g).right g:=λh=>by
    simp_all [Bool.not_false,Bool.true_and,A9]
   have hk:p9 (T7 c g).kind 0 2=W:=by
    rw [xU]
    grind
   rw [NS hk,Sc hg f1,SA hg f2];rfl
theorem Oy {c:p7}{g:Nat}(h:O c.j7<=g)(h2:g<p7.ns c)(h0:M9 c g=0):nZ (K8 c g) (c.names.take g) (T7 c g)=K8 c (g+1):=by
 have hg:g<=p7.ns c:=V
 have hs:=eX (bK h0 h h2);have hb:=J8 c (T7 c g).left g;have h00:s7 0 0=W:=by simp [o6]
 have hn:Y (p7.sn c) g=(T7 c g).name:=by rw [<- qy c h2,oL c h h2]
 have hnt:¬ g<O c.j7:=V
 unfold nZ;rw [EX h h2,h0,h00,if_pos rfl,xE]
 rcases B6 (s7 (T7 c g).kind 2) with hk|hk
 .have e1:mq c g=((T7 c g).name,(Z1 (K8 c g) (T7 c g).left).2.1,(Z1 (K8 c g) (T7 c g).left).2.2):=by
   have hk' :s7 (Y c.views (g - O c.j7)).kind 2=W:=hk;have hb' :=J8 c (Y c.views (g - O c.j7)).left g;unfold mq Z1;rw [hn,aN c hg,Y7 c V];unfold M3 Lr fC xA;rw [if_neg hnt,if_neg hnt,hk',if_pos rfl,if_pos rfl,S4 c V,wS c V];rfl
  simp_all
 .have e1:mq c g=((T7 c g).name,(aM (T7 c g)).map yV.name,X7 (T7 c g) ((Z1 (K8 c g) (T7 c g).left).2.2++(Cc (K8 c g) (T7 c g)).2.2)):=by
   have hk' :s7 (Y c.views (g - O c.j7)).kind 2=F:=hk;rw [Sc hg hs.2.1,SA hg hs.2.2.1];unfold mq;rw [hn];unfold M3 Lr fC xA;rw [if_neg hnt,if_neg hnt,hk',if_neg U,if_neg U];rfl
  simp_all
def Kl {v:Vw}(hk:p9 v.kind 0 2=W)(h:Z6 v=W)(h2:s7 v.kind 2=F):0<O v.items+O v.E3:=by
 unfold Z6 at h;rw [h2,if_neg U] at h
 rcases B6 (s7 v.kind 0) with h0|h0
 .rw [h0,if_pos rfl] at h
  simp only [c9,o9,B2] at h;have:=iW h.1.1;omega
 .rw [h0,if_neg U] at h
  simp only [c9,o9,B2] at h;have:=iW h.1.1;omega
theorem BP {c:p7}(hs:D9 c):∀(n k:Nat),k<n->n<=p7.ns c->iD c n->0<O (M3 c k)/\0<O (Lr c k)/\O (Lr c k)<=2000
 |0,k,h,_,_=>absurd h V
 |n+1,k,h,hn,ho=>by
  rcases y8 k n with h1|h1
  .exact BP hs n k h1 V (λm hm=>ho m V)
  obtain rfl:k=n:=V
  rcases y8 k (O c.j7) with h2|h2
  .have h3:=hs.sm.o4 k h2
   have h4:=(cB (S8 (ho k V) h2)).1;unfold M3 Lr fC xA;rw [if_pos h2,if_pos h2];simp;omega
  .have h3:¬ k<O c.j7:=V
   have hv:k - O c.j7<O c.views:=by unfold p7.ns at hn;omega
   have TQ:=eX (bK (ho k V) h2 V);unfold T7 at TQ;unfold M3 Lr fC xA;rw [if_neg h3,if_neg h3]
   rcases B6 (s7 (Y c.views (k - O c.j7)).kind 2) with hk|hk
   .have hb:=J8 c (Y c.views (k - O c.j7)).left k
    have f1:=TQ.2.1;rw [hk,if_pos rfl,if_pos rfl,S4 c V,wS c V];exact BP hs k _ V V (λm hm=>ho m V)
   .have h5:=Kl TQ.1 TQ.2.2.2 hk
    have h6:=hs.items _ hv;have h7:=hs.E3 _ hv;rw [hk,if_neg U,if_neg U,A3,iV];simp only [X7,j9,A3];omega
def OH (c:p7)(g:Nat)(ds:List I4)(ss:List dB):Prop:=ds=c.names.take g/\ss=K8 c (min g (p7.ns c))
def aQ [Inhabited XO] (c:p7)(f:FuncId)(i g:Nat):Prop:=∃dz sz,(M9 c g=0->OH c (g+1) dz sz)/\Pm A f [.ptr 5 0,.d (Z i)] (HH c (c.names.take g) (K8 c (min g (p7.ns c)))) lW (.d (Z (M9 c g))) (HH c dz sz)
def Og [Inhabited XO] {c:p7}(hs:D9 c){i:Nat}(hi:i<O c.j7)(hok:iD c i):aQ c 149 i i:=by
 have aO:i<p7.ns c:=by unfold p7.ns;omega
 have hf:=hs.sm.dP.1;have hm:min i (p7.ns c)=i:=V
 have p:=az1 c (c.names.take i) (K8 c i) i hi (hs.sm.o4 i hi) (λj hj=>hs.sm.C6 i j hi hj) (by rw [W1];omega) (by rw [W1];omega) V
  (λk hk=>by
   rw [W1] at hk;have h1:=(cB (S8 (hok k hk) V)).1;rw [Y7 c hk];refine ⟨?_,h1⟩;show 0<O (M3 c k)
   rw [pV c V];simpa using h1) (λs hs' =>IB c V s hs')
 rw [IC hi hok] at p;unfold aQ;rw [hm];refine ⟨_,_,λh0=>?_,p⟩;unfold OH;have hnl:i<O c.names:=by have:=P6 c;omega
 rw [Rj hi hok h0,<- rV c hi,cm c i hnl h0,Nat.min_eq_left V];exact ⟨rfl,rfl⟩
def Kt [Inhabited XO] {c:p7}(hs:D9 c)(hn:p7.ns c<=1000){g:Nat}(h:O c.j7<=g)(h2:g<p7.ns c)(hok:iD c g):aQ c 150 (g - O c.j7) g:=by
 have hv:g - O c.j7<O c.views:=by grind [p7.ns]
 have p:=az2 c (c.names.take g) (K8 c g) (g - O c.j7) hv (hs.on _ hv) (hs.wh _ hv) (hs.items _ hv) (hs.E3 _ hv) (λj hj=>hs.DB _ j hv hj) (λj hj=>hs.La _ j hv hj) (by rw [W1];omega)
  (λk hk=>by
   rw [W1] at hk;have h1:=BP hs g k hk V hok;have h3:=aX hs g k hk V (gE hok V);rw [Y7 c hk];exact ⟨h1.2.1,by show O (Lr c k)<=5000;omega,h1.1,by show O (M3 c k)<=5000;omega⟩) (λs hs' =>IB c V s hs')
 grind [Y,T7,EX,aQ,OH,P6,Oy,oL,cm,Nat.min_eq_left]
def Oc [Inhabited XO] {c:p7}(hs:D9 c)  {g i:Nat}(hg:g=p7.ns c+i)(hi:i<O c.idxs)(hok:iD c g):aQ c 151 i g:=by
 have hn:Y c.names g=(Y c.idxs i).name:=by
  rw [hg];exact Y2 c (p7.sn c) (c.F4.map iI.name++c.H8.map kG.name++c.J5.map kA.name++c.J9.map nr.name++c.K6.map nq.name) c.idxs iL.name (by simp [p7.names,p7.sn]) (by simp [S3]) hi
 have hnl:g<O c.names:=by rw [bN];omega
 have nM:∀k,k<O (K8 c (p7.ns c))->O (Y (K8 c (p7.ns c)) k).2.2<=100000:=λk hk=>by
  rw [W1] at hk;have h3:=aX hs (p7.ns c) k hk (k9 _) (gE (λm hm=>hok m V) (k9 _));rw [Y7 c hk];show O (M3 c k)<=100000
  omega
 have p:=az3 c (c.names.take g) (K8 c (p7.ns c)) i hi nM
 grind [PY,aQ,OH,cm,Nat.min_eq_right]
def Oe [Inhabited XO] {c:p7}(hs:D9 c)  {g i:Nat}(hg:g=p7.ns c+(O c.idxs)+i)(hi:i<O c.F4)(hok:iD c g):aQ c 152 i g:=by
 have hn:Y c.names g=(Y c.F4 i).name:=by
  rw [hg];exact Y2 c (p7.sn c++c.idxs.map iL.name) (c.H8.map kG.name++c.J5.map kA.name++c.J9.map nr.name++c.K6.map nq.name) c.F4 iI.name (by simp [p7.names,p7.sn]) (by simp [S3]) hi
 have hnl:g<O c.names:=by rw [bN];omega
 have nM:∀k,k<O (K8 c (p7.ns c))->O (Y (K8 c (p7.ns c)) k).2.2<=100000:=λk hk=>by
  rw [W1] at hk;have h3:=aX hs (p7.ns c) k hk (k9 _) (gE (λm hm=>hok m V) (k9 _));rw [Y7 c hk];show O (M3 c k)<=100000
  omega
 have p:=az4 c (c.names.take g) (K8 c (p7.ns c)) i hi nM
 grind [QZ,aQ,OH,cm,Nat.min_eq_right]
def Ob [Inhabited XO] {c:p7}(hs:D9 c)  {g i:Nat}(hg:g=p7.ns c+(O c.idxs+O c.F4)+i)(hi:i<O c.H8)(hok:iD c g):aQ c 153 i g:=by
 have hn:Y c.names g=(Y c.H8 i).name:=by
  rw [hg];exact Y2 c (p7.sn c++c.idxs.map iL.name++c.F4.map iI.name) (c.J5.map kA.name++c.J9.map nr.name++c.K6.map nq.name) c.H8 kG.name (by simp [p7.names,p7.sn]) (by simp [S3]) hi
 have hnl:g<O c.names:=by rw [bN];omega
 have nM:∀k,k<O (K8 c (p7.ns c))->O (Y (K8 c (p7.ns c)) k).2.2<=100000:=λk hk=>by
  rw [W1] at hk;have h3:=aX hs (p7.ns c) k hk (k9 _) (gE (λm hm=>hok m V) (k9 _));rw [Y7 c hk];show O (M3 c k)<=100000
  omega
 have p:=az5 c (c.names.take g) (K8 c (p7.ns c)) i hi nM
 grind [Pd,aQ,OH,cm,Nat.min_eq_right]
def Od [Inhabited XO] {c:p7}(hs:D9 c)(OM:∀k,k<O c.views->(Y c.views k).kind≠1\/0<O (Y c.views k).E3){g i:Nat}(hg:g=p7.ns c+(O c.idxs+O c.F4+O c.H8)+i)(hi:i<O c.J5)(hok:iD c g):aQ c 154 i g:=by
 have hn:Y c.names g=(Y c.J5 i).name:=by
  rw [hg];exact Y2 c (p7.sn c++c.idxs.map iL.name++c.F4.map iI.name++c.H8.map kG.name) (c.J9.map nr.name++c.K6.map nq.name) c.J5 kA.name (by simp [p7.names,p7.sn]) (by simp [S3,M6]) hi
 have hnl:g<O c.names:=by rw [bN];omega
 have p:=az6 c (c.names.take g) (K8 c (p7.ns c)) i hi hs.sm.dP.1 (by rw [W1];exact k9 _) hs.sm.dP.2.1 OM
 grind [QT,aQ,OH,cm,Nat.min_eq_right]
def Of [Inhabited XO] {c:p7}(hs:D9 c)  {g i:Nat}(hg:g=p7.ns c+(O c.idxs+O c.F4+O c.H8+O c.J5)+i)(hi:i<O c.J9)(hok:iD c g):aQ c 155 i g:=by
 have hn:Y c.names g=(Y c.J9 i).name:=by
  rw [hg];exact Y2 c (p7.sn c++c.idxs.map iL.name++c.F4.map iI.name++c.H8.map kG.name++c.J5.map kA.name) (c.K6.map nq.name) c.J9 nr.name (by rfl) (by simp [S3,M6]) hi
 have hnl:g<O c.names:=by rw [bN];omega
 have p:=az7 c (c.names.take g) (K8 c (p7.ns c)) i hi hs.sm.dP.1
 grind [Rh,aQ,OH,cm,Nat.min_eq_right]
def Oa [Inhabited XO] {c:p7}(hs:D9 c)  {g i:Nat}(hg:g=p7.ns c+(O c.idxs+O c.F4+O c.H8+O c.J5+O c.J9)+i)(hi:i<O c.K6)(hok:iD c g):aQ c 156 i g:=by
 have hn:Y c.names g=(Y c.K6 i).name:=by
  rw [hg];exact Y2 c (p7.sn c++c.idxs.map iL.name++c.F4.map iI.name++c.H8.map kG.name++c.J5.map kA.name++c.J9.map nr.name) ([]) c.K6 nq.name (by simp [p7.names,p7.sn]) (by simp [S3,M6]) hi
 have hnl:g<O c.names:=by rw [bN];omega
 have p:=az8 c (c.names.take g) (K8 c (p7.ns c)) i hi hs.sm.dP.1 (hs.bk i hi)
 grind [SV,aQ,OH,cm,Nat.min_eq_right]
def Qh {c:p7}(h:tooMany c=F):p7.ns c<=20:=by
 simp only [tooMany,zV,s4,B2,decide_eq_false_iff_not] at h;unfold p7.ns;omega
def Nx [Inhabited XO] (c:p7)(hs:D9 c):Pq A 101 [cat c] [xa,xo] N9 (uF c c.names (K8 c (p7.ns c))):=by
 have hnl:=P6 c;refine aA3 c hs.sm.dP (OH c) ⟨rfl,rfl⟩ (λg ds ss ds' ss' h h' =>⟨h.1.trans h'.1.symm,h.2.trans h'.2.symm⟩) _ _ (λds ss h=>⟨by rw [h.1,D3],by rw [h.2,Nat.min_eq_right hnl]⟩) ?_;rintro q i ds ss hq hi HQ hok ⟨rfl,rfl⟩;have h20:=Qh HQ
 match q,hq with
 |0,_ =>
  have hi' :i<O c.j7:=hi;have e:W8 c 0+i=i:=by simp [W8]
  rw [e] at hok ⊢;exact Og hs hi' hok
 |1,_ =>
  have hi' :i<O c.views:=hi;have e:W8 c 1+i=O c.j7+i:=by simp [W8,cnt]
  rw [e] at hok ⊢;have:=Kt hs V (g:=O c.j7+i) V (by unfold p7.ns;omega) hok;rw [Nat.add_sub_cancel_left] at this;exact this
 |2,_=>exact Oc hs (by simp [W8,cnt,p7.ns]) hi hok
 |3,_=>exact Oe hs (by simp [W8,cnt,p7.ns,M6]) hi hok
 |4,_=>exact Ob hs (by simp [W8,cnt,p7.ns,M6]) hi hok
 |5,_ =>
  refine Od hs (λk hk=>?_) (by simp [W8,cnt,p7.ns,M6]) hi hok;have hle:p7.ns c<=W8 c 5+i:=by simp [W8,cnt,p7.ns];omega
  have h9:=eX (bK (hok (k+O c.j7) (by unfold p7.ns at hle;omega)) V (by unfold p7.ns;omega));have OJ:T7 c (k+O c.j7)=Y c.views k:=by unfold T7;rw [Nat.add_sub_cancel]
  rw [OJ] at h9;exact Ak h9.2.2.2
 |6,_=>exact Of hs (by simp [W8,cnt,p7.ns,M6]) hi hok
 |7,_=>exact Oa hs (by simp [W8,cnt,p7.ns,M6]) hi hok
end Go.Proofs.YtibjocmpkoepoaaGreat


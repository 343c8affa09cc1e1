import Derived.Test.YtibjocmpkoepoaaGreatE0
set_option linter.all false
open Bool renaming and_eq_true→c8,eq_false_or_eq_true→C9,not_eq_false'→D5,not_eq_true'→o8,or_eq_false_iff→E5,true→W,false→F
open List renaming append_assoc→M3,getElem_of_mem→O8,length_append→s9,length_map→C5,take_of_length_le→y6,length→O
open Nat renaming add_assoc→M9,le_refl→o6,lt_or_ge→x9
open Option renaming some→J,none→K
namespace Go.Proofs.YtibjocmpkoepoaaGreat
open Go.B3 Go.B3.S
def DA (c:s6)(prev:List (List M6))(k:Nat):List M6 :=
 if k<O c.k9 then (Y c.k9 k).p9.map dY.name
 else if A1 (Y c.views (k - O c.k9)).kind 2 then Y prev (K7 c (Y c.views (k - O c.k9)).left k).toNat
 else (dP (Y c.views (k - O c.k9))).map Ic.name
def LK (c:s6):Nat->List (List M6)
 |0=>[]
 |k+1=>LK c k++[DA c (LK c k) k]
def WX (c:s6)(k:Nat):List M6:=DA c (LK c k) k
theorem LL (c:s6):∀k,O (LK c k)=k
 |0=>rfl
 |k+1=>by simp [LK,LL c k]
theorem CW (c:s6):∀{k j:Nat},j<k->Y (LK c k) j=WX c j
 |k+1,j,h=>by
  have hl:=LL c k
  rcases x9 j k with h1|h1
  .rw [<- CW c h1,LK,H6 D,H6 V,List.getElem_append_left V]
  grind [LK,H6,List.getElem_append_right,WX]
def tH (c:s6)(j:Nat):gU:=(Y (s6.sn c) j,WX c j,aS c j)
def O7 (c:s6)(k:Nat):List gU:=(List.range k).map (tH c)
def cz (c:s6)(k:Nat):O (O7 c k)=k:=by simp [O7]
def cA (c:s6){k j:Nat}(h:j<k):Y (O7 c k) j=tH c j:=by
 simp_all [H6,cz,O7]
def DF (c:s6)(k:Nat):O7 c (k+1)=O7 c k++[tH c k]:=by simp [O7,List.range_succ]
def zB (c:s6){k:Nat}(h:k<=s6.ns c):(O7 c k).map (·.1)=(s6.sn c).take k:=by
 apply List.ext_getElem
 all_goals grind [aQ,O7,s6.sn,tH,H6]
def dG (c:s6){k:Nat}(h:k<=s6.ns c)(s:M6):K6 s ((O7 c k).map (·.1)) 0=K7 c s k:=by rw [zB c h];rfl
def xK (c:s6){g:Nat}(h:g<O c.k9):Y c.names g=(Y c.k9 g).name:=by
 rw [H6 (by grind [s6.names]),H6 h];simp_all [s6.names]
def jh (c:s6)(g:Nat)(s:M6)(h:Y c.names g=s)(e:Int)(he:Q4 c g=(if !M5 (Y c.names g) then 3 else if (c.names.take g).any λy=>Q2 y (Y c.names g) then 4 else e)) :
  Q4 c g=if !A1 (R7 (c.names.take g) s) 0 then R7 (c.names.take g) s else e:=by
 unfold R7
 grind [A1,M5,Q2]
theorem fE (c:s6)(g:Nat)(hg:g<O c.names)(h:Q4 c g=0):P9 (c.names.take g) (Y c.names g)=c.names.take (g+1):=by
 grind [Cm,R7,Y,P9,N7,p7]
def Si (c:s6){g:Nat}(h:g<=s6.ns c)(s:M6)(hs:((c.names.take g).any λy=>Q2 y s)=F):(((O7 c g).map (·.1)).any λy=>Q2 y s)=F:=by
 rw [zB c h];have h1:c.names=s6.sn c++(c.idxs.map pe.name++c.M7.map oh.name++c.O0.map rY.name++c.R1.map qh.name++c.S8.map uP.name++c.W6.map uO.name):=by simp [s6.names,s6.sn]
 grind [s6.sn,aQ]
theorem Lm:∀(l:List M6) (i:Nat),(∀x,x∈l->x≠[])->K6 [] l i= -1
 |[],_,_=>rfl
 |x::l,i,h=>by
  have h1:Q2 x []=F:=by simp [I5,h x (List.mem_cons_self)]
  simp [K6,h1,if_false];exact Lm l (i+1) λy hy=>h y (List.mem_cons_of_mem _ hy)
theorem ap7 {s:M6}(h:M5 s=W):s≠[]:=by
 grind [M5]
def au8 (c:s6){g:Nat}(h:g<=s6.ns c):(s6.sn c).take g=c.names.take g:=by
 have h1:c.names=s6.sn c++(c.idxs.map pe.name++c.M7.map oh.name++c.O0.map rY.name++c.R1.map qh.name++c.S8.map uP.name++c.W6.map uO.name):=by simp [s6.names,s6.sn]
 simp_all [List.take_append_of_le_length,aQ]
theorem Xt {c:s6}{g:Nat}(hg:g<=s6.ns c)(hok:mO c g):K7 c [] g= -1:=by
 apply Lm;intro x hx;rw [au8 c hg] at hx;obtain ⟨j,hj,rfl⟩:=O8 hx;have h1:j<g:=by grind
 have h2:=Cm (hok j h1)
 grind [H6,D5,ap7]
def Mx (c:s6){g:Nat}(h:g<=O c.k9)(s:M6):gb c s g=K7 c s g:=by
 grind [gb,Nat.min_eq_left]
def Ce (c:s6){k:Nat}(h:k<O c.k9):aS c k=(Y c.k9 k).p9.map dY.type:=by
 simp_all [aS,lY]
def aq3 {α β:Type} [Inhabited α] [Inhabited β] (f:α->β){l:List α}{i:Nat}(h:i<O l):Y (l.map f) i=f (Y l i):=by
 simp_all [H6]
def Xm (a b:Int):A1 a b=A1 b a:=by
 simp [p7]
 grind
def Mi (t:jt)(x:dY):(!oO t x)=((!s4 x.jG 0 1||(A1 (O x.L0) 0&&(!A1 x.jG 0|| !A1 x.oA 0)))||(!s4 x.oA 0 1048576||(!A1 t.cE 0&&J2 t.cE x.oA))):=by
 have h1:A1 (O x.L0) 0= !J2 0 (O x.L0):=by
  simp [p7,A5]
  grind
 have h2:s4 x.jG 0 1=(A1 x.jG 0||A1 x.jG 1):=by
  simp [s4,A7,p7]
  grind
 have h3:J2 t.cE x.oA= !bC x.oA t.cE:=by
  simp [A7,A5]
  grind
 grind [oO,A1,J2,s4,bC]
def aL5:∀(A i4 C ow wj d7 wd ret E:Bool),(if A=W then (3:Int) else if i4=W then 4 else if C=W then 5 else if (ow||((wj||d7)||(wd||ret)))=W then 1 else if E=W then 1 else 0)=(if A=W then (3:Int) else if i4=W then 4 else if C=W then 5 else if (ow||wj||d7)=W then 1 else if (wd||ret||E)=W then 1 else 0):=by decide
def aL6:∀(A i4 C sp ow wj d7 wd ret E d9:Bool),(if A=W then (3:Int) else if i4=W then 4 else if C=W then 5 else if (sp||ow||((wj||d7)||(wd||ret)))=W then 1 else if E=W then 1 else if d9=W then 1 else 0)=(if A=W then (3:Int) else if i4=W then 4 else if C=W then 5 else if (sp||ow||wj||d7)=W then 1 else if (wd||ret||E)=W then 1 else if d9=W then 1 else 0):=by decide
set_option maxHeartbeats 4000000 in
def ak9 {c:s6}{g i:Nat}(hg:g<O c.k9)(hok:mO c g):sW c (O7 c g) (Y c.k9 g) i=aO c g i:=by
 have gv:g<=s6.ns c:=by grind [s6.ns]
 unfold sW aO;rw [dG c gv,Mx c V];generalize hx:Y (Y c.k9 g).p9 i=x;have hTO:=O5 c x.refs g;have hnil:Q2 x.refs []=W->K7 c x.refs g= -1:=λh=>by grind [bl5,Xt]
 have uQ:0<=K7 c x.refs g->Y (Y (O7 c g) (K7 c x.refs g).toNat).2.2 0=(Y (Y c.k9 (K7 c x.refs g).toNat).p9 0).type:=λh=>by
  have h1:(K7 c x.refs g).toNat<g:=V
  rw [cA c h1];show Y (aS c _) 0=_
  rw [Ce c V,aq3 _ (fN (Z9 (hok _ h1) V)).1]
 generalize K7 c x.refs g=TO at *
 rcases C9 (Q2 x.refs []) with hr|hr
 .have h1:=hnil hr
  have h2:bC 0 (-1)=F:=by simp [A7]
  rw [Mi]
  grind
 .rcases C9 (bC 0 TO) with h0|h0
  .rw [uQ (nD h0)]
   have h2:J2 TO 0=F:=by simp_all [nD,A5]
   rw [Mi,Xm x.type (Y (Y c.k9 TO.toNat).p9 0).type];simp only [Bool.not_or,hasB]
   grind
  simp_all [J2,vE,A5,Bool.not_false,Bool.and_self,if_true]
theorem KH {c:s6}{g:Nat}(hg:g<O c.k9)(hok:mO c g):∀k i,Fz c (O7 c g) (Y c.k9 g) k i=eU c g k i
 |0,_=>rfl
 |k+1,i=>by
  rw [Fz,eU,ak9 hg hok,KH hg hok k (i+1)]
def Wd (t:jt):rA t=(!s4 (O t.p9) 1 8|| !s4 t.erase 0 1|| !s4 t.cE 0 1048576):=by
 have h2:s4 t.erase 0 1=(A1 t.erase 0||A1 t.erase 1):=by
  simp [s4,A7,p7]
  grind
 simp_all [rA,Bool.not_or]
def Sj {c:s6}{g:Nat}(hg:g<O c.k9)(hok:mO c g):yg c (O7 c g) (c.names.take g) (Y c.k9 g)=Q4 c g:=by
 have he:=jh c g (Y c.k9 g).name (xK c hg) (fh c g) (by simp_all [Q4]);simp_all [yg,fh,Wd,KH]
def av9 {c:s6}{g:Nat}(hg:g<O c.k9)(hok:mO c g)(h0:Q4 c g=0):Mw c (O7 c g) (c.names.take g) (Y c.k9 g)=O7 c (g+1):=by
 unfold Mw;rw [Sj hg hok,h0,DF];have h1:tH c g=((Y c.k9 g).name,(Y c.k9 g).p9.map dY.name,(Y c.k9 g).p9.map dY.type):=by
  unfold tH;rw [Ce c hg,<- CV c (by grind [s6.ns]),xK c hg];simp_all [WX,DA,if_pos]
 simp_all [p7]
def JH (c:s6)(s:M6)(col:Int):nN (O7 c (s6.ns c)) s col=nM c s col:=by
 unfold nN nM;rw [dG c (o6 _)];have hb:=O5 c s (s6.ns c)
 rcases C9 (J2 (K7 c s (s6.ns c)) 0) with h|h
 .simp_all
 .have h1:=G7 h
  rw [cA c V];rfl
def Lp (c:s6)(s:M6):(!oK c (O7 c (s6.ns c)) s)=J2 (gb c s (O c.k9)) 0:=by
 unfold oK;rw [dG c (o6 _),Mx c (o6 _)];unfold K7;have h0:(s6.sn c).take (s6.ns c)=s6.sn c:=y6 (by rw [aQ];omega);have h1:∀(l:List M6) (k i:Nat),(K6 s (l.take k) i= -1/\(K6 s l i= -1\/((i:Int)+k<=K6 s l i/\k<=O l)))\/(K6 s (l.take k) i=K6 s l i/\(i:Int)<=K6 s l i/\K6 s l i<i+k):=by
  intro l
  induction l with
  |nil=>simp_all [K6]
  |cons x l ih =>
   intro k i;cases k with
   |zero =>
    grind [iH]
   |succ k =>
    simp [List.take_succ_cons,K6]
    all_goals grind
 rcases h1 (s6.sn c) (O c.k9) 0 with h|h
 .have e1:J2 (K6 s ((s6.sn c).take (O c.k9)) 0) 0=W:=by simp_all [A5,decide_eq_true_eq]
  grind [s4,K6,s6.sn,A7,Bool.and_eq_false_iff,decide_eq_false_iff_not]
 .have e1:J2 (K6 s ((s6.sn c).take (O c.k9)) 0) 0=F:=by simp_all [A5,decide_eq_false_iff_not]
  have e2:s4 (K6 s (s6.sn c) 0) 0 (O c.k9 - 1)=W:=by simp [s4,A7,c8,decide_eq_true_eq];omega
  simp_all
theorem WL (c:s6):∀seen l,bkL c (O7 c (s6.ns c)) seen l=bkE c seen l
 |_,[]=>rfl
 |seen,t::r=>by
  rw [bkL,bkE,Lp,WL c (seen++[t]) r]
def bE (c:s6){g i:Nat}{α:Type} [Inhabited α] (l1 l3:List M6)(l2:List α)(f:α->M6)(h:c.names=l1++l2.map f++l3)(hl:O l1=g)(hi:i<O l2):Y c.names (g+i)=f (Y l2 i):=by
 grind [M3,H6,List.getElem_append_right,Nat.add_sub_cancel_left,List.getElem_append_left]
def nr {c:s6}{g:Nat}(h:s6.ns c<=g):Q4 c g=(if !M5 (Y c.names g) then 3 else if (c.names.take g).any λy=>Q2 y (Y c.names g) then 4 else Y4 c (g - s6.ns c)):=by
 grind [s6.ns,Q4]
theorem ao3 {c:s6}{g i:Nat}(hg:g=s6.ns c+i)(hi:i<O c.idxs):Lk (O7 c (s6.ns c)) (c.names.take g) (Y c.idxs i)=Q4 c g:=by
 have hn:Y c.names g=(Y c.idxs i).name:=by
  rw [hg];exact bE c (s6.sn c) (c.M7.map oh.name++c.O0.map rY.name++c.R1.map qh.name++c.S8.map uP.name++c.W6.map uO.name) c.idxs pe.name (by simp [s6.names,s6.sn]) (aQ c) hi
 have he:=jh c g _ hn (Y4 c (g - s6.ns c)) (nr V);rw [he];have e1:Y4 c (g - s6.ns c)=Vd c (Y c.idxs i):=by
  simp_all [Nat.add_sub_cancel_left,Y4,if_pos]
 rw [e1];unfold Lk Vd;rw [JH]
 grind [A1,nM,Y]
theorem ak6 {c:s6}{g i:Nat}(hg:g=s6.ns c+(O c.idxs+O c.M7)+i)(hi:i<O c.O0):Ky (O7 c (s6.ns c)) (c.names.take g) (Y c.O0 i)=Q4 c g:=by
 have hn:Y c.names g=(Y c.O0 i).name:=by
  rw [hg];exact bE c (s6.sn c++c.idxs.map pe.name++c.M7.map oh.name) (c.R1.map qh.name++c.S8.map uP.name++c.W6.map uO.name) c.O0 rY.name (by simp [s6.names,s6.sn]) (by simp [aQ]) hi
 have he:=jh c g _ hn (Y4 c (g - s6.ns c)) (nr V);rw [he];have e1:Y4 c (g - s6.ns c)=Uv c (Y c.O0 i):=by
  have hm:g - s6.ns c=O c.idxs+O c.M7+i:=V
  unfold Y4
  grind
 rw [e1];unfold Ky Uv;rw [JH]
 grind [A1,nM,Y]
theorem av7 {c:s6}{g i:Nat}(hg:g=s6.ns c+(O c.idxs+O c.M7+O c.O0+O c.R1)+i)(hi:i<O c.S8):Qj c (O7 c (s6.ns c)) (c.names.take g) (Y c.S8 i)=Q4 c g:=by
 have hn:Y c.names g=(Y c.S8 i).name:=by
  rw [hg];exact bE c (s6.sn c++c.idxs.map pe.name++c.M7.map oh.name++c.O0.map rY.name++c.R1.map qh.name) (c.W6.map uO.name) c.S8 uP.name (by rfl) (by simp [aQ,M9]) hi
 have he:=jh c g _ hn (Y4 c (g - s6.ns c)) (nr V);have e1:Y4 c (g - s6.ns c)=Wc c (Y c.S8 i):=by
  have hm:g - s6.ns c=(O c.idxs+O c.M7+O c.O0+O c.R1)+i:=V
  unfold Y4
  grind
 simp_all [Qj,Wc,Lp]
theorem aG6 {c:s6}{g i:Nat}(hg:g=s6.ns c+(O c.idxs+O c.M7+O c.O0+O c.R1+O c.S8)+i)(hi:i<O c.W6):bkM c (O7 c (s6.ns c)) (c.names.take g) (Y c.W6 i)=Q4 c g:=by
 have hn:Y c.names g=(Y c.W6 i).name:=by
  rw [hg];exact bE c (s6.sn c++c.idxs.map pe.name++c.M7.map oh.name++c.O0.map rY.name++c.R1.map qh.name++c.S8.map uP.name) ([]) c.W6 uO.name (by simp [s6.names,s6.sn]) (by simp [aQ,M9]) hi
 have he:=jh c g _ hn (Y4 c (g - s6.ns c)) (nr V);have e1:Y4 c (g - s6.ns c)=Ko c (Y c.W6 i):=by
  have hm:g - s6.ns c=(O c.idxs+O c.M7+O c.O0+O c.R1+O c.S8)+i:=V
  unfold Y4
  grind
 simp_all [bkM,Ko,WL]
theorem au7 {c:s6}{g i:Nat}(hg:g=s6.ns c+(O c.idxs)+i)(hi:i<O c.M7):Dq (O7 c (s6.ns c)) (c.names.take g) (Y c.M7 i)=Q4 c g:=by
 have hn:Y c.names g=(Y c.M7 i).name:=by
  rw [hg];exact bE c (s6.sn c++c.idxs.map pe.name) (c.O0.map rY.name++c.R1.map qh.name++c.S8.map uP.name++c.W6.map uO.name) c.M7 oh.name (by simp [s6.names,s6.sn]) (by simp [aQ]) hi
 have he:=jh c g _ hn (Y4 c (g - s6.ns c)) (nr V);rw [he];have e1:Y4 c (g - s6.ns c)=Fl c (Y c.M7 i):=by
  have hm:g - s6.ns c=(O c.idxs)+i:=V
  unfold Y4
  grind
 rw [e1];unfold Dq Fl JB;rw [JH];generalize Y c.M7 i=x;have h2:s4 x.kind 0 2=(A1 x.kind 0||A1 x.kind 1||A1 x.kind 2):=by
  simp [s4,A7,p7]
  grind
 grind
theorem as8 {c:s6}{g i:Nat}(hg:g=s6.ns c+(O c.idxs+O c.M7+O c.O0)+i)(hi:i<O c.R1):Me c (O7 c (s6.ns c)) (c.names.take g) (Y c.R1 i)=Q4 c g:=by
 have hn:Y c.names g=(Y c.R1 i).name:=by
  rw [hg];exact bE c (s6.sn c++c.idxs.map pe.name++c.M7.map oh.name++c.O0.map rY.name) (c.S8.map uP.name++c.W6.map uO.name) c.R1 qh.name (by simp [s6.names,s6.sn]) (by simp [aQ,M9]) hi
 have he:=jh c g _ hn (Y4 c (g - s6.ns c)) (nr V);rw [he];have e1:Y4 c (g - s6.ns c)=Md c (Y c.R1 i):=by
  have hm:g - s6.ns c=(O c.idxs+O c.M7+O c.O0)+i:=V
  unfold Y4
  grind
 rw [e1];unfold Me Md rlV;rw [dG c (o6 _)]
 grind [J2,K7,Y,s6.ns]
def DU (k:Int):s4 k 0 2=(A1 k 0||A1 k 1||A1 k 2):=by
 simp [s4,A7,p7]
 grind
def ZB {v:Vw}(h:s4 v.kind 0 2=W):mQ v=ff v:=by
 have h1:J2 0 (O v.on)= !A1 (O v.on) 0:=by
  simp [p7,A5]
  grind
 have h2:J2 8 (O v.on)= !bC (O v.on) 8:=by
  simp [A7,A5]
  grind
 rw [DU] at h;unfold mQ ff qX;have hx:A1 v.kind 0=W->A1 v.kind 1=F/\A1 v.kind 2=F:=λh=>by
  simp_all [aT,p7]
 have hy:A1 v.kind 1=W->A1 v.kind 2=F:=λh=>by
  simp_all [aT,p7]
 grind
def aA7 {c:s6}{g:Nat}(hg:g<=s6.ns c)(h:0<=K7 c (Z4 c g).left g):(bK (O7 c g) (Z4 c g).left).2.2=lT c g:=by
 have hb:=O5 c (Z4 c g).left g;unfold bK lT;rw [dG c hg,cA c V,aB c V];rfl
def aC0 {c:s6}{g:Nat}(hg:g<=s6.ns c)(h:Q2 (Z4 c g).right []=F->0<=K7 c (Z4 c g).right g):(Kc (O7 c g) (Z4 c g)).2.2=rT c g:=by
 have hb:=O5 c (Z4 c g).right g;unfold Kc rT bK
 rcases C9 (Q2 (Z4 c g).right []) with hr|hr
 .rw [hr];rfl
 .have:=h hr
  rw [hr,if_neg U,if_neg U,dG c hg,cA c V,aB c V];rfl
theorem uC (c:s6){g:Nat}(h:O c.k9<=g)(h2:g<s6.ns c):Y c.names g=(Z4 c g).name:=by
 have hv:g - O c.k9<O c.views:=by grind [s6.ns]
 have:=bE c (i:=g - O c.k9) (c.k9.map jt.name) (c.idxs.map pe.name++c.M7.map oh.name++c.O0.map rY.name++c.R1.map qh.name++c.S8.map uP.name++c.W6.map uO.name) c.views Vw.name (by simp [s6.names]) (g:=O c.k9) U hv;rw [show O c.k9+(g - O c.k9)=g by omega] at this;exact this
theorem ML {c:s6}{g:Nat}(h:O c.k9<=g)(h2:g<s6.ns c):fQ (O7 c g) (c.names.take g) (Z4 c g)=Q4 c g:=by
 have hg:g<=s6.ns c:=V
 have he:=jh c g _ (uC c h h2) (Z5 c g) (by
  grind [Q4])
 rw [he];unfold fQ Z5;rw [DU,dG c hg,dG c hg];simp only [Bool.not_or]
 rcases C9 (!A1 (Z4 c g).kind 0&& !A1 (Z4 c g).kind 1&& !A1 (Z4 c g).kind 2) with k1|k1
 .simp_all
 .rcases C9 (J2 (K7 c (Z4 c g).left g) 0||(!Q2 (Z4 c g).right []&&J2 (K7 c (Z4 c g).right g) 0)) with k2|k2
  .simp_all
  .have k2' :=k2
   simp [E5] at k2';have f1:=G7 k2'.1;have f2:Q2 (Z4 c g).right []=F->0<=K7 c (Z4 c g).right g:=λh=>by
    simp_all [Bool.not_false,Bool.true_and,G7]
   have hk:s4 (Z4 c g).kind 0 2=W:=by
    rw [DU]
    grind
   rw [ZB hk,aA7 hg f1,aC0 hg f2];rfl
theorem ab0 {c:s6}{g:Nat}(h:O c.k9<=g)(h2:g<s6.ns c)(h0:Q4 c g=0):tK (O7 c g) (c.names.take g) (Z4 c g)=O7 c (g+1):=by
 have hg:g<=s6.ns c:=V
 have hs:=jq (iD h0 h h2);have hb:=O5 c (Z4 c g).left g;have h00:A1 0 0=W:=by simp [p7]
 have hn:Y (s6.sn c) g=(Z4 c g).name:=by rw [<- CV c h2,uC c h h2]
 have hnt:¬ g<O c.k9:=V
 unfold tK;rw [ML h h2,h0,h00,if_pos rfl,DF]
 rcases C9 (A1 (Z4 c g).kind 2) with hk|hk
 .have e1:tH c g=((Z4 c g).name,(bK (O7 c g) (Z4 c g).left).2.1,(bK (O7 c g) (Z4 c g).left).2.2):=by
   have hk' :A1 (Y c.views (g - O c.k9)).kind 2=W:=hk;have hb' :=O5 c (Y c.views (g - O c.k9)).left g;unfold tH bK;rw [hn,dG c hg,cA c V];unfold aS WX lY DA;rw [if_neg hnt,if_neg hnt,hk',if_pos rfl,if_pos rfl,aB c V,CW c V];rfl
  simp_all
 .have e1:tH c g=((Z4 c g).name,(dP (Z4 c g)).map Ic.name,cL (Z4 c g) ((bK (O7 c g) (Z4 c g).left).2.2++(Kc (O7 c g) (Z4 c g)).2.2)):=by
   have hk' :A1 (Y c.views (g - O c.k9)).kind 2=F:=hk;rw [aA7 hg hs.2.1,aC0 hg hs.2.2.1];unfold tH;rw [hn];unfold aS WX lY DA;rw [if_neg hnt,if_neg hnt,hk',if_neg U,if_neg U];rfl
  simp_all
def VS {v:Vw}(hk:s4 v.kind 0 2=W)(h:ff v=W)(h2:A1 v.kind 2=F):0<O v.items+O v.L7:=by
 unfold ff at h;rw [h2,if_neg U] at h
 rcases C9 (A1 v.kind 0) with h0|h0
 .rw [h0,if_pos rfl] at h
  simp only [c8,o8,E5] at h;have:=qz h.1.1;omega
 .rw [h0,if_neg U] at h
  simp only [c8,o8,E5] at h;have:=qz h.1.1;omega
theorem JN {c:s6}(hs:J8 c):∀(n k:Nat),k<n->n<=s6.ns c->mO c n->0<O (aS c k)/\0<O (WX c k)/\O (WX c k)<=2000
 |0,k,h,_,_=>absurd h V
 |n+1,k,h,hn,ho=>by
  rcases x9 k n with h1|h1
  .exact JN hs n k h1 V (λm hm=>ho m V)
  obtain rfl:k=n:=V
  rcases x9 k (O c.k9) with h2|h2
  .have h3:=hs.sm.p9 k h2
   have h4:=(fN (Z9 (ho k V) h2)).1;unfold aS WX lY DA;rw [if_pos h2,if_pos h2];simp;omega
  .have h3:¬ k<O c.k9:=V
   have hv:k - O c.k9<O c.views:=by unfold s6.ns at hn;omega
   have hsr:=jq (iD (ho k V) h2 V);unfold Z4 at hsr;unfold aS WX lY DA;rw [if_neg h3,if_neg h3]
   rcases C9 (A1 (Y c.views (k - O c.k9)).kind 2) with hk|hk
   .have hb:=O5 c (Y c.views (k - O c.k9)).left k
    have f1:=hsr.2.1;rw [hk,if_pos rfl,if_pos rfl,aB c V,CW c V];exact JN hs k _ V V (λm hm=>ho m V)
   .have h5:=VS hsr.1 hsr.2.2.2 hk
    have h6:=hs.items _ hv;have h7:=hs.L7 _ hv;rw [hk,if_neg U,if_neg U,C5,nq];simp only [cL,s9,C5];omega
def STc (c:s6)(g:Nat)(ds:List M6)(ss:List gU):Prop:=ds=c.names.take g/\ss=O7 c (min g (s6.ns c))
def dN [Inhabited XO] (c:s6)(f:FuncId)(i g:Nat):Prop:=∃dz sz,(Q4 c g=0->STc c (g+1) dz sz)/\Pm A f [.ptr 5 0,.d (Z i)] (HH c (c.names.take g) (O7 c (min g (s6.ns c)))) lW (.d (Z (Q4 c g))) (HH c dz sz)
def ZX [Inhabited XO] {c:s6}(hs:J8 c){i:Nat}(hi:i<O c.k9)(hok:mO c i):dN c 149 i i:=by
 have gv:i<s6.ns c:=by unfold s6.ns;omega
 have hf:=hs.sm.lH.1;have hm:min i (s6.ns c)=i:=V
 have p:=bP2 c (c.names.take i) (O7 c i) i hi (hs.sm.p9 i hi) (λj hj=>hs.sm.L0 i j hi hj) (by rw [cz];omega) (by rw [cz];omega) V
  (λk hk=>by
   rw [cz] at hk;have h1:=(fN (Z9 (hok k hk) V)).1;rw [cA c hk];refine ⟨?_,h1⟩;show 0<O (aS c k)
   rw [Ce c V];simpa using h1) (λs hs' =>Si c V s hs')
 rw [Sj hi hok] at p;unfold dN;rw [hm];refine ⟨_,_,λh0=>?_,p⟩;unfold STc;have hnl:i<O c.names:=by have:=Y3 c;omega
 rw [av9 hi hok h0,<- xK c hi,fE c i hnl h0,Nat.min_eq_left V];exact ⟨rfl,rfl⟩
def Wb [Inhabited XO] {c:s6}(hs:J8 c)(hn:s6.ns c<=1000){g:Nat}(h:O c.k9<=g)(h2:g<s6.ns c)(hok:mO c g):dN c 150 (g - O c.k9) g:=by
 have hv:g - O c.k9<O c.views:=by grind [s6.ns]
 have p:=bP3 c (c.names.take g) (O7 c g) (g - O c.k9) hv (hs.on _ hv) (hs.wh _ hv) (hs.items _ hv) (hs.L7 _ hv) (λj hj=>hs.Lq _ j hv hj) (λj hj=>hs.WJ _ j hv hj) (by rw [cz];omega)
  (λk hk=>by
   rw [cz] at hk;have h1:=JN hs g k hk V hok;have h3:=ee hs g k hk V (kV hok V);rw [cA c hk];exact ⟨h1.2.1,by show O (WX c k)<=5000;omega,h1.1,by show O (aS c k)<=5000;omega⟩) (λs hs' =>Si c V s hs')
 grind [Y,Z4,ML,dN,STc,Y3,ab0,uC,fE,Nat.min_eq_left]
def ZT [Inhabited XO] {c:s6}(hs:J8 c)  {g i:Nat}(hg:g=s6.ns c+i)(hi:i<O c.idxs)(hok:mO c g):dN c 151 i g:=by
 have hn:Y c.names g=(Y c.idxs i).name:=by
  rw [hg];exact bE c (s6.sn c) (c.M7.map oh.name++c.O0.map rY.name++c.R1.map qh.name++c.S8.map uP.name++c.W6.map uO.name) c.idxs pe.name (by simp [s6.names,s6.sn]) (by simp [aQ]) hi
 have hnl:g<O c.names:=by rw [fc];omega
 have uQ:∀k,k<O (O7 c (s6.ns c))->O (Y (O7 c (s6.ns c)) k).2.2<=100000:=λk hk=>by
  rw [cz] at hk;have h3:=ee hs (s6.ns c) k hk (o6 _) (kV (λm hm=>hok m V) (o6 _));rw [cA c hk];show O (aS c k)<=100000
  omega
 have p:=bP4 c (c.names.take g) (O7 c (s6.ns c)) i hi uQ
 grind [ao3,dN,STc,fE,Nat.min_eq_right]
def ZV [Inhabited XO] {c:s6}(hs:J8 c)  {g i:Nat}(hg:g=s6.ns c+(O c.idxs)+i)(hi:i<O c.M7)(hok:mO c g):dN c 152 i g:=by
 have hn:Y c.names g=(Y c.M7 i).name:=by
  rw [hg];exact bE c (s6.sn c++c.idxs.map pe.name) (c.O0.map rY.name++c.R1.map qh.name++c.S8.map uP.name++c.W6.map uO.name) c.M7 oh.name (by simp [s6.names,s6.sn]) (by simp [aQ]) hi
 have hnl:g<O c.names:=by rw [fc];omega
 have uQ:∀k,k<O (O7 c (s6.ns c))->O (Y (O7 c (s6.ns c)) k).2.2<=100000:=λk hk=>by
  rw [cz] at hk;have h3:=ee hs (s6.ns c) k hk (o6 _) (kV (λm hm=>hok m V) (o6 _));rw [cA c hk];show O (aS c k)<=100000
  omega
 have p:=bP5 c (c.names.take g) (O7 c (s6.ns c)) i hi uQ
 grind [au7,dN,STc,fE,Nat.min_eq_right]
def ZS [Inhabited XO] {c:s6}(hs:J8 c)  {g i:Nat}(hg:g=s6.ns c+(O c.idxs+O c.M7)+i)(hi:i<O c.O0)(hok:mO c g):dN c 153 i g:=by
 have hn:Y c.names g=(Y c.O0 i).name:=by
  rw [hg];exact bE c (s6.sn c++c.idxs.map pe.name++c.M7.map oh.name) (c.R1.map qh.name++c.S8.map uP.name++c.W6.map uO.name) c.O0 rY.name (by simp [s6.names,s6.sn]) (by simp [aQ]) hi
 have hnl:g<O c.names:=by rw [fc];omega
 have uQ:∀k,k<O (O7 c (s6.ns c))->O (Y (O7 c (s6.ns c)) k).2.2<=100000:=λk hk=>by
  rw [cz] at hk;have h3:=ee hs (s6.ns c) k hk (o6 _) (kV (λm hm=>hok m V) (o6 _));rw [cA c hk];show O (aS c k)<=100000
  omega
 have p:=bP6 c (c.names.take g) (O7 c (s6.ns c)) i hi uQ
 grind [ak6,dN,STc,fE,Nat.min_eq_right]
def ZU [Inhabited XO] {c:s6}(hs:J8 c)(Wq:∀k,k<O c.views->(Y c.views k).kind≠1\/0<O (Y c.views k).L7){g i:Nat}(hg:g=s6.ns c+(O c.idxs+O c.M7+O c.O0)+i)(hi:i<O c.R1)(hok:mO c g):dN c 154 i g:=by
 have hn:Y c.names g=(Y c.R1 i).name:=by
  rw [hg];exact bE c (s6.sn c++c.idxs.map pe.name++c.M7.map oh.name++c.O0.map rY.name) (c.S8.map uP.name++c.W6.map uO.name) c.R1 qh.name (by simp [s6.names,s6.sn]) (by simp [aQ,M9]) hi
 have hnl:g<O c.names:=by rw [fc];omega
 have p:=bP7 c (c.names.take g) (O7 c (s6.ns c)) i hi hs.sm.lH.1 (by rw [cz];exact o6 _) hs.sm.lH.2.1 Wq
 grind [as8,dN,STc,fE,Nat.min_eq_right]
def ZW [Inhabited XO] {c:s6}(hs:J8 c)  {g i:Nat}(hg:g=s6.ns c+(O c.idxs+O c.M7+O c.O0+O c.R1)+i)(hi:i<O c.S8)(hok:mO c g):dN c 155 i g:=by
 have hn:Y c.names g=(Y c.S8 i).name:=by
  rw [hg];exact bE c (s6.sn c++c.idxs.map pe.name++c.M7.map oh.name++c.O0.map rY.name++c.R1.map qh.name) (c.W6.map uO.name) c.S8 uP.name (by rfl) (by simp [aQ,M9]) hi
 have hnl:g<O c.names:=by rw [fc];omega
 have p:=bP8 c (c.names.take g) (O7 c (s6.ns c)) i hi hs.sm.lH.1
 grind [av7,dN,STc,fE,Nat.min_eq_right]
def ZR [Inhabited XO] {c:s6}(hs:J8 c)  {g i:Nat}(hg:g=s6.ns c+(O c.idxs+O c.M7+O c.O0+O c.R1+O c.S8)+i)(hi:i<O c.W6)(hok:mO c g):dN c 156 i g:=by
 have hn:Y c.names g=(Y c.W6 i).name:=by
  rw [hg];exact bE c (s6.sn c++c.idxs.map pe.name++c.M7.map oh.name++c.O0.map rY.name++c.R1.map qh.name++c.S8.map uP.name) ([]) c.W6 uO.name (by simp [s6.names,s6.sn]) (by simp [aQ,M9]) hi
 have hnl:g<O c.names:=by rw [fc];omega
 have p:=bP9 c (c.names.take g) (O7 c (s6.ns c)) i hi hs.sm.lH.1 (hs.bk i hi)
 grind [aG6,dN,STc,fE,Nat.min_eq_right]
def ap0 {c:s6}(h:tooMany c=F):s6.ns c<=20:=by
 simp only [tooMany,Gc,A5,E5,decide_eq_false_iff_not] at h;unfold s6.ns;omega
def bj1 [Inhabited XO] (c:s6)(hs:J8 c):Pq A 101 [cat c] [xa,xo] Q9 (AZ c c.names (O7 c (s6.ns c))):=by
 have hnl:=Y3 c;refine bQ2 c hs.sm.lH (STc c) ⟨rfl,rfl⟩ (λg ds ss ds' ss' h h' =>⟨h.1.trans h'.1.symm,h.2.trans h'.2.symm⟩) _ _ (λds ss h=>⟨by rw [h.1,List.take_length],by rw [h.2,Nat.min_eq_right hnl]⟩) ?_;rintro q i ds ss hq hi Ro hok ⟨rfl,rfl⟩;have h20:=ap0 Ro
 match q,hq with
 |0,_ =>
  have hi' :i<O c.k9:=hi;have e:bg c 0+i=i:=by simp [bg]
  rw [e] at hok ⊢;exact ZX hs hi' hok
 |1,_ =>
  have hi' :i<O c.views:=hi;have e:bg c 1+i=O c.k9+i:=by simp [bg,cnt]
  rw [e] at hok ⊢;have:=Wb hs V (g:=O c.k9+i) V (by unfold s6.ns;omega) hok;rw [Nat.add_sub_cancel_left] at this;exact this
 |2,_=>exact ZT hs (by simp [bg,cnt,s6.ns]) hi hok
 |3,_=>exact ZV hs (by simp [bg,cnt,s6.ns,M9]) hi hok
 |4,_=>exact ZS hs (by simp [bg,cnt,s6.ns,M9]) hi hok
 |5,_ =>
  refine ZU hs (λk hk=>?_) (by simp [bg,cnt,s6.ns,M9]) hi hok;have hle:s6.ns c<=bg c 5+i:=by simp [bg,cnt,s6.ns];omega
  have h9:=jq (iD (hok (k+O c.k9) (by unfold s6.ns at hle;omega)) V (by unfold s6.ns;omega));have h10:Z4 c (k+O c.k9)=Y c.views k:=by unfold Z4;rw [Nat.add_sub_cancel]
  rw [h10] at h9;exact Gx h9.2.2.2
 |6,_=>exact ZW hs (by simp [bg,cnt,s6.ns,M9]) hi hok
 |7,_=>exact ZR hs (by simp [bg,cnt,s6.ns,M9]) hi hok
end Go.Proofs.YtibjocmpkoepoaaGreat


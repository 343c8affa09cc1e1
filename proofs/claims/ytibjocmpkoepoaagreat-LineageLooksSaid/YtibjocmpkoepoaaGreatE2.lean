import Derived.Test.YtibjocmpkoepoaaGreatE0
set_option linter.all false
open Bool renaming and_eq_true→c7,eq_false_or_eq_true→D4,not_eq_false'→E4,not_eq_true'→p6,or_eq_false_iff→J3,true→W,false→F
open List renaming append_assoc→D3,getElem_of_mem→R3,length_append→n5,length_map→A7,take_length→H8,take_of_length_le→z7,length→O
open Nat renaming add_assoc→O8,le_refl→l6,lt_or_ge→A5
open Option renaming some→J,none→K
namespace Go.Proofs.YtibjocmpkoepoaaGreat
open Go.A1 Go.A1.S
def EA (c:s5)(prev:List (List M3))(k:Nat):List M3 :=
 if k<O c.k9 then (Y c.k9 k).s6.map gu.name
 else if u7 (Y c.views (k - O c.k9)).kind 2 then Y prev (I4 c (Y c.views (k - O c.k9)).left k).toNat
 else (dK (Y c.views (k - O c.k9))).map Gz.name
def MR (c:s5):Nat->List (List M3)
 |0=>[]
 |k+1=>MR c k++[EA c (MR c k) k]
def YE (c:s5)(k:Nat):List M3:=EA c (MR c k) k
theorem MS (c:s5):∀k,O (MR c k)=k
 |0=>rfl
 |k+1=>by simp [MR,MS c k]
theorem DT (c:s5):∀{k j:Nat},j<k->Y (MR c k) j=YE c j
 |k+1,j,h=>by
  have hl:=MS c k
  rcases A5 j k with h1|h1
  .rw [<- DT c h1,MR,E6 D,E6 V,List.getElem_append_left V]
  grind [MR,E6,List.getElem_append_right,YE]
def rW (c:s5)(j:Nat):gU:=(Y (s5.sn c) j,YE c j,P4 c j)
def O7 (c:s5)(k:Nat):List gU:=(List.range k).map (rW c)
def aN (c:s5)(k:Nat):O (O7 c k)=k:=by simp [O7]
def bI (c:s5){k j:Nat}(h:j<k):Y (O7 c k) j=rW c j:=by
 simp_all [E6,aN,O7]
def EG (c:s5)(k:Nat):O7 c (k+1)=O7 c k++[rW c k]:=by simp [O7,List.range_succ]
def rX (c:s5){k:Nat}(h:k<=s5.ns c):(O7 c k).map (·.1)=(s5.sn c).take k:=by
 apply List.ext_getElem
 all_goals grind [aK,O7,s5.sn,rW,E6]
def dQ (c:s5){k:Nat}(h:k<=s5.ns c)(s:M3):K9 s ((O7 c k).map (·.1)) 0=I4 c s k:=by rw [rX c h];rfl
def yX (c:s5){g:Nat}(h:g<O c.k9):Y c.names g=(Y c.k9 g).name:=by
 rw [E6 (by grind [s5.names]),E6 h];simp_all [s5.names]
def jk (c:s5)(g:Nat)(s:M3)(h:Y c.names g=s)(e:Int)(he:R9 c g=(if !M8 (Y c.names g) then 3 else if (c.names.take g).any λy=>P8 y (Y c.names g) then 4 else e)) :
  R9 c g=if !u7 (T3 (c.names.take g) s) 0 then T3 (c.names.take g) s else e:=by
 unfold T3
 grind [u7,M8,P8]
theorem fJ (c:s5)(g:Nat)(hg:g<O c.names)(h:R9 c g=0):R6 (c.names.take g) (Y c.names g)=c.names.take (g+1):=by
 grind [De,T3,Y,R6,E2,o8]
def TN (c:s5){g:Nat}(h:g<=s5.ns c)(s:M3)(hs:((c.names.take g).any λy=>P8 y s)=F):(((O7 c g).map (·.1)).any λy=>P8 y s)=F:=by
 rw [rX c h];have h1:c.names=s5.sn c++(c.idxs.map qh.name++c.O1.map oO.name++c.P3.map sV.name++c.T0.map qI.name++c.U0.map vL.name++c.W7.map vJ.name):=by simp [s5.names,s5.sn]
 grind [s5.sn,aK]
theorem Mn:∀(l:List M3) (i:Nat),(∀x,x∈l->x≠[])->K9 [] l i= -1
 |[],_,_=>rfl
 |x::l,i,h=>by
  have h1:P8 x []=F:=by simp [D2,h x (List.mem_cons_self)]
  simp [K9,h1,if_false];exact Mn l (i+1) λy hy=>h y (List.mem_cons_of_mem _ hy)
theorem aA3 {s:M3}(h:M8 s=W):s≠[]:=by
 grind [M8]
def aE9 (c:s5){g:Nat}(h:g<=s5.ns c):(s5.sn c).take g=c.names.take g:=by
 have h1:c.names=s5.sn c++(c.idxs.map qh.name++c.O1.map oO.name++c.P3.map sV.name++c.T0.map qI.name++c.U0.map vL.name++c.W7.map vJ.name):=by simp [s5.names,s5.sn]
 simp_all [List.take_append_of_le_length,aK]
theorem Zb {c:s5}{g:Nat}(hg:g<=s5.ns c)(hok:mT c g):I4 c [] g= -1:=by
 apply Mn;intro x hx;rw [aE9 c hg] at hx;obtain ⟨j,hj,rfl⟩:=R3 hx;have h1:j<g:=by grind
 have h2:=De (hok j h1)
 grind [E6,E4,aA3]
def NT (c:s5){g:Nat}(h:g<=O c.k9)(s:M3):gZ c s g=I4 c s g:=by
 grind [gZ,Nat.min_eq_left]
def wu (c:s5){k:Nat}(h:k<O c.k9):P4 c k=(Y c.k9 k).s6.map gu.type:=by
 simp_all [P4,jt]
def aA7 {α β:Type} [Inhabited α] [Inhabited β] (f:α->β){l:List α}{i:Nat}(h:i<O l):Y (l.map f) i=f (Y l i):=by
 simp_all [E6]
def YV (a b:Int):u7 a b=u7 b a:=by
 simp [o8]
 grind
def Ny (t:jV)(x:gu):(!pV t x)=((!s7 x.jN 0 1||(u7 (O x.L8) 0&&(!u7 x.jN 0|| !u7 x.oV 0)))||(!s7 x.oV 0 1048576||(!u7 t.cN 0&&F6 t.cN x.oV))):=by
 have h1:u7 (O x.L8) 0= !F6 0 (O x.L8):=by
  simp [o8,s9]
  grind
 have h2:s7 x.jN 0 1=(u7 x.jN 0||u7 x.jN 1):=by
  simp [s7,s8,o8]
  grind
 have h3:F6 t.cN x.oV= !cg x.oV t.cN:=by
  simp [s8,s9]
  grind
 grind [pV,u7,F6,s7,cg]
def aY0:∀(A i7 C ow wj d9 wd ret E:Bool),(if A=W then (3:Int) else if i7=W then 4 else if C=W then 5 else if (ow||((wj||d9)||(wd||ret)))=W then 1 else if E=W then 1 else 0)=(if A=W then (3:Int) else if i7=W then 4 else if C=W then 5 else if (ow||wj||d9)=W then 1 else if (wd||ret||E)=W then 1 else 0):=by decide
def aY1:∀(A i7 C sp ow wj d9 wd ret E i4:Bool),(if A=W then (3:Int) else if i7=W then 4 else if C=W then 5 else if (sp||ow||((wj||d9)||(wd||ret)))=W then 1 else if E=W then 1 else if i4=W then 1 else 0)=(if A=W then (3:Int) else if i7=W then 4 else if C=W then 5 else if (sp||ow||wj||d9)=W then 1 else if (wd||ret||E)=W then 1 else if i4=W then 1 else 0):=by decide
set_option maxHeartbeats 4000000 in
def av2 {c:s5}{g i:Nat}(hg:g<O c.k9)(hok:mT c g):tL c (O7 c g) (Y c.k9 g) i=eo c g i:=by
 have gY:g<=s5.ns c:=by grind [s5.ns]
 unfold tL eo;rw [dQ c gY,NT c V];generalize hx:Y (Y c.k9 g).s6 i=x;have hTO:=M4 c x.refs g;have hnil:P8 x.refs []=W->I4 c x.refs g= -1:=λh=>by grind [bB8,Zb]
 have uZ:0<=I4 c x.refs g->Y (Y (O7 c g) (I4 c x.refs g).toNat).2.2 0=(Y (Y c.k9 (I4 c x.refs g).toNat).s6 0).type:=λh=>by
  have h1:(I4 c x.refs g).toNat<g:=V
  rw [bI c h1];show Y (P4 c _) 0=_
  rw [wu c V,aA7 _ (mB (nI (hok _ h1) V)).1]
 generalize I4 c x.refs g=TO at *
 rcases D4 (P8 x.refs []) with hr|hr
 .have h1:=hnil hr
  have h2:cg 0 (-1)=F:=by simp [s8]
  rw [Ny]
  grind
 .rcases D4 (cg 0 TO) with h0|h0
  .rw [uZ (qo h0)]
   have h2:F6 TO 0=F:=by simp_all [qo,s9]
   rw [Ny,YV x.type (Y (Y c.k9 TO.toNat).s6 0).type];simp only [Bool.not_or,hasB]
   grind
  simp_all [F6,Am,s9,Bool.not_false,Bool.and_self,if_true]
theorem LL {c:s5}{g:Nat}(hg:g<O c.k9)(hok:mT c g):∀k i,GI c (O7 c g) (Y c.k9 g) k i=iX c g k i
 |0,_=>rfl
 |k+1,i=>by
  rw [GI,iX,av2 hg hok,LL hg hok k (i+1)]
def XI (t:jV):rY t=(!s7 (O t.s6) 1 8|| !s7 t.erase 0 1|| !s7 t.cN 0 1048576):=by
 have h2:s7 t.erase 0 1=(u7 t.erase 0||u7 t.erase 1):=by
  simp [s7,s8,o8]
  grind
 simp_all [rY,Bool.not_or]
def TP {c:s5}{g:Nat}(hg:g<O c.k9)(hok:mT c g):zB c (O7 c g) (c.names.take g) (Y c.k9 g)=R9 c g:=by
 have he:=jk c g (Y c.k9 g).name (yX c hg) (iL c g) (by simp_all [R9]);simp_all [zB,iL,XI,LL]
def aG0 {c:s5}{g:Nat}(hg:g<O c.k9)(hok:mT c g)(h0:R9 c g=0):NS c (O7 c g) (c.names.take g) (Y c.k9 g)=O7 c (g+1):=by
 unfold NS;rw [TP hg hok,h0,EG];have h1:rW c g=((Y c.k9 g).name,(Y c.k9 g).s6.map gu.name,(Y c.k9 g).s6.map gu.type):=by
  unfold rW;rw [wu c hg,<- DQ c (by grind [s5.ns]),yX c hg];simp_all [YE,EA,if_pos]
 simp_all [o8]
def Ky (c:s5)(s:M3)(col:Int):ot (O7 c (s5.ns c)) s col=oq c s col:=by
 unfold ot oq;rw [dQ c (l6 _)];have hb:=M4 c s (s5.ns c)
 rcases D4 (F6 (I4 c s (s5.ns c)) 0) with h|h
 .simp_all
 .have h1:=B5 h
  rw [bI c V];rfl
def Ms (c:s5)(s:M3):(!pM c (O7 c (s5.ns c)) s)=F6 (gZ c s (O c.k9)) 0:=by
 unfold pM;rw [dQ c (l6 _),NT c (l6 _)];unfold I4;have h0:(s5.sn c).take (s5.ns c)=s5.sn c:=z7 (by rw [aK];omega);have h1:∀(l:List M3) (k i:Nat),(K9 s (l.take k) i= -1/\(K9 s l i= -1\/((i:Int)+k<=K9 s l i/\k<=O l)))\/(K9 s (l.take k) i=K9 s l i/\(i:Int)<=K9 s l i/\K9 s l i<i+k):=by
  intro l
  induction l with
  |nil=>simp_all [K9]
  |cons x l ih =>
   intro k i;cases k with
   |zero =>
    grind [iF]
   |succ k =>
    simp [List.take_succ_cons,K9]
    all_goals grind
 rcases h1 (s5.sn c) (O c.k9) 0 with h|h
 .have e1:F6 (K9 s ((s5.sn c).take (O c.k9)) 0) 0=W:=by simp_all [s9,decide_eq_true_eq]
  grind [s7,K9,s5.sn,s8,Bool.and_eq_false_iff,decide_eq_false_iff_not]
 .have e1:F6 (K9 s ((s5.sn c).take (O c.k9)) 0) 0=F:=by simp_all [s9,decide_eq_false_iff_not]
  have e2:s7 (K9 s (s5.sn c) 0) 0 (O c.k9 - 1)=W:=by simp [s7,s8,c7,decide_eq_true_eq];omega
  simp_all
theorem Yp (c:s5):∀seen l,bkL c (O7 c (s5.ns c)) seen l=bkE c seen l
 |_,[]=>rfl
 |seen,t::r=>by
  rw [bkL,bkE,Ms,Yp c (seen++[t]) r]
def bF (c:s5){g i:Nat}{α:Type} [Inhabited α] (l1 l3:List M3)(l2:List α)(f:α->M3)(h:c.names=l1++l2.map f++l3)(hl:O l1=g)(hi:i<O l2):Y c.names (g+i)=f (Y l2 i):=by
 grind [D3,E6,List.getElem_append_right,Nat.add_sub_cancel_left,List.getElem_append_left]
def nJ {c:s5}{g:Nat}(h:s5.ns c<=g):R9 c g=(if !M8 (Y c.names g) then 3 else if (c.names.take g).any λy=>P8 y (Y c.names g) then 4 else Y3 c (g - s5.ns c)):=by
 grind [s5.ns,R9]
theorem az0 {c:s5}{g i:Nat}(hg:g=s5.ns c+i)(hi:i<O c.idxs):Ml (O7 c (s5.ns c)) (c.names.take g) (Y c.idxs i)=R9 c g:=by
 have hn:Y c.names g=(Y c.idxs i).name:=by
  rw [hg];exact bF c (s5.sn c) (c.O1.map oO.name++c.P3.map sV.name++c.T0.map qI.name++c.U0.map vL.name++c.W7.map vJ.name) c.idxs qh.name (by simp [s5.names,s5.sn]) (aK c) hi
 have he:=jk c g _ hn (Y3 c (g - s5.ns c)) (nJ V);rw [he];have e1:Y3 c (g - s5.ns c)=WM c (Y c.idxs i):=by
  simp_all [Nat.add_sub_cancel_left,Y3,if_pos]
 rw [e1];unfold Ml WM;rw [Ky]
 grind [u7,oq,Y]
theorem au8 {c:s5}{g i:Nat}(hg:g=s5.ns c+(O c.idxs+O c.O1)+i)(hi:i<O c.P3):Lx (O7 c (s5.ns c)) (c.names.take g) (Y c.P3 i)=R9 c g:=by
 have hn:Y c.names g=(Y c.P3 i).name:=by
  rw [hg];exact bF c (s5.sn c++c.idxs.map qh.name++c.O1.map oO.name) (c.T0.map qI.name++c.U0.map vL.name++c.W7.map vJ.name) c.P3 sV.name (by simp [s5.names,s5.sn]) (by simp [aK]) hi
 have he:=jk c g _ hn (Y3 c (g - s5.ns c)) (nJ V);rw [he];have e1:Y3 c (g - s5.ns c)=Wi c (Y c.P3 i):=by
  have hm:g - s5.ns c=O c.idxs+O c.O1+i:=V
  unfold Y3
  grind
 rw [e1];unfold Lx Wi;rw [Ky]
 grind [u7,oq,Y]
theorem aF7 {c:s5}{g i:Nat}(hg:g=s5.ns c+(O c.idxs+O c.O1+O c.P3+O c.T0)+i)(hi:i<O c.U0):RH c (O7 c (s5.ns c)) (c.names.take g) (Y c.U0 i)=R9 c g:=by
 have hn:Y c.names g=(Y c.U0 i).name:=by
  rw [hg];exact bF c (s5.sn c++c.idxs.map qh.name++c.O1.map oO.name++c.P3.map sV.name++c.T0.map qI.name) (c.W7.map vJ.name) c.U0 vL.name (by rfl) (by simp [aK,O8]) hi
 have he:=jk c g _ hn (Y3 c (g - s5.ns c)) (nJ V);have e1:Y3 c (g - s5.ns c)=XG c (Y c.U0 i):=by
  have hm:g - s5.ns c=(O c.idxs+O c.O1+O c.P3+O c.T0)+i:=V
  unfold Y3
  grind
 simp_all [RH,XG,Ms]
theorem aR6 {c:s5}{g i:Nat}(hg:g=s5.ns c+(O c.idxs+O c.O1+O c.P3+O c.T0+O c.U0)+i)(hi:i<O c.W7):bkM c (O7 c (s5.ns c)) (c.names.take g) (Y c.W7 i)=R9 c g:=by
 have hn:Y c.names g=(Y c.W7 i).name:=by
  rw [hg];exact bF c (s5.sn c++c.idxs.map qh.name++c.O1.map oO.name++c.P3.map sV.name++c.T0.map qI.name++c.U0.map vL.name) ([]) c.W7 vJ.name (by simp [s5.names,s5.sn]) (by simp [aK,O8]) hi
 have he:=jk c g _ hn (Y3 c (g - s5.ns c)) (nJ V);have e1:Y3 c (g - s5.ns c)=Lp c (Y c.W7 i):=by
  have hm:g - s5.ns c=(O c.idxs+O c.O1+O c.P3+O c.T0+O c.U0)+i:=V
  unfold Y3
  grind
 simp_all [bkM,Lp,Yp]
theorem aE7 {c:s5}{g i:Nat}(hg:g=s5.ns c+(O c.idxs)+i)(hi:i<O c.O1):Eo (O7 c (s5.ns c)) (c.names.take g) (Y c.O1 i)=R9 c g:=by
 have hn:Y c.names g=(Y c.O1 i).name:=by
  rw [hg];exact bF c (s5.sn c++c.idxs.map qh.name) (c.P3.map sV.name++c.T0.map qI.name++c.U0.map vL.name++c.W7.map vJ.name) c.O1 oO.name (by simp [s5.names,s5.sn]) (by simp [aK]) hi
 have he:=jk c g _ hn (Y3 c (g - s5.ns c)) (nJ V);rw [he];have e1:Y3 c (g - s5.ns c)=Gv c (Y c.O1 i):=by
  have hm:g - s5.ns c=(O c.idxs)+i:=V
  unfold Y3
  grind
 rw [e1];unfold Eo Gv Kr;rw [Ky];generalize Y c.O1 i=x;have h2:s7 x.kind 0 2=(u7 x.kind 0||u7 x.kind 1||u7 x.kind 2):=by
  simp [s7,s8,o8]
  grind
 grind
theorem aD1 {c:s5}{g i:Nat}(hg:g=s5.ns c+(O c.idxs+O c.O1+O c.P3)+i)(hi:i<O c.T0):Nu c (O7 c (s5.ns c)) (c.names.take g) (Y c.T0 i)=R9 c g:=by
 have hn:Y c.names g=(Y c.T0 i).name:=by
  rw [hg];exact bF c (s5.sn c++c.idxs.map qh.name++c.O1.map oO.name++c.P3.map sV.name) (c.U0.map vL.name++c.W7.map vJ.name) c.T0 qI.name (by simp [s5.names,s5.sn]) (by simp [aK,O8]) hi
 have he:=jk c g _ hn (Y3 c (g - s5.ns c)) (nJ V);rw [he];have e1:Y3 c (g - s5.ns c)=Nt c (Y c.T0 i):=by
  have hm:g - s5.ns c=(O c.idxs+O c.O1+O c.P3)+i:=V
  unfold Y3
  grind
 rw [e1];unfold Nu Nt rlV;rw [dQ c (l6 _)]
 grind [F6,I4,Y,s5.ns]
def Fa (k:Int):s7 k 0 2=(u7 k 0||u7 k 1||u7 k 2):=by
 simp [s7,s8,o8]
 grind
def ah5 {v:Vw}(h:s7 v.kind 0 2=W):mU v=cn v:=by
 have h1:F6 0 (O v.on)= !u7 (O v.on) 0:=by
  simp [o8,s9]
  grind
 have h2:F6 8 (O v.on)= !cg (O v.on) 8:=by
  simp [s8,s9]
  grind
 rw [Fa] at h;unfold mU cn mV;have hx:u7 v.kind 0=W->u7 v.kind 1=F/\u7 v.kind 2=F:=λh=>by
  simp_all [eE,o8]
 have hy:u7 v.kind 1=W->u7 v.kind 2=F:=λh=>by
  simp_all [eE,o8]
 grind
def aL3 {c:s5}{g:Nat}(hg:g<=s5.ns c)(h:0<=I4 c (Z2 c g).left g):(bU (O7 c g) (Z2 c g).left).2.2=lT c g:=by
 have hb:=M4 c (Z2 c g).left g;unfold bU lT;rw [dQ c hg,bI c V,X5 c V];rfl
def aN5 {c:s5}{g:Nat}(hg:g<=s5.ns c)(h:P8 (Z2 c g).right []=F->0<=I4 c (Z2 c g).right g):(KZ (O7 c g) (Z2 c g)).2.2=rT c g:=by
 have hb:=M4 c (Z2 c g).right g;unfold KZ rT bU
 rcases D4 (P8 (Z2 c g).right []) with hr|hr
 .rw [hr];rfl
 .have:=h hr
  rw [hr,if_neg U,if_neg U,dQ c hg,bI c V,X5 c V];rfl
theorem vq (c:s5){g:Nat}(h:O c.k9<=g)(h2:g<s5.ns c):Y c.names g=(Z2 c g).name:=by
 have hv:g - O c.k9<O c.views:=by grind [s5.ns]
 have:=bF c (i:=g - O c.k9) (c.k9.map jV.name) (c.idxs.map qh.name++c.O1.map oO.name++c.P3.map sV.name++c.T0.map qI.name++c.U0.map vL.name++c.W7.map vJ.name) c.views Vw.name (by simp [s5.names]) (g:=O c.k9) U hv;rw [show O c.k9+(g - O c.k9)=g by omega] at this;exact this
theorem Oj {c:s5}{g:Nat}(h:O c.k9<=g)(h2:g<s5.ns c):fS (O7 c g) (c.names.take g) (Z2 c g)=R9 c g:=by
 have hg:g<=s5.ns c:=V
 have he:=jk c g _ (vq c h h2) (Y6 c g) (by
  grind [R9])
 rw [he];unfold fS Y6;rw [Fa,dQ c hg,dQ c hg];simp only [Bool.not_or]
 rcases D4 (!u7 (Z2 c g).kind 0&& !u7 (Z2 c g).kind 1&& !u7 (Z2 c g).kind 2) with k1|k1
 .simp_all
 .rcases D4 (F6 (I4 c (Z2 c g).left g) 0||(!P8 (Z2 c g).right []&&F6 (I4 c (Z2 c g).right g) 0)) with k2|k2
  .simp_all
  .have k2' :=k2
   simp [J3] at k2';have f1:=B5 k2'.1;have f2:P8 (Z2 c g).right []=F->0<=I4 c (Z2 c g).right g:=λh=>by
    simp_all [Bool.not_false,Bool.true_and,B5]
   have hk:s7 (Z2 c g).kind 0 2=W:=by
    rw [Fa]
    grind
   rw [ah5 hk,aL3 hg f1,aN5 hg f2];rfl
theorem al6 {c:s5}{g:Nat}(h:O c.k9<=g)(h2:g<s5.ns c)(h0:R9 c g=0):uk (O7 c g) (c.names.take g) (Z2 c g)=O7 c (g+1):=by
 have hg:g<=s5.ns c:=V
 have hs:=jy (fh h0 h h2);have hb:=M4 c (Z2 c g).left g;have h00:u7 0 0=W:=by simp [o8]
 have hn:Y (s5.sn c) g=(Z2 c g).name:=by rw [<- DQ c h2,vq c h h2]
 have hnt:¬ g<O c.k9:=V
 unfold uk;rw [Oj h h2,h0,h00,if_pos rfl,EG]
 rcases D4 (u7 (Z2 c g).kind 2) with hk|hk
 .have e1:rW c g=((Z2 c g).name,(bU (O7 c g) (Z2 c g).left).2.1,(bU (O7 c g) (Z2 c g).left).2.2):=by
   have hk' :u7 (Y c.views (g - O c.k9)).kind 2=W:=hk;have hb' :=M4 c (Y c.views (g - O c.k9)).left g;unfold rW bU;rw [hn,dQ c hg,bI c V];unfold P4 YE jt EA;rw [if_neg hnt,if_neg hnt,hk',if_pos rfl,if_pos rfl,X5 c V,DT c V];rfl
  simp_all
 .have e1:rW c g=((Z2 c g).name,(dK (Z2 c g)).map Gz.name,bA (Z2 c g) ((bU (O7 c g) (Z2 c g).left).2.2++(KZ (O7 c g) (Z2 c g)).2.2)):=by
   have hk' :u7 (Y c.views (g - O c.k9)).kind 2=F:=hk;rw [aL3 hg hs.2.1,aN5 hg hs.2.2.1];unfold rW;rw [hn];unfold P4 YE jt EA;rw [if_neg hnt,if_neg hnt,hk',if_neg U,if_neg U];rfl
  simp_all
def Xw {v:Vw}(hk:s7 v.kind 0 2=W)(h:cn v=W)(h2:u7 v.kind 2=F):0<O v.items+O v.F4:=by
 unfold cn at h;rw [h2,if_neg U] at h
 rcases D4 (u7 v.kind 0) with h0|h0
 .rw [h0,if_pos rfl] at h
  simp only [c7,p6,J3] at h;have:=wB h.1.1;omega
 .rw [h0,if_neg U] at h
  simp only [c7,p6,J3] at h;have:=wB h.1.1;omega
theorem KF {c:s5}(hs:G4 c):∀(n k:Nat),k<n->n<=s5.ns c->mT c n->0<O (P4 c k)/\0<O (YE c k)/\O (YE c k)<=2000
 |0,k,h,_,_=>absurd h V
 |n+1,k,h,hn,ho=>by
  rcases A5 k n with h1|h1
  .exact KF hs n k h1 V (λm hm=>ho m V)
  obtain rfl:k=n:=V
  rcases A5 k (O c.k9) with h2|h2
  .have h3:=hs.sm.s6 k h2
   have h4:=(mB (nI (ho k V) h2)).1;unfold P4 YE jt EA;rw [if_pos h2,if_pos h2];simp;omega
  .have h3:¬ k<O c.k9:=V
   have hv:k - O c.k9<O c.views:=by unfold s5.ns at hn;omega
   have hsr:=jy (fh (ho k V) h2 V);unfold Z2 at hsr;unfold P4 YE jt EA;rw [if_neg h3,if_neg h3]
   rcases D4 (u7 (Y c.views (k - O c.k9)).kind 2) with hk|hk
   .have hb:=M4 c (Y c.views (k - O c.k9)).left k
    have f1:=hsr.2.1;rw [hk,if_pos rfl,if_pos rfl,X5 c V,DT c V];exact KF hs k _ V V (λm hm=>ho m V)
   .have h5:=Xw hsr.1 hsr.2.2.2 hk
    have h6:=hs.items _ hv;have h7:=hs.F4 _ hv;rw [hk,if_neg U,if_neg U,A7,nG];simp only [bA,n5,A7];omega
def STc (c:s5)(g:Nat)(ds:List M3)(ss:List gU):Prop:=ds=c.names.take g/\ss=O7 c (min g (s5.ns c))
def ek [Inhabited XO] (c:s5)(f:FuncId)(i g:Nat):Prop:=∃dz sz,(R9 c g=0->STc c (g+1) dz sz)/\Pm A f [.ptr 5 0,.d (Z i)] (HH c (c.names.take g) (O7 c (min g (s5.ns c)))) lW (.d (Z (R9 c g))) (HH c dz sz)
def ak1 [Inhabited XO] {c:s5}(hs:G4 c){i:Nat}(hi:i<O c.k9)(hok:mT c i):ek c 149 i i:=by
 have gY:i<s5.ns c:=by unfold s5.ns;omega
 have hf:=hs.sm.oW.1;have hm:min i (s5.ns c)=i:=V
 have p:=cf1 c (c.names.take i) (O7 c i) i hi (hs.sm.s6 i hi) (λj hj=>hs.sm.L8 i j hi hj) (by rw [aN];omega) (by rw [aN];omega) V
  (λk hk=>by
   rw [aN] at hk;have h1:=(mB (nI (hok k hk) V)).1;rw [bI c hk];refine ⟨?_,h1⟩;show 0<O (P4 c k)
   rw [wu c V];simpa using h1) (λs hs' =>TN c V s hs')
 rw [TP hi hok] at p;unfold ek;rw [hm];refine ⟨_,_,λh0=>?_,p⟩;unfold STc;have hnl:i<O c.names:=by have:=iH c;omega
 rw [aG0 hi hok h0,<- yX c hi,fJ c i hnl h0,Nat.min_eq_left V];exact ⟨rfl,rfl⟩
def XF [Inhabited XO] {c:s5}(hs:G4 c)(hn:s5.ns c<=1000){g:Nat}(h:O c.k9<=g)(h2:g<s5.ns c)(hok:mT c g):ek c 150 (g - O c.k9) g:=by
 have hv:g - O c.k9<O c.views:=by grind [s5.ns]
 have p:=cf2 c (c.names.take g) (O7 c g) (g - O c.k9) hv (hs.on _ hv) (hs.wh _ hv) (hs.items _ hv) (hs.F4 _ hv) (λj hj=>hs.Mt _ j hv hj) (λj hj=>hs.Ym _ j hv hj) (by rw [aN];omega)
  (λk hk=>by
   rw [aN] at hk;have h1:=KF hs g k hk V hok;have h3:=eD hs g k hk V (kV hok V);rw [bI c hk];exact ⟨h1.2.1,by show O (YE c k)<=5000;omega,h1.1,by show O (P4 c k)<=5000;omega⟩) (λs hs' =>TN c V s hs')
 grind [Y,Z2,Oj,ek,STc,iH,al6,vq,fJ,Nat.min_eq_left]
def aj7 [Inhabited XO] {c:s5}(hs:G4 c)  {g i:Nat}(hg:g=s5.ns c+i)(hi:i<O c.idxs)(hok:mT c g):ek c 151 i g:=by
 have hn:Y c.names g=(Y c.idxs i).name:=by
  rw [hg];exact bF c (s5.sn c) (c.O1.map oO.name++c.P3.map sV.name++c.T0.map qI.name++c.U0.map vL.name++c.W7.map vJ.name) c.idxs qh.name (by simp [s5.names,s5.sn]) (by simp [aK]) hi
 have hnl:g<O c.names:=by rw [fB];omega
 have uZ:∀k,k<O (O7 c (s5.ns c))->O (Y (O7 c (s5.ns c)) k).2.2<=100000:=λk hk=>by
  rw [aN] at hk;have h3:=eD hs (s5.ns c) k hk (l6 _) (kV (λm hm=>hok m V) (l6 _));rw [bI c hk];show O (P4 c k)<=100000
  omega
 have p:=cf3 c (c.names.take g) (O7 c (s5.ns c)) i hi uZ
 grind [az0,ek,STc,fJ,Nat.min_eq_right]
def aj9 [Inhabited XO] {c:s5}(hs:G4 c)  {g i:Nat}(hg:g=s5.ns c+(O c.idxs)+i)(hi:i<O c.O1)(hok:mT c g):ek c 152 i g:=by
 have hn:Y c.names g=(Y c.O1 i).name:=by
  rw [hg];exact bF c (s5.sn c++c.idxs.map qh.name) (c.P3.map sV.name++c.T0.map qI.name++c.U0.map vL.name++c.W7.map vJ.name) c.O1 oO.name (by simp [s5.names,s5.sn]) (by simp [aK]) hi
 have hnl:g<O c.names:=by rw [fB];omega
 have uZ:∀k,k<O (O7 c (s5.ns c))->O (Y (O7 c (s5.ns c)) k).2.2<=100000:=λk hk=>by
  rw [aN] at hk;have h3:=eD hs (s5.ns c) k hk (l6 _) (kV (λm hm=>hok m V) (l6 _));rw [bI c hk];show O (P4 c k)<=100000
  omega
 have p:=cf4 c (c.names.take g) (O7 c (s5.ns c)) i hi uZ
 grind [aE7,ek,STc,fJ,Nat.min_eq_right]
def aj6 [Inhabited XO] {c:s5}(hs:G4 c)  {g i:Nat}(hg:g=s5.ns c+(O c.idxs+O c.O1)+i)(hi:i<O c.P3)(hok:mT c g):ek c 153 i g:=by
 have hn:Y c.names g=(Y c.P3 i).name:=by
  rw [hg];exact bF c (s5.sn c++c.idxs.map qh.name++c.O1.map oO.name) (c.T0.map qI.name++c.U0.map vL.name++c.W7.map vJ.name) c.P3 sV.name (by simp [s5.names,s5.sn]) (by simp [aK]) hi
 have hnl:g<O c.names:=by rw [fB];omega
 have uZ:∀k,k<O (O7 c (s5.ns c))->O (Y (O7 c (s5.ns c)) k).2.2<=100000:=λk hk=>by
  rw [aN] at hk;have h3:=eD hs (s5.ns c) k hk (l6 _) (kV (λm hm=>hok m V) (l6 _));rw [bI c hk];show O (P4 c k)<=100000
  omega
 have p:=cf5 c (c.names.take g) (O7 c (s5.ns c)) i hi uZ
 grind [au8,ek,STc,fJ,Nat.min_eq_right]
def aj8 [Inhabited XO] {c:s5}(hs:G4 c)(hg0:∀k,k<O c.views->(Y c.views k).kind≠1\/0<O (Y c.views k).F4){g i:Nat}(hg:g=s5.ns c+(O c.idxs+O c.O1+O c.P3)+i)(hi:i<O c.T0)(hok:mT c g):ek c 154 i g:=by
 have hn:Y c.names g=(Y c.T0 i).name:=by
  rw [hg];exact bF c (s5.sn c++c.idxs.map qh.name++c.O1.map oO.name++c.P3.map sV.name) (c.U0.map vL.name++c.W7.map vJ.name) c.T0 qI.name (by simp [s5.names,s5.sn]) (by simp [aK,O8]) hi
 have hnl:g<O c.names:=by rw [fB];omega
 have p:=cf6 c (c.names.take g) (O7 c (s5.ns c)) i hi hs.sm.oW.1 (by rw [aN];exact l6 _) hs.sm.oW.2.1 hg0
 grind [aD1,ek,STc,fJ,Nat.min_eq_right]
def ak0 [Inhabited XO] {c:s5}(hs:G4 c)  {g i:Nat}(hg:g=s5.ns c+(O c.idxs+O c.O1+O c.P3+O c.T0)+i)(hi:i<O c.U0)(hok:mT c g):ek c 155 i g:=by
 have hn:Y c.names g=(Y c.U0 i).name:=by
  rw [hg];exact bF c (s5.sn c++c.idxs.map qh.name++c.O1.map oO.name++c.P3.map sV.name++c.T0.map qI.name) (c.W7.map vJ.name) c.U0 vL.name (by rfl) (by simp [aK,O8]) hi
 have hnl:g<O c.names:=by rw [fB];omega
 have p:=cf7 c (c.names.take g) (O7 c (s5.ns c)) i hi hs.sm.oW.1
 grind [aF7,ek,STc,fJ,Nat.min_eq_right]
def aj5 [Inhabited XO] {c:s5}(hs:G4 c)  {g i:Nat}(hg:g=s5.ns c+(O c.idxs+O c.O1+O c.P3+O c.T0+O c.U0)+i)(hi:i<O c.W7)(hok:mT c g):ek c 156 i g:=by
 have hn:Y c.names g=(Y c.W7 i).name:=by
  rw [hg];exact bF c (s5.sn c++c.idxs.map qh.name++c.O1.map oO.name++c.P3.map sV.name++c.T0.map qI.name++c.U0.map vL.name) ([]) c.W7 vJ.name (by simp [s5.names,s5.sn]) (by simp [aK,O8]) hi
 have hnl:g<O c.names:=by rw [fB];omega
 have p:=cf8 c (c.names.take g) (O7 c (s5.ns c)) i hi hs.sm.oW.1 (hs.bk i hi)
 grind [aR6,ek,STc,fJ,Nat.min_eq_right]
def az7 {c:s5}(h:tooMany c=F):s5.ns c<=20:=by
 simp only [tooMany,Hp,s9,J3,decide_eq_false_iff_not] at h;unfold s5.ns;omega
def ae3 [Inhabited XO] (c:s5)(hs:G4 c):Pq A 101 [cat c] [xa,xo] W8 (BL c c.names (O7 c (s5.ns c))):=by
 have hnl:=iH c;refine cg4 c hs.sm.oW (STc c) ⟨rfl,rfl⟩ (λg ds ss ds' ss' h h' =>⟨h.1.trans h'.1.symm,h.2.trans h'.2.symm⟩) _ _ (λds ss h=>⟨by rw [h.1,H8],by rw [h.2,Nat.min_eq_right hnl]⟩) ?_;rintro q i ds ss hq hi SN hok ⟨rfl,rfl⟩;have h20:=az7 SN
 match q,hq with
 |0,_ =>
  have hi' :i<O c.k9:=hi;have e:aX c 0+i=i:=by simp [aX]
  rw [e] at hok ⊢;exact ak1 hs hi' hok
 |1,_ =>
  have hi' :i<O c.views:=hi;have e:aX c 1+i=O c.k9+i:=by simp [aX,cnt]
  rw [e] at hok ⊢;have:=XF hs V (g:=O c.k9+i) V (by unfold s5.ns;omega) hok;rw [Nat.add_sub_cancel_left] at this;exact this
 |2,_=>exact aj7 hs (by simp [aX,cnt,s5.ns]) hi hok
 |3,_=>exact aj9 hs (by simp [aX,cnt,s5.ns,O8]) hi hok
 |4,_=>exact aj6 hs (by simp [aX,cnt,s5.ns,O8]) hi hok
 |5,_ =>
  refine aj8 hs (λk hk=>?_) (by simp [aX,cnt,s5.ns,O8]) hi hok;have hle:s5.ns c<=aX c 5+i:=by simp [aX,cnt,s5.ns];omega
  have h9:=jy (fh (hok (k+O c.k9) (by unfold s5.ns at hle;omega)) V (by unfold s5.ns;omega));have h10:Z2 c (k+O c.k9)=Y c.views k:=by unfold Z2;rw [Nat.add_sub_cancel]
  rw [h10] at h9;exact HL h9.2.2.2
 |6,_=>exact ak0 hs (by simp [aX,cnt,s5.ns,O8]) hi hok
 |7,_=>exact aj5 hs (by simp [aX,cnt,s5.ns,O8]) hi hok
end Go.Proofs.YtibjocmpkoepoaaGreat


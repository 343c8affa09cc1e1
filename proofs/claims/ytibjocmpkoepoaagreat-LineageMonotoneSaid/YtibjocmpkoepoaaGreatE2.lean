import Derived.Test.YtibjocmpkoepoaaGreatE0
set_option linter.all false
open Bool renaming and_eq_true → c9, eq_false_or_eq_true → A7, false_eq_true → j5, not_eq_false' → O1, not_eq_true' → o8, not_false → M0, or_eq_false_iff → E6, or_eq_true → L5
open List renaming append_assoc → A9, length_append → n9, length_map → A1
open Nat renaming lt_or_ge → s5
namespace Go.Proofs.YtibjocmpkoepoaaGreat
open Go.Abs Go.Abs.S
def AJ (c:y4)(prev:List (List L0))(k:Nat):List L0 :=
 if k<c.o7.length then (nth c.o7 k).p8.map aJ.name
 else if u0 (nth c.views (k - c.o7.length)).kind 2 then nth prev (H9 c (nth c.views (k - c.o7.length)).left k).toNat
 else (Z8 (nth c.views (k - c.o7.length))).map yy.name
def HX (c:y4):Nat->List (List L0)
 |0=>[]
 |k+1=>HX c k++[AJ c (HX c k) k]
def RQ (c:y4)(k:Nat):List L0:=AJ c (HX c k) k
theorem HY (c:y4):∀ k,(HX c k).length=k
 |0=>rfl
 |k+1=>by simp [HX,HY c k]
theorem Ad (c:y4):∀ {k j:Nat},j<k->nth (HX c k) j=RQ c j
 |k+1,j,h=>by
  have hl:=HY c k
  rcases s5 j k with h1|h1
  .rw [<- Ad c h1,HX,J9 (by simp;omega),J9 (by omega),List.getElem_append_left (by omega)]
  .obtain rfl:j=k:=by omega
   rw [HX,J9 (by simp [hl]),List.getElem_append_right (by omega)];simp [hl,RQ]
def ox (c:y4)(j:Nat):eU:=(nth (y4.sn c) j,RQ c j,R3 c j)
def Q7 (c:y4)(k:Nat):List eU:=(List.range k).map (ox c)
def X3 (c:y4)(k:Nat):(Q7 c k).length=k:=by simp [Q7]
def cr (c:y4){k j:Nat}(h:j<k):nth (Q7 c k) j=ox c j:=by
 rw [J9 (by rw [X3];exact h)];simp [Q7]
def AQ (c:y4)(k:Nat):Q7 c (k+1)=Q7 c k++[ox c k]:=by simp [Q7,List.range_succ]
def oy (c:y4){k:Nat}(h:k<=y4.ns c):(Q7 c k).map (·.1)=(y4.sn c).take k:=by
 apply List.ext_getElem
 .have:=jV c
  simp [Q7];omega
 .intro i h1 h2
  have h3:i<k:=by simpa [Q7] using h1
  have h4:i<(y4.sn c).length:=by rw [jV];omega
  simp [Q7,ox,J9 h4]
def iE (c:y4){k:Nat}(h:k<=y4.ns c)(s:L0):J2 s ((Q7 c k).map (·.1)) 0=H9 c s k:=by rw [oy c h];rfl
def pG (c:y4){g:Nat}(h:g<c.o7.length):nth c.names g=(nth c.o7 g).name:=by
 rw [J9 (by simp [y4.names];omega),J9 h];simp [y4.names,List.getElem_append,h]
def GM (c:y4)(g:Nat)(s:L0)(h:nth c.names g=s)(e:Int)(he:P9 c g=(if !G7 (nth c.names g) then 3 else if (c.names.take g).any fun y=>L4 y (nth c.names g) then 4 else e)) :
  P9 c g=if !u0 (O9 (c.names.take g) s) 0 then O9 (c.names.take g) s else e:=by
 rw [he,h];unfold O9;have h3:u0 3 0=false:=by simp [o9]
 have h4:u0 4 0=false:=by simp [o9]
 have h0:u0 0 0=true:=by simp [o9]
 rcases A7 (G7 s) with c1|c1
 .rcases A7 ((c.names.take g).any fun y=>L4 y s) with c2|c2
  .simp only [c1,c2,Bool.not_true,j5,if_false,if_true,h4,M0]
  .simp only [c1,c2,Bool.not_true,j5,if_false,h0]
 .simp only [c1,M0,if_true,h3]
def oV (c:y4)(g:Nat)(hg:g<c.names.length)(h:P9 c g=0):L8 (c.names.take g) (nth c.names g)=c.names.take (g+1):=by
 have h1:=lH h;have e1:O9 (c.names.take g) (nth c.names g)=0:=by unfold O9;rw [h1.1,h1.2];rfl
 unfold L8;rw [e1,K3 hg];simp [o9]
def yo (c:y4){g:Nat}(h:g<=y4.ns c)(s:L0)(hs:((c.names.take g).any fun y=>L4 y s)=false):(((Q7 c g).map (·.1)).any fun y=>L4 y s)=false:=by
 rw [oy c h];have h1:c.names=y4.sn c++(c.idxs.map PU.name++c.qm.map Qa.name++c.qf.map PS.name++c.ql.map PZ.name++c.qn.map Qb.name++c.qd.map PO.name):=by simp [y4.names,y4.sn]
 have h2:c.names.take g=(y4.sn c).take g:=by
  rw [h1,List.take_append_of_le_length (by rw [jV];exact h)]
 rw [<- h2];exact hs
theorem Hz:∀ (l:List L0) (i:Nat),(∀ x,x ∈ l->x≠[])->J2 [] l i= -1
 |[],_,_=>rfl
 |x::l,i,h=>by
  have h1:L4 x []=false:=by simp [F8,h x (List.mem_cons_self)]
  simp only [J2,h1,j5,if_false];exact Hz l (i+1) fun y hy=>h y (List.mem_cons_of_mem _ hy)
def Yc {s:L0}(h:G7 s=true):s≠[]:=by
 rintro rfl;simp [G7] at h
def YM (c:y4){g:Nat}(h:g<=y4.ns c):(y4.sn c).take g=c.names.take g:=by
 have h1:c.names=y4.sn c++(c.idxs.map PU.name++c.qm.map Qa.name++c.qf.map PS.name++c.ql.map PZ.name++c.qn.map Qb.name++c.qd.map PO.name):=by simp [y4.names,y4.sn]
 rw [h1,List.take_append_of_le_length (by rw [jV];exact h)]
def SX {c:y4}{g:Nat}(hg:g<=y4.ns c)(hok:kL c g):H9 c [] g= -1:=by
 unfold H9;apply Hz;intro x hx;rw [YM c hg] at hx;obtain ⟨j,hj,rfl⟩:=List.getElem_of_mem hx;have h1:j<g:=by simp at hj;omega
 have h2:=lH (hok j h1);have h3:j<c.names.length:=by simp at hj;omega
 rw [J9 h3] at h2;have h4:=h2.1;simp only [O1] at h4;simpa using Yc h4
def Vt (c:y4){g:Nat}(h:g<=c.o7.length)(s:L0):ja c s g=H9 c s g:=by
 unfold ja;rw [Nat.min_eq_left h]
def sJ (c:y4){k:Nat}(h:k<c.o7.length):R3 c k=(nth c.o7 k).p8.map aJ.type:=by
 unfold R3 gy;rw [if_pos h]
def Yg {α β:Type} [Inhabited α] [Inhabited β] (f:α->β){l:List α}{i:Nat}(h:i<l.length):nth (l.map f) i=f (nth l i):=by
 rw [J9 (by simpa using h),J9 h];simp
def SM (a b:Int):u0 a b=u0 b a:=by
 simp only [o9];rw [Bool.eq_iff_iff];simp only [beq_iff_eq];exact eq_comm
def IJ (t:mH)(x:aJ):(!jT t x)=((!A4 x.eZ 0 1||(u0 x.F7.length 0&&(!u0 x.eZ 0|| !u0 x.ji 0)))||(!A4 x.ji 0 1048576||(!u0 t.aH 0&&F3 t.aH x.ji))):=by
 have h1:u0 x.F7.length 0= !F3 0 x.F7.length:=by
  simp only [o9,z8];rw [Bool.eq_iff_iff];simp only [beq_iff_eq,o8,decide_eq_false_iff_not];omega
 have h2:A4 x.eZ 0 1=(u0 x.eZ 0||u0 x.eZ 1):=by
  simp only [A4,y3,o9];rw [Bool.eq_iff_iff];simp only [c9,L5,decide_eq_true_eq,beq_iff_eq];omega
 have h3:F3 t.aH x.ji= !aF x.ji t.aH:=by
  simp only [y3,z8];rw [Bool.eq_iff_iff];simp only [decide_eq_true_eq,o8,decide_eq_false_iff_not];omega
 unfold jT;rw [h1,h2,h3];generalize u0 x.eZ 0=a1;generalize u0 x.eZ 1=a2;generalize F3 0 (x.F7.length:Int)=a3;generalize A4 x.ji 0 1048576=a4;generalize u0 x.ji 0=a5;generalize u0 t.aH 0=a6;generalize aF x.ji t.aH=a7;revert a1 a2 a3 a4 a5 a6 a7
 decide
def XU:∀ (A B C ow wj Z wd ret E:Bool),(if A=true then (3:Int) else if B=true then 4 else if C=true then 5 else if (ow||((wj||Z)||(wd||ret)))=true then 1 else if E=true then 1 else 0)=(if A=true then (3:Int) else if B=true then 4 else if C=true then 5 else if (ow||wj||Z)=true then 1 else if (wd||ret||E)=true then 1 else 0):=by decide
def XV:∀ (A B C sp ow wj Z wd ret E F:Bool),(if A=true then (3:Int) else if B=true then 4 else if C=true then 5 else if (sp||ow||((wj||Z)||(wd||ret)))=true then 1 else if E=true then 1 else if F=true then 1 else 0)=(if A=true then (3:Int) else if B=true then 4 else if C=true then 5 else if (sp||ow||wj||Z)=true then 1 else if (wd||ret||E)=true then 1 else if F=true then 1 else 0):=by decide
set_option maxHeartbeats 4000000 in
def Xk {c:y4}{g i:Nat}(hg:g<c.o7.length)(hok:kL c g):eV c (Q7 c g) (nth c.o7 g) i=cz c g i:=by
 have ek:g<=y4.ns c:=by unfold y4.ns;omega
 unfold eV cz;rw [iE c ek,Vt c (by omega)];generalize hx:nth (nth c.o7 g).p8 i=x;generalize ht:nth c.o7 g=t;have hTO:=M6 c x.refs g;have hnil:L4 x.refs []=true->H9 c x.refs g= -1:=fun h=>by rw [aH4 h];exact SX ek hok
 have xU:0<=H9 c x.refs g->nth (nth (Q7 c g) (H9 c x.refs g).toNat).2.2 0=(nth (nth c.o7 (H9 c x.refs g).toNat).p8 0).type:=fun h=>by
  have h1:(H9 c x.refs g).toNat<g:=by omega
  rw [cr c h1];show nth (R3 c _) 0=_
  rw [sJ c (by omega),Yg _ (gA (iw (hok _ h1) (by omega))).1]
 generalize H9 c x.refs g=TO at *
 rcases A7 (L4 x.refs []) with hr|hr
 .have h1:=hnil hr
  subst h1;have h2:aF 0 (-1)=false:=by simp [y3]
  simp only [hr,h2,Bool.not_true,Bool.false_and,Bool.and_false,Bool.or_false,j5,if_false];rw [IJ];simp only [Bool.false_or,Bool.not_or];exact XU _ _ _ _ _ _ _ _ _
 .rcases A7 (aF 0 TO) with h0|h0
  .rw [xU (nV h0)]
   have h2:F3 TO 0=false:=by have:=nV h0;simp [z8];omega
   simp only [hr,h0,h2,M0,Bool.true_and,Bool.and_true,Bool.and_false,j5,if_false];rw [IJ,SM x.type (nth (nth c.o7 TO.toNat).p8 0).type];simp only [Bool.not_or,hasB];exact XV _ _ _ _ _ _ _ _ _ _ _
  .have h2:F3 TO 0=true:=by have:=wm h0;simp [z8];omega
   simp only [hr,h0,h2,M0,Bool.and_self,if_true]
theorem GL {c:y4}{g:Nat}(hg:g<c.o7.length)(hok:kL c g):∀ k i,vP c (Q7 c g) (nth c.o7 g) k i=fR c g k i
 |0,_=>rfl
 |k+1,i=>by
  rw [vP,fR,Xk hg hok,GL hg hok k (i+1)]
def RF (t:mH):fL t=(!A4 t.p8.length 1 8|| !A4 t.erase 0 1|| !A4 t.aH 0 1048576):=by
 have h2:A4 t.erase 0 1=(u0 t.erase 0||u0 t.erase 1):=by
  simp only [A4,y3,o9];rw [Bool.eq_iff_iff];simp only [c9,L5,decide_eq_true_eq,beq_iff_eq];omega
 unfold fL;rw [h2,Bool.not_or]
def FU {c:y4}{g:Nat}(hg:g<c.o7.length)(hok:kL c g):jb c (Q7 c g) (c.names.take g) (nth c.o7 g)=P9 c g:=by
 have he:=GM c g (nth c.o7 g).name (pG c hg) (fM c g) (by unfold P9;rw [if_pos hg]);rw [he];unfold jb fM;rw [RF,GL hg hok]
def Od {c:y4}{g:Nat}(hg:g<c.o7.length)(hok:kL c g)(h0:P9 c g=0):tO c (Q7 c g) (c.names.take g) (nth c.o7 g)=Q7 c (g+1):=by
 unfold tO;rw [FU hg hok,h0,AQ];have h1:ox c g=((nth c.o7 g).name,(nth c.o7 g).p8.map aJ.name,(nth c.o7 g).p8.map aJ.type):=by
  unfold ox;rw [sJ c hg,<- Ab c (by unfold y4.ns;omega),pG c hg];unfold RQ AJ;rw [if_pos hg]
 rw [h1];simp [o9]
def Ud (c:y4){g i:Nat}{α:Type} [Inhabited α] (l1 l3:List L0)(l2:List α)(f:α->L0)(h:c.names=l1++l2.map f++l3)(hl:l1.length=g)(hi:i<l2.length):nth c.names (g+i)=f (nth l2 i):=by
 subst hl;rw [h,A9,J9 (by simp;omega),List.getElem_append_right (by omega)];simp only [Nat.add_sub_cancel_left];rw [List.getElem_append_left (by simpa using hi),J9 hi];simp
def Bm (k:Int):A4 k 0 2=(u0 k 0||u0 k 1||u0 k 2):=by
 simp only [A4,y3,o9];rw [Bool.eq_iff_iff];simp only [c9,L5,decide_eq_true_eq,beq_iff_eq];omega
def Vd {v:Vw}(h:A4 v.kind 0 2=true):iZ v=bP v:=by
 have h1:F3 0 v.on.length= !u0 v.on.length 0:=by
  simp only [o9,z8];rw [Bool.eq_iff_iff];simp only [decide_eq_true_eq,o8,beq_eq_false_iff_ne];omega
 have h2:F3 8 v.on.length= !aF v.on.length 8:=by
  simp only [y3,z8];rw [Bool.eq_iff_iff];simp only [decide_eq_true_eq,o8,decide_eq_false_iff_not];omega
 rw [Bm] at h;unfold iZ bP jU;rw [h1,h2];have hx:u0 v.kind 0=true->u0 v.kind 1=false/\u0 v.kind 2=false:=fun h=>by
  have:=bz h;simp [o9];omega
 have hy:u0 v.kind 1=true->u0 v.kind 2=false:=fun h=>by
  have:=bz h;simp [o9];omega
 revert h hx hy;generalize u0 v.kind 0=a0;generalize u0 v.kind 1=a1;generalize u0 v.kind 2=a2;generalize L4 v.right []=a3;generalize u0 (v.on.length:Int) 0=a4;generalize aF (v.on.length:Int) 8=a5;generalize u0 (v.items.length:Int) 0=a6;generalize F3 0 (v.D2.length:Int)=a7;generalize u0 (v.D2.length:Int) 0=a8;generalize v.distinct=a9;generalize aF ((v.items.length:Int)+v.D2.length) 8=b1;generalize u0 (v.wh.length:Int) 0=b2;cases a0<;>cases a1<;>cases a2<;>cases a3<;>cases a4<;>cases a5<;>simp
def ZL {c:y4}{g:Nat}(hg:g<=y4.ns c)(h:0<=H9 c (W9 c g).left g):(S4 (Q7 c g) (W9 c g).left).2.2=lT c g:=by
 have hb:=M6 c (W9 c g).left g;unfold S4 lT;rw [iE c hg,cr c (by omega),V1 c (by omega)];rfl
def aa9 {c:y4}{g:Nat}(hg:g<=y4.ns c)(h:L4 (W9 c g).right []=false->0<=H9 c (W9 c g).right g):(rZ (Q7 c g) (W9 c g)).2.2=rT c g:=by
 have hb:=M6 c (W9 c g).right g;unfold rZ rT S4
 rcases A7 (L4 (W9 c g).right []) with hr|hr
 .rw [hr];rfl
 .have:=h hr
  rw [hr,if_neg (by simp),if_neg (by simp),iE c hg,cr c (by omega),V1 c (by omega)];rfl
def lY (c:y4){g:Nat}(h:c.o7.length<=g)(h2:g<y4.ns c):nth c.names g=(W9 c g).name:=by
 have hv:g - c.o7.length<c.views.length:=by unfold y4.ns at h2;omega
 have:=Ud c (i:=g - c.o7.length) (c.o7.map mH.name) (c.idxs.map PU.name++c.qm.map Qa.name++c.qf.map PS.name++c.ql.map PZ.name++c.qn.map Qb.name++c.qd.map PO.name) c.views Vw.name (by simp [y4.names]) (g:=c.o7.length) (by simp) hv;rw [show c.o7.length+(g - c.o7.length)=g by omega] at this;exact this
def Bl {c:y4}{g:Nat}(h:c.o7.length<=g)(h2:g<y4.ns c):T7 (Q7 c g) (c.names.take g) (W9 c g)=P9 c g:=by
 have hg:g<=y4.ns c:=by omega
 have he:=GM c g _ (lY c h h2) (W0 c g) (by
  have h3:¬ g<c.o7.length:=by omega
  unfold P9;simp only [h3,h2,if_false,if_true])
 rw [he];unfold T7 W0;rw [Bm,iE c hg,iE c hg];simp only [Bool.not_or]
 rcases A7 (!u0 (W9 c g).kind 0&& !u0 (W9 c g).kind 1&& !u0 (W9 c g).kind 2) with k1|k1
 .simp only [k1,if_true]
 .simp only [k1,j5,if_false]
  rcases A7 (F3 (H9 c (W9 c g).left g) 0||(!L4 (W9 c g).right []&&F3 (H9 c (W9 c g).right g) 0)) with k2|k2
  .simp only [k2,if_true]
  .have k2' :=k2
   simp only [E6] at k2';have f1:=C5 k2'.1;have f2:L4 (W9 c g).right []=false->0<=H9 c (W9 c g).right g:=fun h=>by
    have:=k2'.2;simp only [h,M0,Bool.true_and] at this;exact C5 this
   have hk:A4 (W9 c g).kind 0 2=true:=by
    rw [Bm];have:=congrArg (! ·) k1;simpa using this
   rw [Vd hk,ZL hg f1,aa9 hg f2];simp only [k2,j5,if_false];rfl
def Jo {c:y4}{g:Nat}(h:c.o7.length<=g)(h2:g<y4.ns c)(h0:P9 c g=0):fh (Q7 c g) (c.names.take g) (W9 c g)=Q7 c (g+1):=by
 have hg:g<=y4.ns c:=by omega
 have hs:=oD (iO h0 h h2);have hb:=M6 c (W9 c g).left g;have h00:u0 0 0=true:=by simp [o9]
 have hn:nth (y4.sn c) g=(W9 c g).name:=by rw [<- Ab c h2,lY c h h2]
 have hnt:¬ g<c.o7.length:=by omega
 unfold fh;rw [Bl h h2,h0,h00,if_pos rfl,AQ]
 rcases A7 (u0 (W9 c g).kind 2) with hk|hk
 .have e1:ox c g=((W9 c g).name,(S4 (Q7 c g) (W9 c g).left).2.1,(S4 (Q7 c g) (W9 c g).left).2.2):=by
   have hk' :u0 (nth c.views (g - c.o7.length)).kind 2=true:=hk;have f1:0<=H9 c (nth c.views (g - c.o7.length)).left g:=hs.2.1;have hb' :=M6 c (nth c.views (g - c.o7.length)).left g;unfold ox S4;rw [hn,iE c hg,cr c (by omega)];unfold R3 RQ gy AJ;rw [if_neg hnt,if_neg hnt,hk',if_pos rfl,if_pos rfl,V1 c (by omega),Ad c (by omega)];rfl
  rw [hk,if_pos rfl,e1]
 .have e1:ox c g=((W9 c g).name,(Z8 (W9 c g)).map yy.name,W8 (W9 c g) ((S4 (Q7 c g) (W9 c g).left).2.2++(rZ (Q7 c g) (W9 c g)).2.2)):=by
   have hk' :u0 (nth c.views (g - c.o7.length)).kind 2=false:=hk;rw [ZL hg hs.2.1,aa9 hg hs.2.2.1];unfold ox;rw [hn];unfold R3 RQ gy AJ;rw [if_neg hnt,if_neg hnt,hk',if_neg (by simp),if_neg (by simp)];rfl
  rw [hk,if_neg (by simp),e1]
def Rt {v:Vw}(hk:A4 v.kind 0 2=true)(h:bP v=true)(h2:u0 v.kind 2=false):0<v.items.length+v.D2.length:=by
 unfold bP at h;rw [h2,if_neg (by simp)] at h
 rcases A7 (u0 v.kind 0) with h0|h0
 .rw [h0,if_pos rfl] at h
  simp only [c9,o8,E6] at h;have:=GP h.1.1;omega
 .rw [h0,if_neg (by simp)] at h
  simp only [c9,o8,E6] at h;have:=GP h.1.1;omega
theorem ym {c:y4}(hs:Q2 c):∀ (n k:Nat),k<n->n<=y4.ns c->kL c n->0<(R3 c k).length/\0<(RQ c k).length/\(RQ c k).length<=2000
 |0,k,h,_,_=>absurd h (by omega)
 |n+1,k,h,hn,ho=>by
  rcases s5 k n with h1|h1
  .exact ym hs n k h1 (by omega) (fun m hm=>ho m (by omega))
  obtain rfl:k=n:=by omega
  rcases s5 k c.o7.length with h2|h2
  .have h3:=hs.sm.p8 k h2
   have h4:=(gA (iw (ho k (by omega)) h2)).1;unfold R3 RQ gy AJ;rw [if_pos h2,if_pos h2];simp;omega
  .have h3:¬ k<c.o7.length:=by omega
   have hv:k - c.o7.length<c.views.length:=by unfold y4.ns at hn;omega
   have hsr:=oD (iO (ho k (by omega)) h2 (by omega));unfold W9 at hsr;unfold R3 RQ gy AJ;rw [if_neg h3,if_neg h3]
   rcases A7 (u0 (nth c.views (k - c.o7.length)).kind 2) with hk|hk
   .have hb:=M6 c (nth c.views (k - c.o7.length)).left k
    have f1:=hsr.2.1;rw [hk,if_pos rfl,if_pos rfl,V1 c (by omega),Ad c (by omega)];exact ym hs k _ (by omega) (by omega) (fun m hm=>ho m (by omega))
   .have h5:=Rt hsr.1 hsr.2.2.2 hk
    have h6:=hs.items _ hv;have h7:=hs.D2 _ hv;rw [hk,if_neg (by simp),if_neg (by simp),A1,gj];simp only [W8,n9,A1];omega
def Zl (c:y4)(g:Nat)(ds:List L0)(ss:List eU):Prop:=ds=c.names.take g/\ss=Q7 c (min g (y4.ns c))
def lB (c:y4)(f:FuncId)(i g:Nat):Prop:=∃ dz sz,(P9 c g=0->Zl c (g+1) dz sz)/\Pm A f [.ptr 4 0,.d (num i)] (HH c (c.names.take g) (Q7 c (min g (y4.ns c)))) lW (.d (num (P9 c g))) (HH c dz sz)
def AP {c:y4}(hs:Q2 c){i:Nat}(hi:i<c.o7.length)(hok:kL c i):lB c 149 i i:=by
 have ek:i<y4.ns c:=by unfold y4.ns;omega
 have hf:=hs.sm.qA.1;have hm:min i (y4.ns c)=i:=by omega
 have p:=al6 c (c.names.take i) (Q7 c i) i hi (hs.sm.p8 i hi) (fun j hj=>hs.sm.F7 i j hi hj) (by rw [X3];omega) (by rw [X3];omega) (by omega)
  (fun k hk=>by
   rw [X3] at hk;have h1:=(gA (iw (hok k hk) (by omega))).1;rw [cr c hk];refine ⟨?_,h1⟩;show 0<(R3 c k).length
   rw [sJ c (by omega)];simpa using h1) (fun s hs' =>yo c (by omega) s hs')
 rw [FU hi hok] at p;unfold lB;rw [hm];refine ⟨_,_,fun h0=> ?_,p⟩;unfold Zl;have hnl:i<c.names.length:=by have:=bk c;omega
 rw [Od hi hok h0,<- pG c hi,oV c i hnl h0,Nat.min_eq_left (by omega)];exact ⟨rfl,rfl⟩
def vt {c:y4}(hs:Q2 c)(hn:y4.ns c<=1000){g:Nat}(h:c.o7.length<=g)(h2:g<y4.ns c)(hok:kL c g):lB c 150 (g - c.o7.length) g:=by
 have hv:g - c.o7.length<c.views.length:=by unfold y4.ns at h2;omega
 have hm:min g (y4.ns c)=g:=by omega
 have p:=al7 c (c.names.take g) (Q7 c g) (g - c.o7.length) hv (hs.on _ hv) (hs.wh _ hv) (hs.items _ hv) (hs.D2 _ hv) (fun j hj=>hs.CR _ j hv hj) (fun j hj=>hs.Qd _ j hv hj) (by rw [X3];omega)
  (fun k hk=>by
   rw [X3] at hk;have h1:=ym hs g k hk (by omega) hok;have h3:=iL hs g k hk (by omega) (tg hok (by omega));rw [cr c hk];exact ⟨h1.2.1,by show (RQ c k).length<=5000;omega,h1.1,by show (R3 c k).length<=5000;omega⟩) (fun s hs' =>yo c (by omega) s hs')
 rw [show nth c.views (g - c.o7.length)=W9 c g from rfl,Bl h h2] at p;unfold lB;rw [hm];refine ⟨_,_,fun h0=> ?_,p⟩;unfold Zl;have hnl:g<c.names.length:=by have:=bk c;omega
 rw [Jo h h2 h0,<- lY c h h2,oV c g hnl h0,Nat.min_eq_left (by omega)];exact ⟨rfl,rfl⟩
def NB {c:y4}(h:tooMany c=false):y4.ns c<=20:=by
 simp only [tooMany,CZ,z8,E6,decide_eq_false_iff_not] at h;unfold y4.ns;omega
def NO (c:y4)(hs:Q2 c):Pq A 101 [cat c] [.cells (c.enc.map .d)] Y8 (jm c c.names (Q7 c (y4.ns c))):=by
 have hnl:=bk c;refine al8 c hs.sm.qA (Zl c) ⟨rfl,rfl⟩ (fun g ds ss ds' ss' h h' =>⟨h.1.trans h'.1.symm,h.2.trans h'.2.symm⟩) _ _ (fun ds ss h=>⟨by rw [h.1,List.take_length],by rw [h.2,Nat.min_eq_right hnl]⟩) ?_;rintro q i ds ss hq hi sR hok ⟨rfl,rfl⟩;have h20:=NB sR
 match q,hq with
 |0,_ =>
  have hi' :i<c.o7.length:=hi;have e:S6 c 0+i=i:=by simp [S6]
  rw [e] at hok ⊢;exact AP hs hi' hok
 |1,_ =>
  have hi' :i<c.views.length:=hi;have e:S6 c 1+i=c.o7.length+i:=by simp [S6,cnt]
  rw [e] at hok ⊢;have:=vt hs (by omega) (g:=c.o7.length+i) (by omega) (by unfold y4.ns;omega) hok;rw [Nat.add_sub_cancel_left] at this;exact this
 |n+2,_ =>
  obtain ⟨f0,f1,f2,f3,f4,f5,f6,f7⟩:=hs.sm.qA;exfalso;unfold cnt at hi;split at hi<;>omega
end Go.Proofs.YtibjocmpkoepoaaGreat


import Derived.Test.YtibjocmpkoepoaaGreatUE0
set_option linter.all false
open Bool renaming and_eq_true → c7, eq_false_or_eq_true → B3, false_eq_true → j3, not_eq_false' → C7, not_eq_true' → n5, or_eq_false_iff → F3
open List renaming append_assoc → E8, length_append → o8, length_map → B0
open Nat renaming lt_or_ge → y4
namespace Go.Proofs.YtibjocmpkoepoaaGreat
open Go.x9 Go.x9.S
def Bb (c:y5)(prev:List (List L3))(k:Nat):List L3 :=
 if k<c.k9.length then (nth c.k9 k).p8.map aG.name
 else if s8 (nth c.views (k - c.k9.length)).kind 2 then nth prev (J1 c (nth c.views (k - c.k9.length)).left k).toNat
 else (Z3 (nth c.views (k - c.k9.length))).map yP.name
def ID (c:y5):Nat->List (List L3)
 |0=>[]
 |k+1=>ID c k++[Bb c (ID c k) k]
def RW (c:y5)(k:Nat):List L3:=Bb c (ID c k) k
theorem IE (c:y5):∀ k,(ID c k).length=k
 |0=>rfl
 |k+1=>by simp [ID,IE c k]
theorem Aw (c:y5):∀ {k j:Nat},j<k->nth (ID c k) j=RW c j
 |k+1,j,h=>by
  have hl:=IE c k
  rcases y4 j k with h1|h1
  .rw [<- Aw c h1,ID,I9 (by simp;omega),I9 (by omega),List.getElem_append_left (by omega)]
  .obtain rfl:j=k:=by omega
   rw [ID,I9 (by simp [hl]),List.getElem_append_right (by omega)];simp [hl,RW]
def oI (c:y5)(j:Nat):eP:=(nth (y5.sn c) j,RW c j,P4 c j)
def Q9 (c:y5)(k:Nat):List eP:=(List.range k).map (oI c)
def X4 (c:y5)(k:Nat):(Q9 c k).length=k:=by simp [Q9]
def bW (c:y5){k j:Nat}(h:j<k):nth (Q9 c k) j=oI c j:=by
 rw [I9 (by rw [X4];exact h)];simp [Q9]
def Bi (c:y5)(k:Nat):Q9 c (k+1)=Q9 c k++[oI c k]:=by simp [Q9,List.range_succ]
def oJ (c:y5){k:Nat}(h:k<=y5.ns c):(Q9 c k).map (·.1)=(y5.sn c).take k:=by
 apply List.ext_getElem
 .have:=jX c
  simp [Q9];omega
 .intro i h1 h2
  have h3:i<k:=by simpa [Q9] using h1
  have h4:i<(y5.sn c).length:=by rw [jX];omega
  simp [Q9,oI,I9 h4]
def ir (c:y5){k:Nat}(h:k<=y5.ns c)(s:L3):J6 s ((Q9 c k).map (·.1)) 0=J1 c s k:=by rw [oJ c h];rfl
def pV (c:y5){g:Nat}(h:g<c.k9.length):nth c.names g=(nth c.k9 g).name:=by
 rw [I9 (by simp [y5.names];omega),I9 h];simp [y5.names,List.getElem_append,h]
def Hs (c:y5)(g:Nat)(s:L3)(h:nth c.names g=s)(e:Int)(he:Q2 c g=(if !H6 (nth c.names g) then 3 else if (c.names.take g).any fun y=>M0 y (nth c.names g) then 4 else e)) :
  Q2 c g=if !s8 (P3 (c.names.take g) s) 0 then P3 (c.names.take g) s else e:=by
 rw [he,h];unfold P3;have h3:s8 3 0=false:=by simp [o6]
 have h4:s8 4 0=false:=by simp [o6]
 have h0:s8 0 0=true:=by simp [o6]
 rcases B3 (H6 s) with c1|c1
 .rcases B3 ((c.names.take g).any fun y=>M0 y s) with c2|c2
  .simp only [c1,c2,Bool.not_true,j3,if_false,if_true,h4,Bool.not_false]
  .simp only [c1,c2,Bool.not_true,j3,if_false,h0]
 .simp only [c1,Bool.not_false,if_true,h3]
def pH (c:y5)(g:Nat)(hg:g<c.names.length)(h:Q2 c g=0):M1 (c.names.take g) (nth c.names g)=c.names.take (g+1):=by
 have h1:=zJ h;have e1:P3 (c.names.take g) (nth c.names g)=0:=by unfold P3;rw [h1.1,h1.2];rfl
 unfold M1;rw [e1,J3 hg];simp [o6]
def yH (c:y5){g:Nat}(h:g<=y5.ns c)(s:L3)(hs:((c.names.take g).any fun y=>M0 y s)=false):(((Q9 c g).map (·.1)).any fun y=>M0 y s)=false:=by
 rw [oJ c h];have h1:c.names=y5.sn c++(c.idxs.map Qd.name++c.qn.map Qi.name++c.qh.map Qb.name++c.qm.map Qh.name++c.qo.map Qj.name++c.qg.map PZ.name):=by simp [y5.names,y5.sn]
 have h2:c.names.take g=(y5.sn c).take g:=by
  rw [h1,List.take_append_of_le_length (by rw [jX];exact h)]
 rw [<- h2];exact hs
theorem Ic:∀ (l:List L3) (i:Nat),(∀ x,x ∈ l->x≠[])->J6 [] l i= -1
 |[],_,_=>rfl
 |x::l,i,h=>by
  have h1:M0 x []=false:=by simp [H7,h x (List.mem_cons_self)]
  simp only [J6,h1,j3,if_false];exact Ic l (i+1) fun y hy=>h y (List.mem_cons_of_mem _ hy)
def YE {s:L3}(h:H6 s=true):s≠[]:=by
 rintro rfl;simp [H6] at h
def Zw (c:y5){g:Nat}(h:g<=y5.ns c):(y5.sn c).take g=c.names.take g:=by
 have h1:c.names=y5.sn c++(c.idxs.map Qd.name++c.qn.map Qi.name++c.qh.map Qb.name++c.qm.map Qh.name++c.qo.map Qj.name++c.qg.map PZ.name):=by simp [y5.names,y5.sn]
 rw [h1,List.take_append_of_le_length (by rw [jX];exact h)]
def Tj {c:y5}{g:Nat}(hg:g<=y5.ns c)(hok:kO c g):J1 c [] g= -1:=by
 unfold J1;apply Ic;intro x hx;rw [Zw c hg] at hx;obtain ⟨j,hj,rfl⟩:=List.getElem_of_mem hx;have h1:j<g:=by simp at hj;omega
 have h2:=zJ (hok j h1);have h3:j<c.names.length:=by simp at hj;omega
 rw [I9 h3] at h2;have h4:=h2.1;simp only [C7] at h4;simpa using YE h4
def VN (c:y5){g:Nat}(h:g<=c.k9.length)(s:L3):iZ c s g=J1 c s g:=by
 unfold iZ;rw [Nat.min_eq_left h]
def sJ (c:y5){k:Nat}(h:k<c.k9.length):P4 c k=(nth c.k9 k).p8.map aG.type:=by
 unfold P4 gq;rw [if_pos h]
def YI {α β:Type} [Inhabited α] [Inhabited β] (f:α->β){l:List α}{i:Nat}(h:i<l.length):nth (l.map f) i=f (nth l i):=by
 rw [I9 (by simpa using h),I9 h];simp
def Tf (a b:Int):s8 a b=s8 b a:=by
 simp only [o6];rw [Bool.eq_iff_iff];simp only [beq_iff_eq];exact eq_comm
def Jp (t:mO)(x:aG):(!jV t x)=((!y7 x.eX 0 1||(s8 x.F8.length 0&&(!s8 x.eX 0|| !s8 x.jk 0)))||(!y7 x.jk 0 1048576||(!s8 t.aA 0&&F0 t.aA x.jk))):=by
 have h1:s8 x.F8.length 0= !F0 0 x.F8.length:=by
  simp only [o6,y3];rw [Bool.eq_iff_iff];simp only [beq_iff_eq,n5,decide_eq_false_iff_not];omega
 have h2:y7 x.eX 0 1=(s8 x.eX 0||s8 x.eX 1):=by
  simp only [y7,s9,o6];rw [Bool.eq_iff_iff];simp only [c7,Bool.or_eq_true,decide_eq_true_eq,beq_iff_eq];omega
 have h3:F0 t.aA x.jk= !ah x.jk t.aA:=by
  simp only [s9,y3];rw [Bool.eq_iff_iff];simp only [decide_eq_true_eq,n5,decide_eq_false_iff_not];omega
 unfold jV;rw [h1,h2,h3];generalize s8 x.eX 0=a1;generalize s8 x.eX 1=a2;generalize F0 0 (x.F8.length:Int)=a3;generalize y7 x.jk 0 1048576=a4;generalize s8 x.jk 0=a5;generalize s8 t.aA 0=a6;generalize ah x.jk t.aA=a7;revert a1 a2 a3 a4 a5 a6 a7
 decide
def Yw:∀ (A B C ow wj Z wd ret E:Bool),(if A=true then (3:Int) else if B=true then 4 else if C=true then 5 else if (ow||((wj||Z)||(wd||ret)))=true then 1 else if E=true then 1 else 0)=(if A=true then (3:Int) else if B=true then 4 else if C=true then 5 else if (ow||wj||Z)=true then 1 else if (wd||ret||E)=true then 1 else 0):=by decide
def Yx:∀ (A B C sp ow wj Z wd ret E F:Bool),(if A=true then (3:Int) else if B=true then 4 else if C=true then 5 else if (sp||ow||((wj||Z)||(wd||ret)))=true then 1 else if E=true then 1 else if F=true then 1 else 0)=(if A=true then (3:Int) else if B=true then 4 else if C=true then 5 else if (sp||ow||wj||Z)=true then 1 else if (wd||ret||E)=true then 1 else if F=true then 1 else 0):=by decide
set_option maxHeartbeats 4000000 in
def XJ {c:y5}{g i:Nat}(hg:g<c.k9.length)(hok:kO c g):eU c (Q9 c g) (nth c.k9 g) i=cr c g i:=by
 have eV:g<=y5.ns c:=by unfold y5.ns;omega
 unfold eU cr;rw [ir c eV,VN c (by omega)];generalize hx:nth (nth c.k9 g).p8 i=x;generalize ht:nth c.k9 g=t;have hTO:=M7 c x.refs g;have hnil:M0 x.refs []=true->J1 c x.refs g= -1:=fun h=>by rw [aM1 h];exact Tj eV hok
 have yh:0<=J1 c x.refs g->nth (nth (Q9 c g) (J1 c x.refs g).toNat).2.2 0=(nth (nth c.k9 (J1 c x.refs g).toNat).p8 0).type:=fun h=>by
  have h1:(J1 c x.refs g).toNat<g:=by omega
  rw [bW c h1];show nth (P4 c _) 0=_
  rw [sJ c (by omega),YI _ (gu (ia (hok _ h1) (by omega))).1]
 generalize J1 c x.refs g=TO at *
 rcases B3 (M0 x.refs []) with hr|hr
 .have h1:=hnil hr
  subst h1;have h2:ah 0 (-1)=false:=by simp [s9]
  simp only [hr,h2,Bool.not_true,Bool.false_and,Bool.and_false,Bool.or_false,j3,if_false];rw [Jp];simp only [Bool.false_or,Bool.not_or];exact Yw _ _ _ _ _ _ _ _ _
 .rcases B3 (ah 0 TO) with h0|h0
  .rw [yh (qD h0)]
   have h2:F0 TO 0=false:=by have:=qD h0;simp [y3];omega
   simp only [hr,h0,h2,Bool.not_false,Bool.true_and,Bool.and_true,Bool.and_false,j3,if_false];rw [Jp,Tf x.type (nth (nth c.k9 TO.toNat).p8 0).type];simp only [Bool.not_or,hasB];exact Yx _ _ _ _ _ _ _ _ _ _ _
  .have h2:F0 TO 0=true:=by have:=Ac h0;simp [y3];omega
   simp only [hr,h0,h2,Bool.not_false,Bool.and_self,if_true]
theorem Hp {c:y5}{g:Nat}(hg:g<c.k9.length)(hok:kO c g):∀ k i,wC c (Q9 c g) (nth c.k9 g) k i=fO c g k i
 |0,_=>rfl
 |k+1,i=>by
  rw [wC,fO,XJ hg hok,Hp hg hok k (i+1)]
def RL (t:mO):fG t=(!y7 t.p8.length 1 8|| !y7 t.erase 0 1|| !y7 t.aA 0 1048576):=by
 have h2:y7 t.erase 0 1=(s8 t.erase 0||s8 t.erase 1):=by
  simp only [y7,s9,o6];rw [Bool.eq_iff_iff];simp only [c7,Bool.or_eq_true,decide_eq_true_eq,beq_iff_eq];omega
 unfold fG;rw [h2,Bool.not_or]
def Gr {c:y5}{g:Nat}(hg:g<c.k9.length)(hok:kO c g):ja c (Q9 c g) (c.names.take g) (nth c.k9 g)=Q2 c g:=by
 have he:=Hs c g (nth c.k9 g).name (pV c hg) (fH c g) (by unfold Q2;rw [if_pos hg]);rw [he];unfold ja fH;rw [RL,Hp hg hok]
def Oz {c:y5}{g:Nat}(hg:g<c.k9.length)(hok:kO c g)(h0:Q2 c g=0):tS c (Q9 c g) (c.names.take g) (nth c.k9 g)=Q9 c (g+1):=by
 unfold tS;rw [Gr hg hok,h0,Bi];have h1:oI c g=((nth c.k9 g).name,(nth c.k9 g).p8.map aG.name,(nth c.k9 g).p8.map aG.type):=by
  unfold oI;rw [sJ c hg,<- As c (by unfold y5.ns;omega),pV c hg];unfold RW Bb;rw [if_pos hg]
 rw [h1];simp [o6]
def Ur (c:y5){g i:Nat}{α:Type} [Inhabited α] (l1 l3:List L3)(l2:List α)(f:α->L3)(h:c.names=l1++l2.map f++l3)(hl:l1.length=g)(hi:i<l2.length):nth c.names (g+i)=f (nth l2 i):=by
 subst hl;rw [h,E8,I9 (by simp;omega),List.getElem_append_right (by omega)];simp only [Nat.add_sub_cancel_left];rw [List.getElem_append_left (by simpa using hi),I9 hi];simp
def BE (k:Int):y7 k 0 2=(s8 k 0||s8 k 1||s8 k 2):=by
 simp only [y7,s9,o6];rw [Bool.eq_iff_iff];simp only [c7,Bool.or_eq_true,decide_eq_true_eq,beq_iff_eq];omega
def Vu {v:Vw}(h:y7 v.kind 0 2=true):iW v=bH v:=by
 have h1:F0 0 v.on.length= !s8 v.on.length 0:=by
  simp only [o6,y3];rw [Bool.eq_iff_iff];simp only [decide_eq_true_eq,n5,beq_eq_false_iff_ne];omega
 have h2:F0 8 v.on.length= !ah v.on.length 8:=by
  simp only [s9,y3];rw [Bool.eq_iff_iff];simp only [decide_eq_true_eq,n5,decide_eq_false_iff_not];omega
 rw [BE] at h;unfold iW bH jW;rw [h1,h2];have hx:s8 v.kind 0=true->s8 v.kind 1=false/\s8 v.kind 2=false:=fun h=>by
  have:=aQ h;simp [o6];omega
 have hy:s8 v.kind 1=true->s8 v.kind 2=false:=fun h=>by
  have:=aQ h;simp [o6];omega
 revert h hx hy;generalize s8 v.kind 0=a0;generalize s8 v.kind 1=a1;generalize s8 v.kind 2=a2;generalize M0 v.right []=a3;generalize s8 (v.on.length:Int) 0=a4;generalize ah (v.on.length:Int) 8=a5;generalize s8 (v.items.length:Int) 0=a6;generalize F0 0 (v.D4.length:Int)=a7;generalize s8 (v.D4.length:Int) 0=a8;generalize v.distinct=a9;generalize ah ((v.items.length:Int)+v.D4.length) 8=b1;generalize s8 (v.wh.length:Int) 0=b2;cases a0<;>cases a1<;>cases a2<;>cases a3<;>cases a4<;>cases a5<;>simp
def ac4 {c:y5}{g:Nat}(hg:g<=y5.ns c)(h:0<=J1 c (X0 c g).left g):(S5 (Q9 c g) (X0 c g).left).2.2=lT c g:=by
 have hb:=M7 c (X0 c g).left g;unfold S5 lT;rw [ir c hg,bW c (by omega),V2 c (by omega)];rfl
def af0 {c:y5}{g:Nat}(hg:g<=y5.ns c)(h:M0 (X0 c g).right []=false->0<=J1 c (X0 c g).right g):(rY (Q9 c g) (X0 c g)).2.2=rT c g:=by
 have hb:=M7 c (X0 c g).right g;unfold rY rT S5
 rcases B3 (M0 (X0 c g).right []) with hr|hr
 .rw [hr];rfl
 .have:=h hr
  rw [hr,if_neg (by simp),if_neg (by simp),ir c hg,bW c (by omega),V2 c (by omega)];rfl
def mj (c:y5){g:Nat}(h:c.k9.length<=g)(h2:g<y5.ns c):nth c.names g=(X0 c g).name:=by
 have hv:g - c.k9.length<c.views.length:=by unfold y5.ns at h2;omega
 have:=Ur c (i:=g - c.k9.length) (c.k9.map mO.name) (c.idxs.map Qd.name++c.qn.map Qi.name++c.qh.map Qb.name++c.qm.map Qh.name++c.qo.map Qj.name++c.qg.map PZ.name) c.views Vw.name (by simp [y5.names]) (g:=c.k9.length) (by simp) hv;rw [show c.k9.length+(g - c.k9.length)=g by omega] at this;exact this
def BD {c:y5}{g:Nat}(h:c.k9.length<=g)(h2:g<y5.ns c):T8 (Q9 c g) (c.names.take g) (X0 c g)=Q2 c g:=by
 have hg:g<=y5.ns c:=by omega
 have he:=Hs c g _ (mj c h h2) (V9 c g) (by
  have h3:¬ g<c.k9.length:=by omega
  unfold Q2;simp only [h3,h2,if_false,if_true])
 rw [he];unfold T8 V9;rw [BE,ir c hg,ir c hg];simp only [Bool.not_or]
 rcases B3 (!s8 (X0 c g).kind 0&& !s8 (X0 c g).kind 1&& !s8 (X0 c g).kind 2) with k1|k1
 .simp only [k1,if_true]
 .simp only [k1,j3,if_false]
  rcases B3 (F0 (J1 c (X0 c g).left g) 0||(!M0 (X0 c g).right []&&F0 (J1 c (X0 c g).right g) 0)) with k2|k2
  .simp only [k2,if_true]
  .have k2' :=k2
   simp only [F3] at k2';have f1:=B8 k2'.1;have f2:M0 (X0 c g).right []=false->0<=J1 c (X0 c g).right g:=fun h=>by
    have:=k2'.2;simp only [h,Bool.not_false,Bool.true_and] at this;exact B8 this
   have hk:y7 (X0 c g).kind 0 2=true:=by
    rw [BE];have:=congrArg (! ·) k1;simpa using this
   rw [Vu hk,ac4 hg f1,af0 hg f2];simp only [k2,j3,if_false];rfl
def JS {c:y5}{g:Nat}(h:c.k9.length<=g)(h2:g<y5.ns c)(h0:Q2 c g=0):fe (Q9 c g) (c.names.take g) (X0 c g)=Q9 c (g+1):=by
 have hg:g<=y5.ns c:=by omega
 have hs:=oO (iJ h0 h h2);have hb:=M7 c (X0 c g).left g;have h00:s8 0 0=true:=by simp [o6]
 have hn:nth (y5.sn c) g=(X0 c g).name:=by rw [<- As c h2,mj c h h2]
 have hnt:¬ g<c.k9.length:=by omega
 unfold fe;rw [BD h h2,h0,h00,if_pos rfl,Bi]
 rcases B3 (s8 (X0 c g).kind 2) with hk|hk
 .have e1:oI c g=((X0 c g).name,(S5 (Q9 c g) (X0 c g).left).2.1,(S5 (Q9 c g) (X0 c g).left).2.2):=by
   have hk' :s8 (nth c.views (g - c.k9.length)).kind 2=true:=hk;have f1:0<=J1 c (nth c.views (g - c.k9.length)).left g:=hs.2.1;have hb' :=M7 c (nth c.views (g - c.k9.length)).left g;unfold oI S5;rw [hn,ir c hg,bW c (by omega)];unfold P4 RW gq Bb;rw [if_neg hnt,if_neg hnt,hk',if_pos rfl,if_pos rfl,V2 c (by omega),Aw c (by omega)];rfl
  rw [hk,if_pos rfl,e1]
 .have e1:oI c g=((X0 c g).name,(Z3 (X0 c g)).map yP.name,W9 (X0 c g) ((S5 (Q9 c g) (X0 c g).left).2.2++(rY (Q9 c g) (X0 c g)).2.2)):=by
   have hk' :s8 (nth c.views (g - c.k9.length)).kind 2=false:=hk;rw [ac4 hg hs.2.1,af0 hg hs.2.2.1];unfold oI;rw [hn];unfold P4 RW gq Bb;rw [if_neg hnt,if_neg hnt,hk',if_neg (by simp),if_neg (by simp)];rfl
  rw [hk,if_neg (by simp),e1]
def RD {v:Vw}(hk:y7 v.kind 0 2=true)(h:bH v=true)(h2:s8 v.kind 2=false):0<v.items.length+v.D4.length:=by
 unfold bH at h;rw [h2,if_neg (by simp)] at h
 rcases B3 (s8 v.kind 0) with h0|h0
 .rw [h0,if_pos rfl] at h
  simp only [c7,n5,F3] at h;have:=CQ h.1.1;omega
 .rw [h0,if_neg (by simp)] at h
  simp only [c7,n5,F3] at h;have:=CQ h.1.1;omega
theorem yG {c:y5}(hs:O4 c):∀ (n k:Nat),k<n->n<=y5.ns c->kO c n->0<(P4 c k).length/\0<(RW c k).length/\(RW c k).length<=2000
 |0,k,h,_,_=>absurd h (by omega)
 |n+1,k,h,hn,ho=>by
  rcases y4 k n with h1|h1
  .exact yG hs n k h1 (by omega) (fun m hm=>ho m (by omega))
  obtain rfl:k=n:=by omega
  rcases y4 k c.k9.length with h2|h2
  .have h3:=hs.sm.p8 k h2
   have h4:=(gu (ia (ho k (by omega)) h2)).1;unfold P4 RW gq Bb;rw [if_pos h2,if_pos h2];simp;omega
  .have h3:¬ k<c.k9.length:=by omega
   have hv:k - c.k9.length<c.views.length:=by unfold y5.ns at hn;omega
   have hsr:=oO (iJ (ho k (by omega)) h2 (by omega));unfold X0 at hsr;unfold P4 RW gq Bb;rw [if_neg h3,if_neg h3]
   rcases B3 (s8 (nth c.views (k - c.k9.length)).kind 2) with hk|hk
   .have hb:=M7 c (nth c.views (k - c.k9.length)).left k
    have f1:=hsr.2.1;rw [hk,if_pos rfl,if_pos rfl,V2 c (by omega),Aw c (by omega)];exact yG hs k _ (by omega) (by omega) (fun m hm=>ho m (by omega))
   .have h5:=RD hsr.1 hsr.2.2.2 hk
    have h6:=hs.items _ hv;have h7:=hs.D4 _ hv;rw [hk,if_neg (by simp),if_neg (by simp),B0,ga];simp only [W9,o8,B0];omega
def ZW (c:y5)(g:Nat)(ds:List L3)(ss:List eP):Prop:=ds=c.names.take g/\ss=Q9 c (min g (y5.ns c))
def lJ (c:y5)(f:FuncId)(i g:Nat):Prop:=∃ dz sz,(Q2 c g=0->ZW c (g+1) dz sz)/\Pm A f [.ptr 4 0,.d (num i)] (HH c (c.names.take g) (Q9 c (min g (y5.ns c)))) lW (.d (num (Q2 c g))) (HH c dz sz)
def Bh {c:y5}(hs:O4 c){i:Nat}(hi:i<c.k9.length)(hok:kO c i):lJ c 149 i i:=by
 have eV:i<y5.ns c:=by unfold y5.ns;omega
 have hf:=hs.sm.qy.1;have hm:min i (y5.ns c)=i:=by omega
 have p:=ap8 c (c.names.take i) (Q9 c i) i hi (hs.sm.p8 i hi) (fun j hj=>hs.sm.F8 i j hi hj) (by rw [X4];omega) (by rw [X4];omega) (by omega)
  (fun k hk=>by
   rw [X4] at hk;have h1:=(gu (ia (hok k hk) (by omega))).1;rw [bW c hk];refine ⟨?_,h1⟩;show 0<(P4 c k).length
   rw [sJ c (by omega)];simpa using h1) (fun s hs' =>yH c (by omega) s hs')
 rw [Gr hi hok] at p;unfold lJ;rw [hm];refine ⟨_,_,fun h0=> ?_,p⟩;unfold ZW;have hnl:i<c.names.length:=by have:=bg c;omega
 rw [Oz hi hok h0,<- pV c hi,pH c i hnl h0,Nat.min_eq_left (by omega)];exact ⟨rfl,rfl⟩
def vN {c:y5}(hs:O4 c)(hn:y5.ns c<=1000){g:Nat}(h:c.k9.length<=g)(h2:g<y5.ns c)(hok:kO c g):lJ c 150 (g - c.k9.length) g:=by
 have hv:g - c.k9.length<c.views.length:=by unfold y5.ns at h2;omega
 have hm:min g (y5.ns c)=g:=by omega
 have p:=ap9 c (c.names.take g) (Q9 c g) (g - c.k9.length) hv (hs.on _ hv) (hs.wh _ hv) (hs.items _ hv) (hs.D4 _ hv) (fun j hj=>hs.Dg _ j hv hj) (fun j hj=>hs.Ql _ j hv hj) (by rw [X4];omega)
  (fun k hk=>by
   rw [X4] at hk;have h1:=yG hs g k hk (by omega) hok;have h3:=iG hs g k hk (by omega) (tq hok (by omega));rw [bW c hk];exact ⟨h1.2.1,by show (RW c k).length<=5000;omega,h1.1,by show (P4 c k).length<=5000;omega⟩) (fun s hs' =>yH c (by omega) s hs')
 rw [show nth c.views (g - c.k9.length)=X0 c g from rfl,BD h h2] at p;unfold lJ;rw [hm];refine ⟨_,_,fun h0=> ?_,p⟩;unfold ZW;have hnl:g<c.names.length:=by have:=bg c;omega
 rw [JS h h2 h0,<- mj c h h2,pH c g hnl h0,Nat.min_eq_left (by omega)];exact ⟨rfl,rfl⟩
def NS {c:y5}(h:tooMany c=false):y5.ns c<=20:=by
 simp only [tooMany,Dn,y3,F3,decide_eq_false_iff_not] at h;unfold y5.ns;omega
def Oe (c:y5)(hs:O4 c):Pq A 101 [cat c] [.cells (c.enc.map .d)] S8 (jt c c.names (Q9 c (y5.ns c))):=by
 have hnl:=bg c;refine aq0 c hs.sm.qy (ZW c) ⟨rfl,rfl⟩ (fun g ds ss ds' ss' h h' =>⟨h.1.trans h'.1.symm,h.2.trans h'.2.symm⟩) _ _ (fun ds ss h=>⟨by rw [h.1,List.take_length],by rw [h.2,Nat.min_eq_right hnl]⟩) ?_;rintro q i ds ss hq hi sV hok ⟨rfl,rfl⟩;have h20:=NS sV
 match q,hq with
 |0,_ =>
  have hi' :i<c.k9.length:=hi;have e:S9 c 0+i=i:=by simp [S9]
  rw [e] at hok ⊢;exact Bh hs hi' hok
 |1,_ =>
  have hi' :i<c.views.length:=hi;have e:S9 c 1+i=c.k9.length+i:=by simp [S9,cnt]
  rw [e] at hok ⊢;have:=vN hs (by omega) (g:=c.k9.length+i) (by omega) (by unfold y5.ns;omega) hok;rw [Nat.add_sub_cancel_left] at this;exact this
 |n+2,_ =>
  obtain ⟨f0,f1,f2,f3,f4,f5,f6,f7⟩:=hs.sm.qy;exfalso;unfold cnt at hi;split at hi<;>omega
end Go.Proofs.YtibjocmpkoepoaaGreat


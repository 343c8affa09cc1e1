import Derived.Test.YtibjocmpkoepoaaGreatE0
set_option linter.all false
open Bool renaming and_eq_true → c7, eq_false_or_eq_true → B7, not_eq_false' → C8, not_eq_true' → o7, or_eq_false_iff → G8
open List renaming append_assoc → D2, length_append → k9, length_map → B9, take_of_length_le → y6
open Nat renaming add_assoc → M6, le_refl → n5, lt_or_ge → A5
namespace Go.Proofs.YtibjocmpkoepoaaGreat
open Go.A2 Go.A2.S
def Cc (c:r9)(prev:List (List K4))(k:Nat):List K4 :=
 if k<c.j9.length then (nth c.j9 k).q7.map ek.name
 else if s9 (nth c.views (k - c.j9.length)).kind 2 then nth prev (F1 c (nth c.views (k - c.j9.length)).left k).toNat
 else (cM (nth c.views (k - c.j9.length))).map DW.name
def Kg (c:r9):Nat->List (List K4)
 |0=>[]
 |k+1=>Kg c k++[Cc c (Kg c k) k]
def Vd (c:r9)(k:Nat):List K4:=Cc c (Kg c k) k
theorem Kh (c:r9):∀ k,(Kg c k).length=k
 |0=>rfl
 |k+1=>by simp [Kg,Kh c k]
theorem BC (c:r9):∀ {k j:Nat},j<k->nth (Kg c k) j=Vd c j
 |k+1,j,h=>by
  have hl:=Kh c k
  rcases A5 j k with h1|h1
  .rw [<- BC c h1,Kg,F2 (by simp;omega),F2 (by omega),List.getElem_append_left (by omega)]
  grind [Kg,F2,List.getElem_append_right,Vd]
def ql (c:r9)(j:Nat):gj:=(nth (r9.sn c) j,Vd c j,R6 c j)
def M9 (c:r9)(k:Nat):List gj:=(List.range k).map (ql c)
def Z7 (c:r9)(k:Nat):(M9 c k).length=k:=by simp [M9]
def aY (c:r9){k j:Nat}(h:j<k):nth (M9 c k) j=ql c j:=by
 simp_all [F2,Z7,M9]
def Ck (c:r9)(k:Nat):M9 c (k+1)=M9 c k++[ql c k]:=by simp [M9,List.range_succ]
def qm (c:r9){k:Nat}(h:k<=r9.ns c):(M9 c k).map (·.1)=(r9.sn c).take k:=by
 apply List.ext_getElem
 all_goals grind [Z5,M9,r9.sn,ql,F2]
def cT (c:r9){k:Nat}(h:k<=r9.ns c)(s:K4):I9 s ((M9 c k).map (·.1)) 0=F1 c s k:=by rw [qm c h];rfl
def wX (c:r9){g:Nat}(h:g<c.j9.length):nth c.names g=(nth c.j9 g).name:=by
 rw [F2 (by grind [r9.names]),F2 h];simp_all [r9.names]
def iD (c:r9)(g:Nat)(s:K4)(h:nth c.names g=s)(e:Int)(he:Q6 c g=(if !L3 (nth c.names g) then 3 else if (c.names.take g).any fun y=>O1 y (nth c.names g) then 4 else e)) :
  Q6 c g=if !s9 (R7 (c.names.take g) s) 0 then R7 (c.names.take g) s else e:=by
 unfold R7
 grind [s9,L3,O1]
theorem eF (c:r9)(g:Nat)(hg:g<c.names.length)(h:Q6 c g=0):P7 (c.names.take g) (nth c.names g)=c.names.take (g+1):=by
 grind [AU,R7,nth,P7,H9,o8]
def Qk (c:r9){g:Nat}(h:g<=r9.ns c)(s:K4)(hs:((c.names.take g).any fun y=>O1 y s)=false):(((M9 c g).map (·.1)).any fun y=>O1 y s)=false:=by
 rw [qm c h];have h1:c.names=r9.sn c++(c.idxs.map oy.name++c.M3.map nC.name++c.N5.map qL.name++c.R3.map oT.name++c.S0.map tP.name++c.V3.map tN.name):=by simp [r9.names,r9.sn]
 grind [r9.sn,Z5]
theorem JJ:∀ (l:List K4) (i:Nat),(∀ x,x ∈ l->x≠[])->I9 [] l i= -1
 |[],_,_=>rfl
 |x::l,i,h=>by
  have h1:O1 x []=false:=by simp [E5,h x (List.mem_cons_self)]
  simp [I9,h1,if_false];exact JJ l (i+1) fun y hy=>h y (List.mem_cons_of_mem _ hy)
theorem af2 {s:K4}(h:L3 s=true):s≠[]:=by
 grind [L3]
def aj3 (c:r9){g:Nat}(h:g<=r9.ns c):(r9.sn c).take g=c.names.take g:=by
 have h1:c.names=r9.sn c++(c.idxs.map oy.name++c.M3.map nC.name++c.N5.map qL.name++c.R3.map oT.name++c.S0.map tP.name++c.V3.map tN.name):=by simp [r9.names,r9.sn]
 simp_all [List.take_append_of_le_length,Z5]
theorem VA {c:r9}{g:Nat}(hg:g<=r9.ns c)(hok:lG c g):F1 c [] g= -1:=by
 apply JJ;intro x hx;rw [aj3 c hg] at hx;obtain ⟨j,hj,rfl⟩:=List.getElem_of_mem hx;have h1:j<g:=by grind
 have h2:=AU (hok j h1)
 grind [F2,C8,af2]
def Lc (c:r9){g:Nat}(h:g<=c.j9.length)(s:K4):gn c s g=F1 c s g:=by
 grind [gn,Nat.min_eq_left]
def uj (c:r9){k:Nat}(h:k<c.j9.length):R6 c k=(nth c.j9 k).q7.map ek.type:=by
 simp_all [R6,ja]
def af6 {α β:Type} [Inhabited α] [Inhabited β] (f:α->β){l:List α}{i:Nat}(h:i<l.length):nth (l.map f) i=f (nth l i):=by
 simp_all [F2]
def Vr (a b:Int):s9 a b=s9 b a:=by
 simp [o8]
 grind
def KN (t:jj)(x:ek):(!od t x)=((!q8 x.iZ 0 1||(s9 x.J8.length 0&&(!s9 x.iZ 0|| !s9 x.nK 0)))||(!q8 x.nK 0 1048576||(!s9 t.bW 0&&E4 t.bW x.nK))):=by
 have h1:s9 x.J8.length 0= !E4 0 x.J8.length:=by
  simp [o8,u0]
  grind
 have h2:q8 x.iZ 0 1=(s9 x.iZ 0||s9 x.iZ 1):=by
  simp [q8,s6,o8]
  grind
 have h3:E4 t.bW x.nK= !bV x.nK t.bW:=by
  simp [s6,u0]
  grind
 grind [od,s9,E4,a3,q8,bV]
def aC1:∀ (A B C ow wj Z wd ret E:Bool),(if A=true then (3:Int) else if B=true then 4 else if C=true then 5 else if (ow||((wj||Z)||(wd||ret)))=true then 1 else if E=true then 1 else 0)=(if A=true then (3:Int) else if B=true then 4 else if C=true then 5 else if (ow||wj||Z)=true then 1 else if (wd||ret||E)=true then 1 else 0):=by decide
def aC2:∀ (A B C sp ow wj Z wd ret E F:Bool),(if A=true then (3:Int) else if B=true then 4 else if C=true then 5 else if (sp||ow||((wj||Z)||(wd||ret)))=true then 1 else if E=true then 1 else if F=true then 1 else 0)=(if A=true then (3:Int) else if B=true then 4 else if C=true then 5 else if (sp||ow||wj||Z)=true then 1 else if (wd||ret||E)=true then 1 else if F=true then 1 else 0):=by decide
set_option maxHeartbeats 4000000 in
def aa3 {c:r9}{g i:Nat}(hg:g<c.j9.length)(hok:lG c g):rK c (M9 c g) (nth c.j9 g) i=dw c g i:=by
 have gw:g<=r9.ns c:=by grind [r9.ns]
 unfold rK dw;rw [cT c gw,Lc c (by omega)];generalize hx:nth (nth c.j9 g).q7 i=x;have hTO:=K6 c x.refs g;have hnil:O1 x.refs []=true->F1 c x.refs g= -1:=fun h=>by grind [bd3,VA]
 have tu:0<=F1 c x.refs g->nth (nth (M9 c g) (F1 c x.refs g).toNat).2.2 0=(nth (nth c.j9 (F1 c x.refs g).toNat).q7 0).type:=fun h=>by
  have h1:(F1 c x.refs g).toNat<g:=by omega
  rw [aY c h1];show nth (R6 c _) 0=_
  rw [uj c (by omega),af6 _ (kM (mA (hok _ h1) (by omega))).1]
 generalize F1 c x.refs g=TO at *
 rcases B7 (O1 x.refs []) with hr|hr
 .have h1:=hnil hr
  have h2:bV 0 (-1)=false:=by simp [s6]
  rw [KN]
  grind
 .rcases B7 (bV 0 TO) with h0|h0
  .rw [tu (rW h0)]
   have h2:E4 TO 0=false:=by simp_all [rW,u0]
   rw [KN,Vr x.type (nth (nth c.j9 TO.toNat).q7 0).type];simp only [Bool.not_or,hasB]
   grind
  simp_all [E4,Bp,u0,Bool.not_false,Bool.and_self,if_true]
theorem Je {c:r9}{g:Nat}(hg:g<c.j9.length)(hok:lG c g):∀ k i,Ed c (M9 c g) (nth c.j9 g) k i=gZ c g k i
 |0,_=>rfl
 |k+1,i=>by
  rw [Ed,gZ,aa3 hg hok,Je hg hok k (i+1)]
def Um (t:jj):qn t=(!q8 t.q7.length 1 8|| !q8 t.erase 0 1|| !q8 t.bW 0 1048576):=by
 have h2:q8 t.erase 0 1=(s9 t.erase 0||s9 t.erase 1):=by
  simp [q8,s6,o8]
  grind
 simp_all [qn,Bool.not_or]
def Ql {c:r9}{g:Nat}(hg:g<c.j9.length)(hok:lG c g):xB c (M9 c g) (c.names.take g) (nth c.j9 g)=Q6 c g:=by
 have he:=iD c g (nth c.j9 g).name (wX c hg) (gN c g) (by simp_all [Q6]);simp_all [xB,gN,Um,Je]
def ak3 {c:r9}{g:Nat}(hg:g<c.j9.length)(hok:lG c g)(h0:Q6 c g=0):Lb c (M9 c g) (c.names.take g) (nth c.j9 g)=M9 c (g+1):=by
 unfold Lb;rw [Ql hg hok,h0,Ck];have h1:ql c g=((nth c.j9 g).name,(nth c.j9 g).q7.map ek.name,(nth c.j9 g).q7.map ek.type):=by
  unfold ql;rw [uj c hg,<- BA c (by grind [r9.ns]),wX c hg];simp_all [Vd,Cc,if_pos]
 simp_all [o8]
def HP (c:r9)(s:K4)(col:Int):mU (M9 c (r9.ns c)) s col=mT c s col:=by
 unfold mU mT;rw [cT c (n5 _)];have hb:=K6 c s (r9.ns c)
 rcases B7 (E4 (F1 c s (r9.ns c)) 0) with h|h
 .simp_all
 .have h1:=A3 h
  rw [aY c (by omega)];rfl
def JM (c:r9)(s:K4):(!nX c (M9 c (r9.ns c)) s)=E4 (gn c s c.j9.length) 0:=by
 unfold nX;rw [cT c (n5 _),Lc c (n5 _)];unfold F1;have h0:(r9.sn c).take (r9.ns c)=r9.sn c:=y6 (by rw [Z5];omega);have h1:∀ (l:List K4) (k i:Nat),(I9 s (l.take k) i= -1/\(I9 s l i= -1\/((i:Int)+k<=I9 s l i/\k<=l.length)))\/(I9 s (l.take k) i=I9 s l i/\(i:Int)<=I9 s l i/\I9 s l i<i+k):=by
  intro l
  induction l with
  |nil=>simp_all [I9]
  |cons x l ih =>
   intro k i;cases k with
   |zero =>
    grind [gH]
   |succ k =>
    simp [List.take_succ_cons,I9]
    all_goals grind
 rcases h1 (r9.sn c) c.j9.length 0 with h|h
 .have e1:E4 (I9 s ((r9.sn c).take c.j9.length) 0) 0=true:=by simp_all [u0,decide_eq_true_eq]
  grind [q8,I9,r9.sn,s6,Bool.and_eq_false_iff,decide_eq_false_iff_not]
 .have e1:E4 (I9 s ((r9.sn c).take c.j9.length) 0) 0=false:=by simp_all [u0,decide_eq_false_iff_not]
  have e2:q8 (I9 s (r9.sn c) 0) 0 (c.j9.length - 1)=true:=by simp [q8,s6,c7,decide_eq_true_eq];omega
  simp_all
theorem UR (c:r9):∀ seen l,bkL c (M9 c (r9.ns c)) seen l=bkE c seen l
 |_,[]=>rfl
 |seen,t::r=>by
  rw [bkL,bkE,JM,UR c (seen++[t]) r]
def aU (c:r9){g i:Nat}{α:Type} [Inhabited α] (l1 l3:List K4)(l2:List α)(f:α->K4)(h:c.names=l1++l2.map f++l3)(hl:l1.length=g)(hi:i<l2.length):nth c.names (g+i)=f (nth l2 i):=by
 grind [D2,F2,List.getElem_append_right,Nat.add_sub_cancel_left,List.getElem_append_left]
def mB {c:r9}{g:Nat}(h:r9.ns c<=g):Q6 c g=(if !L3 (nth c.names g) then 3 else if (c.names.take g).any fun y=>O1 y (nth c.names g) then 4 else W7 c (g - r9.ns c)):=by
 grind [r9.ns,Q6]
theorem ad8 {c:r9}{g i:Nat}(hg:g=r9.ns c+i)(hi:i<c.idxs.length):JH (M9 c (r9.ns c)) (c.names.take g) (nth c.idxs i)=Q6 c g:=by
 have hn:nth c.names g=(nth c.idxs i).name:=by
  rw [hg];exact aU c (r9.sn c) (c.M3.map nC.name++c.N5.map qL.name++c.R3.map oT.name++c.S0.map tP.name++c.V3.map tN.name) c.idxs oy.name (by simp [r9.names,r9.sn]) (Z5 c) hi
 have he:=iD c g _ hn (W7 c (g - r9.ns c)) (mB (by omega));rw [he];have e1:W7 c (g - r9.ns c)=TA c (nth c.idxs i):=by
  simp_all [Nat.add_sub_cancel_left,W7,if_pos]
 rw [e1];unfold JH TA;rw [HP]
 grind [s9,mT,nth]
theorem aa0 {c:r9}{g i:Nat}(hg:g=r9.ns c+(c.idxs.length+c.M3.length)+i)(hi:i<c.N5.length):IQ (M9 c (r9.ns c)) (c.names.take g) (nth c.N5 i)=Q6 c g:=by
 have hn:nth c.names g=(nth c.N5 i).name:=by
  rw [hg];exact aU c (r9.sn c++c.idxs.map oy.name++c.M3.map nC.name) (c.R3.map oT.name++c.S0.map tP.name++c.V3.map tN.name) c.N5 qL.name (by simp [r9.names,r9.sn]) (by simp [Z5]) hi
 have he:=iD c g _ hn (W7 c (g - r9.ns c)) (mB (by omega));rw [he];have e1:W7 c (g - r9.ns c)=SQ c (nth c.N5 i):=by
  have hm:g - r9.ns c=c.idxs.length+c.M3.length+i:=by omega
  unfold W7
  grind
 rw [e1];unfold IQ SQ;rw [HP]
 grind [s9,mT,nth]
theorem ak1 {c:r9}{g i:Nat}(hg:g=r9.ns c+(c.idxs.length+c.M3.length+c.N5.length+c.R3.length)+i)(hi:i<c.S0.length):Ox c (M9 c (r9.ns c)) (c.names.take g) (nth c.S0 i)=Q6 c g:=by
 have hn:nth c.names g=(nth c.S0 i).name:=by
  rw [hg];exact aU c (r9.sn c++c.idxs.map oy.name++c.M3.map nC.name++c.N5.map qL.name++c.R3.map oT.name) (c.V3.map tN.name) c.S0 tP.name (by rfl) (by simp [Z5,M6]) hi
 have he:=iD c g _ hn (W7 c (g - r9.ns c)) (mB (by omega));have e1:W7 c (g - r9.ns c)=Ul c (nth c.S0 i):=by
  have hm:g - r9.ns c=(c.idxs.length+c.M3.length+c.N5.length+c.R3.length)+i:=by omega
  unfold W7
  grind
 simp_all [Ox,Ul,JM]
theorem av7 {c:r9}{g i:Nat}(hg:g=r9.ns c+(c.idxs.length+c.M3.length+c.N5.length+c.R3.length+c.S0.length)+i)(hi:i<c.V3.length):bkM c (M9 c (r9.ns c)) (c.names.take g) (nth c.V3 i)=Q6 c g:=by
 have hn:nth c.names g=(nth c.V3 i).name:=by
  rw [hg];exact aU c (r9.sn c++c.idxs.map oy.name++c.M3.map nC.name++c.N5.map qL.name++c.R3.map oT.name++c.S0.map tP.name) ([]) c.V3 tN.name (by simp [r9.names,r9.sn]) (by simp [Z5,M6]) hi
 have he:=iD c g _ hn (W7 c (g - r9.ns c)) (mB (by omega));have e1:W7 c (g - r9.ns c)=IF c (nth c.V3 i):=by
  have hm:g - r9.ns c=(c.idxs.length+c.M3.length+c.N5.length+c.R3.length+c.S0.length)+i:=by omega
  unfold W7
  grind
 simp_all [bkM,IF,UR]
theorem aj2 {c:r9}{g i:Nat}(hg:g=r9.ns c+(c.idxs.length)+i)(hi:i<c.M3.length):BU (M9 c (r9.ns c)) (c.names.take g) (nth c.M3 i)=Q6 c g:=by
 have hn:nth c.names g=(nth c.M3 i).name:=by
  rw [hg];exact aU c (r9.sn c++c.idxs.map oy.name) (c.N5.map qL.name++c.R3.map oT.name++c.S0.map tP.name++c.V3.map tN.name) c.M3 nC.name (by simp [r9.names,r9.sn]) (by simp [Z5]) hi
 have he:=iD c g _ hn (W7 c (g - r9.ns c)) (mB (by omega));rw [he];have e1:W7 c (g - r9.ns c)=DO c (nth c.M3 i):=by
  have hm:g - r9.ns c=(c.idxs.length)+i:=by omega
  unfold W7
  grind
 rw [e1];unfold BU DO HJ;rw [HP];generalize nth c.M3 i=x;have h2:q8 x.kind 0 2=(s9 x.kind 0||s9 x.kind 1||s9 x.kind 2):=by
  simp [q8,s6,o8]
  grind
 grind
theorem ah6 {c:r9}{g i:Nat}(hg:g=r9.ns c+(c.idxs.length+c.M3.length+c.N5.length)+i)(hi:i<c.R3.length):KI c (M9 c (r9.ns c)) (c.names.take g) (nth c.R3 i)=Q6 c g:=by
 have hn:nth c.names g=(nth c.R3 i).name:=by
  rw [hg];exact aU c (r9.sn c++c.idxs.map oy.name++c.M3.map nC.name++c.N5.map qL.name) (c.S0.map tP.name++c.V3.map tN.name) c.R3 oT.name (by simp [r9.names,r9.sn]) (by simp [Z5,M6]) hi
 have he:=iD c g _ hn (W7 c (g - r9.ns c)) (mB (by omega));rw [he];have e1:W7 c (g - r9.ns c)=KH c (nth c.R3 i):=by
  have hm:g - r9.ns c=(c.idxs.length+c.M3.length+c.N5.length)+i:=by omega
  unfold W7
  grind
 rw [e1];unfold KI KH rlV;rw [cT c (n5 _)]
 grind [E4,F1,nth,r9.ns]
def CC (k:Int):q8 k 0 2=(s9 k 0||s9 k 1||s9 k 2):=by
 simp [q8,s6,o8]
 grind
def XL {v:Vw}(h:q8 v.kind 0 2=true):lK v=bC v:=by
 have h1:E4 0 v.on.length= !s9 v.on.length 0:=by
  simp [o8,u0]
  grind
 have h2:E4 8 v.on.length= !bV v.on.length 8:=by
  simp [s6,u0]
  grind
 rw [CC] at h;unfold lK bC lM;have hx:s9 v.kind 0=true->s9 v.kind 1=false/\s9 v.kind 2=false:=fun h=>by
  simp_all [fH,o8]
 have hy:s9 v.kind 1=true->s9 v.kind 2=false:=fun h=>by
  simp_all [fH,o8]
 grind
def ap8 {c:r9}{g:Nat}(hg:g<=r9.ns c)(h:0<=F1 c (X2 c g).left g):(bt (M9 c g) (X2 c g).left).2.2=lT c g:=by
 have hb:=K6 c (X2 c g).left g;unfold bt lT;rw [cT c hg,aY c (by omega),W1 c (by omega)];rfl
def ar7 {c:r9}{g:Nat}(hg:g<=r9.ns c)(h:O1 (X2 c g).right []=false->0<=F1 c (X2 c g).right g):(Is (M9 c g) (X2 c g)).2.2=rT c g:=by
 have hb:=K6 c (X2 c g).right g;unfold Is rT bt
 rcases B7 (O1 (X2 c g).right []) with hr|hr
 .rw [hr];rfl
 .have:=h hr
  rw [hr,if_neg (by simp),if_neg (by simp),cT c hg,aY c (by omega),W1 c (by omega)];rfl
theorem tD (c:r9){g:Nat}(h:c.j9.length<=g)(h2:g<r9.ns c):nth c.names g=(X2 c g).name:=by
 have hv:g - c.j9.length<c.views.length:=by grind [r9.ns]
 have:=aU c (i:=g - c.j9.length) (c.j9.map jj.name) (c.idxs.map oy.name++c.M3.map nC.name++c.N5.map qL.name++c.R3.map oT.name++c.S0.map tP.name++c.V3.map tN.name) c.views Vw.name (by simp [r9.names]) (g:=c.j9.length) (by simp) hv;rw [show c.j9.length+(g - c.j9.length)=g by omega] at this;exact this
theorem Ls {c:r9}{g:Nat}(h:c.j9.length<=g)(h2:g<r9.ns c):eZ (M9 c g) (c.names.take g) (X2 c g)=Q6 c g:=by
 have hg:g<=r9.ns c:=by omega
 have he:=iD c g _ (tD c h h2) (W8 c g) (by
  grind [Q6])
 rw [he];unfold eZ W8;rw [CC,cT c hg,cT c hg];simp only [Bool.not_or]
 rcases B7 (!s9 (X2 c g).kind 0&& !s9 (X2 c g).kind 1&& !s9 (X2 c g).kind 2) with k1|k1
 .simp_all
 .rcases B7 (E4 (F1 c (X2 c g).left g) 0||(!O1 (X2 c g).right []&&E4 (F1 c (X2 c g).right g) 0)) with k2|k2
  .simp_all
  .have k2' :=k2
   simp [G8] at k2';have f1:=A3 k2'.1;have f2:O1 (X2 c g).right []=false->0<=F1 c (X2 c g).right g:=fun h=>by
    simp_all [Bool.not_false,Bool.true_and,A3]
   have hk:q8 (X2 c g).kind 0 2=true:=by
    rw [CC]
    grind
   rw [XL hk,ap8 hg f1,ar7 hg f2];rfl
theorem Yx {c:r9}{g:Nat}(h:c.j9.length<=g)(h2:g<r9.ns c)(h0:Q6 c g=0):sj (M9 c g) (c.names.take g) (X2 c g)=M9 c (g+1):=by
 have hg:g<=r9.ns c:=by omega
 have hs:=iK (eo h0 h h2);have hb:=K6 c (X2 c g).left g;have h00:s9 0 0=true:=by simp [o8]
 have hn:nth (r9.sn c) g=(X2 c g).name:=by rw [<- BA c h2,tD c h h2]
 have hnt:¬ g<c.j9.length:=by omega
 unfold sj;rw [Ls h h2,h0,h00,if_pos rfl,Ck]
 rcases B7 (s9 (X2 c g).kind 2) with hk|hk
 .have e1:ql c g=((X2 c g).name,(bt (M9 c g) (X2 c g).left).2.1,(bt (M9 c g) (X2 c g).left).2.2):=by
   have hk' :s9 (nth c.views (g - c.j9.length)).kind 2=true:=hk;have hb' :=K6 c (nth c.views (g - c.j9.length)).left g;unfold ql bt;rw [hn,cT c hg,aY c (by omega)];unfold R6 Vd ja Cc;rw [if_neg hnt,if_neg hnt,hk',if_pos rfl,if_pos rfl,W1 c (by omega),BC c (by omega)];rfl
  simp_all
 .have e1:ql c g=((X2 c g).name,(cM (X2 c g)).map DW.name,aL (X2 c g) ((bt (M9 c g) (X2 c g).left).2.2++(Is (M9 c g) (X2 c g)).2.2)):=by
   have hk' :s9 (nth c.views (g - c.j9.length)).kind 2=false:=hk;rw [ap8 hg hs.2.1,ar7 hg hs.2.2.1];unfold ql;rw [hn];unfold R6 Vd ja Cc;rw [if_neg hnt,if_neg hnt,hk',if_neg (by simp),if_neg (by simp)];rfl
  simp_all
def Ud {v:Vw}(hk:q8 v.kind 0 2=true)(h:bC v=true)(h2:s9 v.kind 2=false):0<v.items.length+v.D5.length:=by
 unfold bC at h;rw [h2,if_neg (by simp)] at h
 rcases B7 (s9 v.kind 0) with h0|h0
 .rw [h0,if_pos rfl] at h
  simp only [c7,o7,G8] at h;have:=AQ h.1.1;omega
 .rw [h0,if_neg (by simp)] at h
  simp only [c7,o7,G8] at h;have:=AQ h.1.1;omega
theorem HW {c:r9}(hs:J7 c):∀ (n k:Nat),k<n->n<=r9.ns c->lG c n->0<(R6 c k).length/\0<(Vd c k).length/\(Vd c k).length<=2000
 |0,k,h,_,_=>absurd h (by omega)
 |n+1,k,h,hn,ho=>by
  rcases A5 k n with h1|h1
  .exact HW hs n k h1 (by omega) (fun m hm=>ho m (by omega))
  obtain rfl:k=n:=by omega
  rcases A5 k c.j9.length with h2|h2
  .have h3:=hs.sm.q7 k h2
   have h4:=(kM (mA (ho k (by omega)) h2)).1;unfold R6 Vd ja Cc;rw [if_pos h2,if_pos h2];simp;omega
  .have h3:¬ k<c.j9.length:=by omega
   have hv:k - c.j9.length<c.views.length:=by unfold r9.ns at hn;omega
   have hsr:=iK (eo (ho k (by omega)) h2 (by omega));unfold X2 at hsr;unfold R6 Vd ja Cc;rw [if_neg h3,if_neg h3]
   rcases B7 (s9 (nth c.views (k - c.j9.length)).kind 2) with hk|hk
   .have hb:=K6 c (nth c.views (k - c.j9.length)).left k
    have f1:=hsr.2.1;rw [hk,if_pos rfl,if_pos rfl,W1 c (by omega),BC c (by omega)];exact HW hs k _ (by omega) (by omega) (fun m hm=>ho m (by omega))
   .have h5:=Ud hsr.1 hsr.2.2.2 hk
    have h6:=hs.items _ hv;have h7:=hs.D5 _ hv;rw [hk,if_neg (by simp),if_neg (by simp),B9,mz];simp only [aL,k9,B9];omega
def ZD (c:r9)(g:Nat)(ds:List K4)(ss:List gj):Prop:=ds=c.names.take g/\ss=M9 c (min g (r9.ns c))
def dn [Inhabited XO] (c:r9)(f:FuncId)(i g:Nat):Prop:=∃ dz sz,(Q6 c g=0->ZD c (g+1) dz sz)/\Pm A f [.ptr 5 0,.d (num i)] (HH c (c.names.take g) (M9 c (min g (r9.ns c)))) lW (.d (num (Q6 c g))) (HH c dz sz)
def Yi [Inhabited XO] {c:r9}(hs:J7 c){i:Nat}(hi:i<c.j9.length)(hok:lG c i):dn c 149 i i:=by
 have gw:i<r9.ns c:=by unfold r9.ns;omega
 have hf:=hs.sm.oB.1;have hm:min i (r9.ns c)=i:=by omega
 have p:=bE9 c (c.names.take i) (M9 c i) i hi (hs.sm.q7 i hi) (fun j hj=>hs.sm.J8 i j hi hj) (by rw [Z7];omega) (by rw [Z7];omega) (by omega)
  (fun k hk=>by
   rw [Z7] at hk;have h1:=(kM (mA (hok k hk) (by omega))).1;rw [aY c hk];refine ⟨?_,h1⟩;show 0<(R6 c k).length
   rw [uj c (by omega)];simpa using h1) (fun s hs' =>Qk c (by omega) s hs')
 rw [Ql hi hok] at p;unfold dn;rw [hm];refine ⟨_,_,fun h0=> ?_,p⟩;unfold ZD;have hnl:i<c.names.length:=by have:=gK c;omega
 rw [ak3 hi hok h0,<- wX c hi,eF c i hnl h0,Nat.min_eq_left (by omega)];exact ⟨rfl,rfl⟩
def Uk [Inhabited XO] {c:r9}(hs:J7 c)(hn:r9.ns c<=1000){g:Nat}(h:c.j9.length<=g)(h2:g<r9.ns c)(hok:lG c g):dn c 150 (g - c.j9.length) g:=by
 have hv:g - c.j9.length<c.views.length:=by grind [r9.ns]
 have p:=bF0 c (c.names.take g) (M9 c g) (g - c.j9.length) hv (hs.on _ hv) (hs.wh _ hv) (hs.items _ hv) (hs.D5 _ hv) (fun j hj=>hs.JN _ j hv hj) (fun j hj=>hs.UP _ j hv hj) (by rw [Z7];omega)
  (fun k hk=>by
   rw [Z7] at hk;have h1:=HW hs g k hk (by omega) hok;have h3:=dK hs g k hk (by omega) (jU hok (by omega));rw [aY c hk];exact ⟨h1.2.1,by show (Vd c k).length<=5000;omega,h1.1,by show (R6 c k).length<=5000;omega⟩) (fun s hs' =>Qk c (by omega) s hs')
 grind [nth,X2,Ls,dn,ZD,gK,Yx,tD,eF,Nat.min_eq_left]
def Ye [Inhabited XO] {c:r9}(hs:J7 c)  {g i:Nat}(hg:g=r9.ns c+i)(hi:i<c.idxs.length)(hok:lG c g):dn c 151 i g:=by
 have hn:nth c.names g=(nth c.idxs i).name:=by
  rw [hg];exact aU c (r9.sn c) (c.M3.map nC.name++c.N5.map qL.name++c.R3.map oT.name++c.S0.map tP.name++c.V3.map tN.name) c.idxs oy.name (by simp [r9.names,r9.sn]) (by simp [Z5]) hi
 have hnl:g<c.names.length:=by rw [ew];omega
 have tu:∀ k,k<(M9 c (r9.ns c)).length->(nth (M9 c (r9.ns c)) k).2.2.length<=100000:=fun k hk=>by
  rw [Z7] at hk;have h3:=dK hs (r9.ns c) k hk (n5 _) (jU (fun m hm=>hok m (by omega)) (n5 _));rw [aY c hk];show (R6 c k).length<=100000
  omega
 have p:=bF1 c (c.names.take g) (M9 c (r9.ns c)) i hi tu
 grind [ad8,dn,ZD,eF,Nat.min_eq_right]
def Yg [Inhabited XO] {c:r9}(hs:J7 c)  {g i:Nat}(hg:g=r9.ns c+(c.idxs.length)+i)(hi:i<c.M3.length)(hok:lG c g):dn c 152 i g:=by
 have hn:nth c.names g=(nth c.M3 i).name:=by
  rw [hg];exact aU c (r9.sn c++c.idxs.map oy.name) (c.N5.map qL.name++c.R3.map oT.name++c.S0.map tP.name++c.V3.map tN.name) c.M3 nC.name (by simp [r9.names,r9.sn]) (by simp [Z5]) hi
 have hnl:g<c.names.length:=by rw [ew];omega
 have tu:∀ k,k<(M9 c (r9.ns c)).length->(nth (M9 c (r9.ns c)) k).2.2.length<=100000:=fun k hk=>by
  rw [Z7] at hk;have h3:=dK hs (r9.ns c) k hk (n5 _) (jU (fun m hm=>hok m (by omega)) (n5 _));rw [aY c hk];show (R6 c k).length<=100000
  omega
 have p:=bF2 c (c.names.take g) (M9 c (r9.ns c)) i hi tu
 grind [aj2,dn,ZD,eF,Nat.min_eq_right]
def Yd [Inhabited XO] {c:r9}(hs:J7 c)  {g i:Nat}(hg:g=r9.ns c+(c.idxs.length+c.M3.length)+i)(hi:i<c.N5.length)(hok:lG c g):dn c 153 i g:=by
 have hn:nth c.names g=(nth c.N5 i).name:=by
  rw [hg];exact aU c (r9.sn c++c.idxs.map oy.name++c.M3.map nC.name) (c.R3.map oT.name++c.S0.map tP.name++c.V3.map tN.name) c.N5 qL.name (by simp [r9.names,r9.sn]) (by simp [Z5]) hi
 have hnl:g<c.names.length:=by rw [ew];omega
 have tu:∀ k,k<(M9 c (r9.ns c)).length->(nth (M9 c (r9.ns c)) k).2.2.length<=100000:=fun k hk=>by
  rw [Z7] at hk;have h3:=dK hs (r9.ns c) k hk (n5 _) (jU (fun m hm=>hok m (by omega)) (n5 _));rw [aY c hk];show (R6 c k).length<=100000
  omega
 have p:=bF3 c (c.names.take g) (M9 c (r9.ns c)) i hi tu
 grind [aa0,dn,ZD,eF,Nat.min_eq_right]
def Yf [Inhabited XO] {c:r9}(hs:J7 c)(hg0:∀ k,k<c.views.length->(nth c.views k).kind≠1\/0<(nth c.views k).D5.length){g i:Nat}(hg:g=r9.ns c+(c.idxs.length+c.M3.length+c.N5.length)+i)(hi:i<c.R3.length)(hok:lG c g):dn c 154 i g:=by
 have hn:nth c.names g=(nth c.R3 i).name:=by
  rw [hg];exact aU c (r9.sn c++c.idxs.map oy.name++c.M3.map nC.name++c.N5.map qL.name) (c.S0.map tP.name++c.V3.map tN.name) c.R3 oT.name (by simp [r9.names,r9.sn]) (by simp [Z5,M6]) hi
 have hnl:g<c.names.length:=by rw [ew];omega
 have p:=bF4 c (c.names.take g) (M9 c (r9.ns c)) i hi hs.sm.oB.1 (by rw [Z7];exact n5 _) hs.sm.oB.2.1 hg0
 grind [ah6,dn,ZD,eF,Nat.min_eq_right]
def Yh [Inhabited XO] {c:r9}(hs:J7 c)  {g i:Nat}(hg:g=r9.ns c+(c.idxs.length+c.M3.length+c.N5.length+c.R3.length)+i)(hi:i<c.S0.length)(hok:lG c g):dn c 155 i g:=by
 have hn:nth c.names g=(nth c.S0 i).name:=by
  rw [hg];exact aU c (r9.sn c++c.idxs.map oy.name++c.M3.map nC.name++c.N5.map qL.name++c.R3.map oT.name) (c.V3.map tN.name) c.S0 tP.name (by rfl) (by simp [Z5,M6]) hi
 have hnl:g<c.names.length:=by rw [ew];omega
 have p:=bF5 c (c.names.take g) (M9 c (r9.ns c)) i hi hs.sm.oB.1
 grind [ak1,dn,ZD,eF,Nat.min_eq_right]
def Yc [Inhabited XO] {c:r9}(hs:J7 c)  {g i:Nat}(hg:g=r9.ns c+(c.idxs.length+c.M3.length+c.N5.length+c.R3.length+c.S0.length)+i)(hi:i<c.V3.length)(hok:lG c g):dn c 156 i g:=by
 have hn:nth c.names g=(nth c.V3 i).name:=by
  rw [hg];exact aU c (r9.sn c++c.idxs.map oy.name++c.M3.map nC.name++c.N5.map qL.name++c.R3.map oT.name++c.S0.map tP.name) ([]) c.V3 tN.name (by simp [r9.names,r9.sn]) (by simp [Z5,M6]) hi
 have hnl:g<c.names.length:=by rw [ew];omega
 have p:=bF6 c (c.names.take g) (M9 c (r9.ns c)) i hi hs.sm.oB.1 (hs.bk i hi)
 grind [av7,dn,ZD,eF,Nat.min_eq_right]
def ae6 {c:r9}(h:tooMany c=false):r9.ns c<=20:=by
 simp only [tooMany,EC,u0,G8,decide_eq_false_iff_not] at h;unfold r9.ns;omega
def Xj [Inhabited XO] (c:r9)(hs:J7 c):Pq A 101 [cat c] [xa,xo] an (zM c c.names (M9 c (r9.ns c))):=by
 have hnl:=gK c;refine bG2 c hs.sm.oB (ZD c) ⟨rfl,rfl⟩ (fun g ds ss ds' ss' h h' =>⟨h.1.trans h'.1.symm,h.2.trans h'.2.symm⟩) _ _ (fun ds ss h=>⟨by rw [h.1,List.take_length],by rw [h.2,Nat.min_eq_right hnl]⟩) ?_;rintro q i ds ss hq hi Pw hok ⟨rfl,rfl⟩;have h20:=ae6 Pw
 match q,hq with
 |0,_ =>
  have hi' :i<c.j9.length:=hi;have e:aC c 0+i=i:=by simp [aC]
  rw [e] at hok ⊢;exact Yi hs hi' hok
 |1,_ =>
  have hi' :i<c.views.length:=hi;have e:aC c 1+i=c.j9.length+i:=by simp [aC,cnt]
  rw [e] at hok ⊢;have:=Uk hs (by omega) (g:=c.j9.length+i) (by omega) (by unfold r9.ns;omega) hok;rw [Nat.add_sub_cancel_left] at this;exact this
 |2,_=>exact Ye hs (by simp [aC,cnt,r9.ns]) hi hok
 |3,_=>exact Yg hs (by simp [aC,cnt,r9.ns,M6]) hi hok
 |4,_=>exact Yd hs (by simp [aC,cnt,r9.ns,M6]) hi hok
 |5,_ =>
  refine Yf hs (fun k hk=> ?_) (by simp [aC,cnt,r9.ns,M6]) hi hok;have hle:r9.ns c<=aC c 5+i:=by simp [aC,cnt,r9.ns];omega
  have h9:=iK (eo (hok (k+c.j9.length) (by unfold r9.ns at hle;omega)) (by omega) (by unfold r9.ns;omega));have h10:X2 c (k+c.j9.length)=nth c.views k:=by unfold X2;rw [Nat.add_sub_cancel]
  rw [h10] at h9;exact EV h9.2.2.2
 |6,_=>exact Yh hs (by simp [aC,cnt,r9.ns,M6]) hi hok
 |7,_=>exact Yc hs (by simp [aC,cnt,r9.ns,M6]) hi hok
end Go.Proofs.YtibjocmpkoepoaaGreat


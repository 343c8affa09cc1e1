/- Texts D31 D32 (made short by a program) -/
import Derived.Test.YtkmclibmmlgogaaGreatE0
import Derived.Test.YtkmclibmmlgogaaGreatD9
import Derived.Test.YtkmclibmmlgogaaGreatD6
set_option linter.unusedVariables false
set_option linter.unusedSimpArgs false
open Bool renaming not_eq_false' → B4, not_eq_true' → j9
open List renaming cons_append → G4
open Nat renaming le_of_ble_eq_true → m6, lt_or_ge → p7
namespace Go.Proofs.YtkmclibmmlgogaaGreat
open Go.u7 Go.u7.S
attribute [local irreducible] Rx Ry Rn Ex Pf
theorem Ex.nH {A:Go.u7.Prog}{l:F9}{b:Nat}{c:p5}{T:List b6}{H:o6}{Q:D2->St->Prop}(H2:o6)(hH:H=H2)(h:Ex A l b c ⟨T,H2⟩ Q):Ex A l b c ⟨T,H⟩ Q:=hH ▸ h
theorem Rn.z {A:Go.u7.Prog}{l:F9}{b:Nat}{ops:List n8}{Q:List b6->o6->List b6->Prop}{T:List b6}{H:o6}(s na:Nat)(H' :o6)(sO:X5 ops=[.dead])(vB:slotsOf ops=[.slot s])(hu:∀ i,i ∈ ops->∀ e,e ∈ i.cz->e<ops.length)(hH:H++[.dead]=H')(hna:H.length=na)(h:Rz A l b ops ops T H' 0 [] [.slot s] na Q):Rn A l b ops true T H Q:=by
 subst hH hna;exact Rn.as3 sO vB hu h
theorem lpA {A:Go.u7.Prog}{l:F9}{b:Nat}{dr:Bool}{j4 ops:List n8}{T:List b6}{H:o6}{n:Nat}{rl:List b6}{n5:List u7.Touch}{Q:List b6->o6->List b6->Prop}{x:r8}{u:List Nat}{id o:Nat}{w v:b6}(hv:w.F2=v)(h2:Ry A l b dr j4 ops T H (n+1) (v::rl) n5 Q)(hx:rq T n rl x= .ptr id o:=by rfl)(hr:rd H id o 1=some [w]:=by rfl) :
  Ry A l b dr j4 (⟨.load none x,none,none,u⟩::ops) T H n rl n5 Q:=Ry.pure (rs:=[id]) rfl (by simp only [k9,hx,hr,hv]) h2
def Q3 (ss:List W5)(s:C7):W5:=nth ss (A8 s (ss.map (·.1)) 0).toNat
def oK (ss:List W5)(v:Vw):W5:=if I9 v.right [] then ([],[],[]) else Q3 ss v.right
def R2 (ss:List W5)(ds:List C7)(v:Vw):Int :=
 if !o8 (E0 ds v.name) 0 then E0 ds v.name
 else if !o8 v.kind 0&& !o8 v.kind 1&& !o8 v.kind 2 then 1
 else if C2 (A8 v.left (ss.map (·.1)) 0) 0||(!I9 v.right []&&C2 (A8 v.right (ss.map (·.1)) 0) 0) then 7
 else if !gf v then 1
 else if o8 v.kind 2 then (if !cw o8 (Q3 ss v.left).2.2 (oK ss v).2.2 then 5 else 0)
 else W1 v (Q3 ss v.left).2.2 (oK ss v).2.2
def dG (ss:List W5)(ds:List C7)(v:Vw):List W5 :=
 if o8 (R2 ss ds v) 0 then (if o8 v.kind 2 then ss++[(v.name,(Q3 ss v.left).2.1,(Q3 ss v.left).2.2)] else ss++[(v.name,(W9 v).map FA.name,V2 v ((Q3 ss v.left).2.2++(oK ss v).2.2))]) else ss
set_option maxHeartbeats 32000000 in
theorem Uw (c:m9)(ds:List C7)(ss:List W5)(i:Nat)(hi:i<c.views.length)(h0:(nth c.views i).on.length<=1000)(h1:(nth c.views i).wh.length<=1000)(h2:(nth c.views i).items.length<=1000)(h3:(nth c.views i).B3.length<=1000)(h4:∀ j,j<(nth c.views i).items.length->(nth (nth c.views i).items j).expr.length<=1000)(h5:∀ j,j<(nth c.views i).B3.length->(nth (nth c.views i).B3 j).expr.length<=1000)
  (Da:ss.length<=1000) (ht:∀ k,k<ss.length->0<(nth ss k).2.1.length/\(nth ss k).2.1.length<=5000/\0<(nth ss k).2.2.length/\(nth ss k).2.2.length<=5000) (hsub:∀ s,(ds.any fun y=>I9 y s)=false->((ss.map (·.1)).any fun y=>I9 y s)=false) :
  Pm A 69 [.ptr 4 0,.d (num i)] (HH c ds ss) lW (.d (num (R2 ss ds (nth c.views i)))) (HH c (A1 ds (nth c.views i).name) (dG ss ds (nth c.views i))):=by
 generalize hx:nth c.views i=v at *
 have bP:=eH c ds ss v.name;have pL:=lK c (A1 ds v.name) ss v.left;have pR:=lK c (A1 ds v.name) ss v.right;have bL:=iu ss v.left;have bR:=iu ss v.right;have Ul:=Sn v h2 h3;have hno:E0 ds v.name=0->((ss.map (·.1)).any fun y=>I9 y v.name)=false:=fun h=>by
  refine hsub _ ?_;unfold E0 at h;cases c1:(!D3 v.name) with
  |true=>rw [c1] at h;simp at h
  |false =>
   rw [c1] at h;cases c2:ds.any fun y=>I9 y v.name with
   |false=>rfl
   |true=>rw [c2] at h;simp at h
 suffices h:Pq A 69 [.ptr 4 0,.d (num i)] (HH c ds ss) lW fun w H1=>w= .d (num (R2 ss ds v))/\H1=HH c (A1 ds v.name) (dG ss ds v) by
  obtain ⟨w,H1,⟨rfl,rfl⟩,h⟩:=h;exact h
 have same:∀ e,R2 ss ds v=e->o8 e 0=false->dG ss ds v=ss:=fun e g1 g2=>by unfold dG;rw [g1,g2];rfl
 have Um:∀ L R:List Int,L.length<=5000->R.length<=5000->E0 ds v.name=0->Pm A 120 [.ptr 4 0,vw v,.d (ints L),.d (ints R)] (HH c (A1 ds v.name) ss) lW (.d (num (W1 v L R))) (HH c (A1 ds v.name) (kE ss v L R)):=fun L R hL hR hd=>Ni c (A1 ds v.name) ss v L R hL hR h0 h1 h2 h3 h4 h5 (hno hd) Da
 have vX:∀ nm ty,E0 ds v.name=0->Pm A 111 [.ptr 4 0,.d (.str v.name),nA nm ty] (HH c (A1 ds v.name) ss) lW (.tuple []) (HH c (A1 ds v.name) (ss++[(v.name,nm,ty)])):=fun nm ty hd=>wm c (A1 ds v.name) ss v.name nm ty (hno hd) Da
 unfold HH at *
 refine Pq.run (b:=5) [.ptr 4 0,.d (num i),.any,.any,.any,.any,.any] rfl rfl rfl rfl rfl ?_;refine gr ?_;rw [hx]
 repeat' (first|refine c0 bP rfl (h2:= ?_)|refine gx ?_|fail)
 refine tb (!o8 (E0 ds v.name) 0) (fun g1=> ?_) (fun g1=> ?_)
 ·have e1:R2 ss ds v=E0 ds v.name:=by unfold R2;rw [g1];rfl
  refine gr ?_;exact ⟨_,_,rfl,by rw [e1];rfl,by rw [same _ e1 (by simpa using g1)];rfl⟩
 have Xo:E0 ds v.name=0:=X2 (by simpa using g1);refine gr ?_;refine tb (!o8 v.kind 0&& !o8 v.kind 1&& !o8 v.kind 2) (fun g2=> ?_) (fun g2=> ?_)
 ·have e1:R2 ss ds v=1:=by unfold R2;rw [g1,g2];rfl
  refine gr ?_;exact ⟨_,_,rfl,by rw [e1];rfl,by rw [same 1 e1 (by simp [j5])];rfl⟩
 refine gr ?_;refine tB (C2 (A8 v.left (ss.map (·.1)) 0) 0||(!I9 v.right []&&C2 (A8 v.right (ss.map (·.1)) 0) 0)) ?_ (fun g3=> ?_) (fun g3=> ?_)
 ·repeat' (first|refine c1 pL rfl ?_|refine c1 pR rfl ?_|refine gx ?_|refine fk (h1:=fun hw=> ?_) (h2:=fun hw=> ?_)|refine M8 (h1:=fun hw=> ?_) (h2:=fun hw=> ?_)|refine ⟨rfl,rfl,_,rfl,?_⟩|refine ⟨rfl,rfl⟩|fail)
  all_goals exact cc
 ·have e1:R2 ss ds v=7:=by unfold R2;rw [g1,g2,g3];rfl
  refine gr ?_;exact ⟨_,_,rfl,by rw [e1];rfl,by rw [same 7 e1 (by simp [j5])];rfl⟩
 have Tx :=g3;simp only [Bool.or_eq_false_iff] at Tx;have f1:=z8 Tx.1;have f2:I9 v.right []=false->0<=A8 v.right (ss.map (·.1)) 0:=fun h=>by
  have:=Tx.2;simp only [h,Bool.not_false,Bool.true_and] at this;exact z8 this
 have htL:=ht (A8 v.left (ss.map (·.1)) 0).toNat (by omega);have XP:nth ss (A8 v.left (ss.map (·.1)) 0).toNat=Q3 ss v.left:=rfl;rw [XP] at htL;refine gr ?_;refine tB (!gf v) ?_ (fun g4=> ?_) (fun g4=> ?_)
 ·repeat' (first|refine cl (Ul) ?_|refine gx ?_|refine fk (h1:=fun hw=> ?_) (h2:=fun hw=> ?_)|refine M8 (h1:=fun hw=> ?_) (h2:=fun hw=> ?_)|refine ⟨rfl,rfl,_,rfl,?_⟩|refine ⟨rfl,rfl⟩|fail)
  all_goals exact cc
 ·have e1:R2 ss ds v=1:=by unfold R2;rw [g1,g2,g3,g4];rfl
  refine gr ?_;exact ⟨_,_,rfl,by rw [e1];rfl,by rw [same 1 e1 (by simp [j5])];rfl⟩
 refine gr ?_;refine Ex.nH [.cells (c.enc.map .d),.cells (c.enc.map .d),.map (dmap (A1 ds v.name)),.map (R1 (ss.map (·.1)) 0),.cells (c.enc.map .d++[.map 2,.map 3,A5 2 E9 ss]),.cells (v.enc.map .d)] rfl ?_;refine Ex.region (Rn.z 5 6 [.cells (c.enc.map .d),.cells (c.enc.map .d),.map (dmap (A1 ds v.name)),.map (R1 (ss.map (·.1)) 0),.cells (c.enc.map .d++[.map 2,.map 3,A5 2 E9 ss]),.cells (v.enc.map .d),.dead] rfl rfl (by decide) rfl rfl ?_);refine zm ?_;refine zp (rs:=[]) (.ptr 4 0) rfl ?_;refine zp (rs:=[]) (.ptr 4 10) rfl ?_;refine zp (rs:=[4]) (.d (y7 E9 ss)) rfl ?_;refine zm ?_;refine zp (rs:=[]) (.ptr 5 2) rfl ?_;refine zp (rs:=[5]) (.d (.str v.left)) rfl ?_;refine zc pL rfl ?_ (hmn:=m6 rfl);refine zix (xs:=ss) (enc:=E9) (e:=A8 v.left (ss.map (·.1)) 0) (by omega) ?_;refine zle ?_;rw [XP];refine za (h2:= ?_);refine zs (h2:= ?_);refine zn ?_;refine gr ?_;refine Ex.IM (fun s=>∃ (w0 w1 w2 w4 wa wb:b6),s=⟨[.ptr 4 0,w1,w2,.ptr 5 0,w4,.ptr 6 0,.ptr 7 0],[.cells (c.enc.map .d),.cells (c.enc.map .d),.map (dmap (A1 ds v.name)),.map (R1 (ss.map (·.1)) 0),.cells (c.enc.map .d++[.map 2,.map 3,A5 2 E9 ss]),.cells (v.enc.map .d),.cells ((E9 (Q3 ss v.left)).map .d),.cells [wa,wb]]⟩/\wa.F2= .d (y7 encS (oK ss v).2.1)/\wb.F2= .d (ints (oK ss v).2.2)/\(oK ss v).2.2.length<=5000) ?_ ?_
 ·skip
  refine tb (!I9 v.right []) (fun g6=> ?_) (fun g6=> ?_)
  ·simp only [j9] at g6
   have f3:=f2 g6;have htR:=ht (A8 v.right (ss.map (·.1)) 0).toNat (by omega);have KA:nth ss (A8 v.right (ss.map (·.1)) 0).toNat=oK ss v:=by unfold oK;rw [g6];rfl
   rw [KA] at htR
   repeat' (first|refine c1 pR rfl ?_|refine soD (h2:= ?_)|refine gx ?_|fail)
   rw [KA];exact ⟨.any,_,_,_,_,_,rfl,rfl,rfl,by omega⟩
  ·simp only [B4] at g6
   have KA:oK ss v=([],[],[]):=by unfold oK;rw [g6];rfl
   refine gr ?_;exact ⟨.any,_,_,_,_,_,rfl,by rw [KA];rfl,by rw [KA];rfl,by rw [KA];simp⟩
 rintro _ ⟨w0,w1,w2,w4,wa,wb,rfl,ha,hb,hrl⟩;have UL:=Sp (Q3 ss v.left).2.2 (oK ss v).2.2 (by omega);have UM:=Sq (Q3 ss v.left).2.1 (by omega) (by omega);have UN:=Sr (Q3 ss v.left).2.2 (by omega) (by omega);have GP:=vX (Q3 ss v.left).2.1 (Q3 ss v.left).2.2 Xo;have UO:=Um (Q3 ss v.left).2.2 (oK ss v).2.2 (by omega) hrl Xo;refine gr ?_;refine tb (o8 v.kind 2) (fun g7=> ?_) (fun g7=> ?_)
 ·refine gr ?_
  refine tB (!cw o8 (Q3 ss v.left).2.2 (oK ss v).2.2) ?_ (fun g8=> ?_) (fun g8=> ?_)
  ·repeat' (first|refine lpA hb ?_|refine cl (UL) ?_|refine gx ?_|refine fk (h1:=fun hw=> ?_) (h2:=fun hw=> ?_)|refine M8 (h1:=fun hw=> ?_) (h2:=fun hw=> ?_)|refine ⟨rfl,rfl,_,rfl,?_⟩|refine ⟨rfl,rfl⟩|fail)
   all_goals exact cc
  ·have e1:R2 ss ds v=5:=by unfold R2;rw [g1,g2,g3,g4,g7,g8];rfl
   refine gr ?_;exact ⟨_,_,rfl,by rw [e1];rfl,by rw [same 5 e1 (by simp [j5])];rfl⟩
  have e1:R2 ss ds v=0:=by unfold R2;rw [g1,g2,g3,g4,g7,g8];rfl
  have e2:dG ss ds v=ss++[(v.name,(Q3 ss v.left).2.1,(Q3 ss v.left).2.2)]:=by unfold dG;rw [e1,g7];simp [j5]
  rw [e2]
  repeat' (first|refine cl (UM) ?_|refine cl (UN) ?_|refine c0 GP rfl (h2:= ?_)|refine gx ?_|fail)
  exact ⟨_,_,rfl,by rw [e1];rfl,rfl⟩
 ·have e1:R2 ss ds v=W1 v (Q3 ss v.left).2.2 (oK ss v).2.2:=by unfold R2;rw [g1,g2,g3,g4,g7];rfl
  have e2:dG ss ds v=kE ss v (Q3 ss v.left).2.2 (oK ss v).2.2:=by unfold dG kE;rw [e1,g7];rfl
  rw [e2]
  repeat' (first|refine lpA hb ?_|refine c0 UO rfl (h2:= ?_)|refine gx ?_|fail)
  exact ⟨_,_,rfl,by rw [e1];rfl,rfl⟩
def cnt (c:m9):Nat->Nat
 |0=>c.j3.length
 |1=>c.views.length
 |2=>c.idxs.length
 |3=>c.D6.length
 |4=>c.E3.length
 |5=>c.G9.length
 |6=>c.J3.length
 |_=>c.K8.length
def yj:Nat->Nat
 |0=>8
 |1=>12
 |_=>16
def fid (q:Nat):FuncId:=68+q
def K9 (c:m9):Nat->Nat
 |0=>0
 |q+1=>K9 c q+cnt c q
def L9 (c:m9)(q:Nat):List b6:=[.d (num (cnt c q)),.d (num (yj q)),.func (fid q) [.ptr 4 0] []]
def P4 (c:m9):List b6:=L9 c 0++L9 c 1++L9 c 2++L9 c 3++L9 c 4++L9 c 5++L9 c 6++L9 c 7
theorem lD (c:m9)(q:Nat)(h:q<8)(H:o6)(hH:H[5]? =some (.cells (P4 c))):rd H 5 (0+q * 3) 3=some (L9 c q):=by
 simp only [rd,hH]
 match q,h with
 |0,_=>rfl
 |1,_=>rfl
 |2,_=>rfl
 |3,_=>rfl
 |4,_=>rfl
 |5,_=>rfl
 |6,_=>rfl
 |7,_=>rfl
theorem uF (c:m9)(ds:List C7)(ss:List W5):W8 (HH c ds ss)<=5:=by
 have h1:=cK ds;have h2:=cS (ss.map (·.1)) 0;have e1:y9 (c.enc.map b6.d)=0:=rfl;have e2:y9 (c.enc.map b6.d++[.map 2,.map 3,A5 2 E9 ss])=4:=rfl;simp only [HH,W8,u5.M3,h1,h2,e1,e2]
 decide
theorem oM (c:m9)(ds:List C7)(ss:List W5):O1 (HH c ds ss) 0=true:=by
 have h1:=cK ds;have h2:=cS (ss.map (·.1)) 0;have e1:y9 (c.enc.map b6.d)=0:=rfl;have e2:y9 (c.enc.map b6.d++[.map 2,.map 3,A5 2 E9 ss])=4:=rfl;simp only [HH,O1,u5.M3,h1,h2,e1,e2]
 decide
theorem qt {H:o6}(h:O1 ((H.take 5).drop 0) 0=true):B5 H 0 5=5:=by
 unfold B5;rw [if_neg (by decide),if_pos h]
theorem CI {q:Nat}(h:q<8):A.prom (fid q)=false/\A.mode (fid q)=0:=by
 match q,h with
 |0,_=>exact ⟨rfl,rfl⟩
 |1,_=>exact ⟨rfl,rfl⟩
 |2,_=>exact ⟨rfl,rfl⟩
 |3,_=>exact ⟨rfl,rfl⟩
 |4,_=>exact ⟨rfl,rfl⟩
 |5,_=>exact ⟨rfl,rfl⟩
 |6,_=>exact ⟨rfl,rfl⟩
 |7,_=>exact ⟨rfl,rfl⟩
theorem vR (c:m9):K9 c 8=c.names.length:=by simp [K9,cnt,m9.names];omega
theorem Io (c:m9){q:Nat}(h:q<8):K9 c q+cnt c q<=c.names.length:=by
 rw [<- vR]
 match q,h with
 |0,_=>simp only [K9];omega
 |1,_=>simp only [K9];omega
 |2,_=>simp only [K9];omega
 |3,_=>simp only [K9];omega
 |4,_=>simp only [K9];omega
 |5,_=>simp only [K9];omega
 |6,_=>simp only [K9];omega
 |7,_=>simp only [K9];omega
theorem Ik {c:m9}{q:Nat}(h:q<8)(h2:C2 (yj q) (cnt c q)=true):tooMany c=true:=by
 unfold tooMany zf
 match q,h with
 |0,_=>simp only [yj,cnt] at h2;simp [show C2 8 c.j3.length=true from h2]
 |1,_=>simp only [yj,cnt] at h2;simp [show C2 12 c.views.length=true from h2]
 |2,_=>simp only [yj,cnt] at h2;simp [show C2 16 c.idxs.length=true from h2]
 |3,_=>simp only [yj,cnt] at h2;simp [show C2 16 c.D6.length=true from h2]
 |4,_=>simp only [yj,cnt] at h2;simp [show C2 16 c.E3.length=true from h2]
 |5,_=>simp only [yj,cnt] at h2;simp [show C2 16 c.G9.length=true from h2]
 |6,_=>simp only [yj,cnt] at h2;simp [show C2 16 c.J3.length=true from h2]
 |7,_=>simp only [yj,cnt] at h2;simp [show C2 16 c.K8.length=true from h2]
theorem Mg {c:m9}(h:∀ p,p<8->cnt c p<=yj p):tooMany c=false:=by
 have h0:=h 0 (by omega);have h1:=h 1 (by omega);have h2:=h 2 (by omega);have h3:=h 3 (by omega);have h4:=h 4 (by omega);have h5:=h 5 (by omega);have h6:=h 6 (by omega);have h7:=h 7 (by omega);simp only [cnt,yj] at h0 h1 h2 h3 h4 h5 h6 h7;simp only [tooMany,zf,o9,Bool.or_eq_false_iff,decide_eq_false_iff_not];omega
theorem Aw (c:m9)(ds:List C7)(ss:List W5):W8 (HH c ds ss++[.cells (P4 c)])<=6:=by
 have h1:=cK ds;have h2:=cS (ss.map (·.1)) 0;have e1:y9 (c.enc.map b6.d)=0:=rfl;have e2:y9 (c.enc.map b6.d++[.map 2,.map 3,A5 2 E9 ss])=4:=rfl;have e3:y9 (P4 c)=5:=rfl;simp only [HH,G4,List.nil_append,W8,u5.M3,h1,h2,e1,e2,e3]
 decide
theorem lB (c:m9)(q:Nat):y9 (L9 c q)<=6+1:=m6 rfl
def gF (c:m9)(fds:List C7)(Gi:List W5)(v:b6)(H1:o6):Prop :=
 (∃ R,H1= .cells (c.enc.map .d)::R)/\(o8 (L1 c).2 0=false->v= .tuple [.d .bN,.d (num (L1 c).1),.d (num (L1 c).2)]) /\
  (o8 (L1 c).2 0=true->v= .tuple [.ptr 4 0,.d (num 0),.d (num 0)]/\H1=HH c fds Gi++[.cells (P4 c)])
theorem ru {c:m9}{fds:List C7}{Gi:List W5}{v:b6}{H1:o6}(h:gF c fds Gi v H1):1<=H1.length:=by
 obtain ⟨⟨R,rfl⟩,_⟩:=h;simp
set_option maxHeartbeats 32000000 in
theorem UD (c:m9)(hf:c.fI)(ST:Nat->List C7->List W5->Prop)(Ty:ST 0 [] [])(hST:∀ g ds ss ds' ss',ST g ds ss->ST g ds' ss' ->ds=ds' /\ss=ss')(fds:List C7)(Gi:List W5)(Tz:∀ ds ss,ST c.names.length ds ss->ds=fds/\ss=Gi)
  (hstep:∀ q i ds ss,q<8->i<cnt c q->tooMany c=false->br c (K9 c q+i)->ST (K9 c q+i) ds ss->∃ dz sz,(J2 c (K9 c q+i)=0->ST (K9 c q+i+1) dz sz)/\Pm A (fid q) [.ptr 4 0,.d (num i)] (HH c ds ss) lW (.d (num (J2 c (K9 c q+i)))) (HH c dz sz)) :
  Pq A 29 [cat c] [.cells (c.enc.map .d)] bK (gF c fds Gi):=by
 obtain ⟨f0,f1,f2,f3,f4,f5,f6,f7⟩:=id hf;have TE:∀ q,cnt c q<=1000:=fun q=>by unfold cnt;split<;>assumption
 have ZY:∀ q,yj q<=16:=fun q=>by unfold yj;split<;>omega
 refine Pq.run (b:=1) [cat c,.any,.any,.any,.any,.any,.any,.any,.any,.any,.any,.any,.any,.any,.any,.any,.any,.any,.any,.any] rfl rfl rfl rfl rfl ?_
 repeat' (first|refine mk (h2:= ?_)|refine AD (cs:=c.enc.map .d++[.map 2,.map 3,A5 2 E9 []]) ?_|refine AD (cs:=L9 c 0) ?_|refine AD (cs:=L9 c 1) ?_|refine AD (cs:=L9 c 2) ?_|refine AD (cs:=L9 c 3) ?_|refine AD (cs:=L9 c 4) ?_|refine AD (cs:=L9 c 5) ?_|refine AD (cs:=L9 c 6) ?_|refine AD (cs:=L9 c 7) ?_|refine gx ?_|fail)
 refine Ts (P4 c) rfl ⟨by decide,rfl⟩ (h2:= ?_)
 repeat' (first|refine lrT (h2:= ?_)|refine gx ?_|fail)
 refine Ex.ff (fun k T H=>∃ (q:Nat),T=[.any,.any,.any,.any,.any,.ptr 4 0,.D0 5 3 0 8,.any,.any,.any,.any,.any,.D0 5 3 0 8,.d (num (8:Nat)),.d (num q),.any,.any,.any,.any,.any]/\H=[.cells (c.enc.map .d),.cells (c.enc.map .d),.map [],.map [],.cells (c.enc.map .d++[.map 2,.map 3,A5 2 E9 []]),.cells (P4 c)]/\q+k=8/\∀ p,p<q->cnt c p<=yj p) ?_ (k:=8) ⟨0,rfl,rfl,by simp,fun p h=>absurd h (by omega)⟩;rintro k _ _ ⟨q,rfl,rfl,hk,hq⟩;have b1:=TE q;have b2:=ZY q;have Qf:=lB c q;refine Ex.seq ?_;refine tb (C2 q (8:Nat)) (fun g1=> ?_) (fun g1=> ?_)
 ·have g2:=z6 g1
  have Bb:q<8:=by omega
  have hka:=lD c q Bb ([.cells (c.enc.map .d),.cells (c.enc.map .d),.map [],.map [],.cells (c.enc.map .d++[.map 2,.map 3,A5 2 E9 []]),.cells (P4 c)]) rfl
  repeat' (first|refine ixs (i:=q) (len:=8) Bb ?_|refine lqV hka rfl ?_|refine soB (cs:=L9 c q) (id:=6) Qf (h2:= ?_)|refine gx ?_|fail)
  refine tb (C2 (yj q) (cnt c q)) (fun g3=> ?_) (fun g3=> ?_)
  ·have ht:=Ik Bb g3
   have e1:L1 c=(0,8):=by unfold L1;rw [ht];rfl
   refine gr ?_;exact ⟨_,_,rfl,⟨_,rfl⟩,fun _=>by rw [e1];rfl,fun h=>by rw [e1] at h;simp [j5] at h⟩
  ·have g4:=z8 g3
   refine gr ?_;exact ⟨k - 1,by omega,_,_,rfl,q+1,rfl,rfl,by omega,fun p hp=>by
    rcases p7 p q with h|h
    ·exact hq p h
    ·obtain rfl:p=q:=by omega
     omega⟩
 have g2:=z8 g1;have pJ:=Mg (c:=c) (fun p hp=>hq p (by omega));clear g1 g2 hk hq b1 b2 Qf
 repeat' (first|refine lrT (h2:= ?_)|refine gx ?_|fail)
 refine Ex.ff (fun k T H=>∃ (q g:Nat) (ds:List C7) (ss:List W5),T=[.any,.any,.any,.any,.any,.ptr 4 0,.any,.any,.d (num g),.any,.any,.any,.any,.any,.any,.D0 5 3 0 8,.d (num (8:Nat)),.d (num q),.any,.any]/\H=[.cells (c.enc.map .d),.cells (c.enc.map .d),.map (dmap ds),.map (R1 (ss.map (·.1)) 0),.cells (c.enc.map .d++[.map 2,.map 3,A5 2 E9 ss]),.cells (P4 c)]/\q+k=8/\g=K9 c q/\ST g ds ss/\br c g/\L1 c=aI c (c.names.length - g) g) ?_ (k:=8) ⟨0,0,[],[],rfl,rfl,by simp,rfl,Ty,fun m h=>absurd h (by omega),by unfold L1;rw [pJ];rfl⟩;rintro k _ _ ⟨q,g,ds,ss,rfl,rfl,hk,hg,hst,hok,hch⟩;have b1:=TE q;have Qf:=lB c q;refine Ex.seq ?_;refine tb (C2 q (8:Nat)) (fun g1=> ?_) (fun g1=> ?_)
 ·have g2:=z6 g1
  have Bb:q<8:=by omega
  have hka:=lD c q Bb ([.cells (c.enc.map .d),.cells (c.enc.map .d),.map (dmap ds),.map (R1 (ss.map (·.1)) 0),.cells (c.enc.map .d++[.map 2,.map 3,A5 2 E9 ss]),.cells (P4 c)]) rfl
  repeat' (first|refine ixs (i:=q) (len:=8) Bb ?_|refine lqV hka rfl ?_|refine soB (cs:=L9 c q) (id:=6) Qf (h2:= ?_)|refine gx ?_|fail)
  refine Ex.I7 (fun k T H=>∃ (i g:Nat) (ds:List C7) (ss:List W5) (w0 w1 w2 w3 w4 w6 w7 gm ep xX Oo Ot:b6),T=[w0,w1,w2,w3,w4,.ptr 4 0,w6,w7,.d (num g),.ptr 6 0,gm,ep,xX,Oo,Ot,.D0 5 3 0 8,.d (num (8:Nat)),.d (num q),.d (num (cnt c q)),.d (num i)]/\H=[.cells (c.enc.map .d),.cells (c.enc.map .d),.map (dmap ds),.map (R1 (ss.map (·.1)) 0),.cells (c.enc.map .d++[.map 2,.map 3,A5 2 E9 ss]),.cells (P4 c),.cells (L9 c q)]/\i+k=cnt c q/\g=K9 c q+i/\ST g ds ss/\br c g/\L1 c=aI c (c.names.length - g) g) (by rintro _ _ _ ⟨_,_,_,_,_,_,_,_,_,_,_,_,_,_,_,_,_,rfl,_⟩;rfl) ?_ (k:=cnt c q) ⟨0,g,ds,ss,_,_,_,_,_,_,_,_,_,_,_,_,rfl,rfl,by simp,by omega,hst,hok,hch⟩;clear hst hok hch hka;rintro k2 _ _ ⟨i,g,ds,ss,w0,w1,w2,w3,w4,w6,w7,gm,ep,xX,Oo,Ot,rfl,rfl,hk2,hg2,hst,hok,hch⟩;have XK:=Io c Bb;have hnl:c.names.length<=8000:=by simp [m9.names];omega
  refine Ex.nT ?_;refine Ex.seq ?_;refine tb (C2 i (cnt c q)) (fun g3=> ?_) (fun g3=> ?_)
  ·have g4:=z6 g3
   have Kx:=uF c ds ss;have Qi:=oM c ds ss;subst hg2;obtain ⟨dz,sz,hz,FB⟩:=hstep q i ds ss Bb (by omega) pJ hok hst;unfold HH at FB Kx Qi;obtain ⟨N,hN⟩:∃ N,c.names.length - (K9 c q+i)=N+1:=⟨c.names.length - (K9 c q+i) - 1,by omega⟩;rw [hN,aI] at hch;have Xv:=CI Bb;refine gr ?_;have hs5:B5 ([.cells (c.enc.map .d),.cells (c.enc.map .d),.map (dmap ds),.map (R1 (ss.map (·.1)) 0),.cells (c.enc.map b6.d++[.map 2,.map 3,A5 2 E9 ss]),.cells (P4 c),.cells (L9 c q)]) 0 5=5:=qt (H:=[.cells (c.enc.map .d),.cells (c.enc.map .d),.map (dmap ds),.map (R1 (ss.map (·.1)) 0),.cells (c.enc.map b6.d++[.map 2,.map 3,A5 2 E9 ss]),.cells (P4 c),.cells (L9 c q)]) Qi;refine cv0 (dc:=Xv.1) (hm:=Xv.2) FB rfl Kx (fF Kx) rfl (kU:=by show F9.mk 0 0 5 (B5 _ 0 5)=lW;rw [hs5];rfl) (h2:= ?_);refine gr ?_;refine tb (!o8 (J2 c (K9 c q+i)) 0) (fun g5=> ?_) (fun g5=> ?_)
   ·have e1:L1 c=(((K9 c q+i:Nat):Int),J2 c (K9 c q+i)):=by rw [hch,g5];rfl
    have e2:o8 (J2 c (K9 c q+i)) 0=false:=by simpa using g5
    refine gr ?_;exact ⟨_,_,rfl,⟨_,rfl⟩,fun _=>by rw [e1];rfl,fun h=>by rw [e1] at h;simp only [e2] at h;cases h⟩
   ·have e2:J2 c (K9 c q+i)=0:=X2 (by simpa using g5)
    rw [g5,if_neg (by simp)] at hch;have TR :=hz e2;refine gr ?_;refine ⟨k2 - 1,by omega,i+1,K9 c q+i+1,dz,sz,_,_,_,_,_,_,_,_,_,_,_,_,rfl,rfl,by omega,by omega,TR,fun m hm=> ?_,?_⟩
    ·rcases p7 m (K9 c q+i) with h|h
     ·exact hok m h
     ·obtain rfl:m=K9 c q+i:=by omega
      exact e2
    ·have:c.names.length - (K9 c q+i+1)=N:=by omega
     rw [this];exact hch
  ·have g4:=z8 g3
   refine gr ?_;refine ⟨k - 1,by omega,_,_,uX ?_ ?_,q+1,g,ds,ss,rfl,rfl,by omega,?_,hst,hok,hch⟩
   ·exact m6 rfl
   ·exact Aw c ds ss
   ·simp only [K9];omega
 have g2:=z8 g1;obtain rfl:q=8:=by omega
 rw [vR] at hg;subst hg;rw [Nat.sub_self] at hch;obtain ⟨rfl,rfl⟩:=Tz ds ss hst;refine gr ?_;have e1:L1 c=(0,0):=hch;exact ⟨_,_,rfl,⟨_,rfl⟩,fun h=>by rw [e1] at h;simp [j5] at h,fun _=>⟨rfl,rfl⟩⟩
end Go.Proofs.YtkmclibmmlgogaaGreat


/- Texts D31 D32 (made short by a program) -/
import Derived.Test.YtkmclibmmlgogaaGreatE0
import Derived.Test.YtkmclibmmlgogaaGreatD9
import Derived.Test.YtkmclibmmlgogaaGreatD6
set_option linter.unusedVariables false
set_option linter.unusedSimpArgs false
open Bool renaming not_eq_false' → A7, not_eq_true' → j5, or_eq_false_iff → L6
open List renaming cons_append → D9
open Nat renaming le_of_ble_eq_true → m8, lt_or_ge → p9
namespace Go.Proofs.YtkmclibmmlgogaaGreat
open Go.z7 Go.z7.S
attribute [local irreducible] Rx Ry Rn Ex Pf
theorem Ex.nH {A:Go.z7.Prog}{l:H7}{b:Nat}{c:p6}{T:List b6}{H:o6}{Q:E4->St->Prop}(H2:o6)(hH:H=H2)(h:Ex A l b c ⟨T,H2⟩ Q):Ex A l b c ⟨T,H⟩ Q:=hH ▸ h
theorem Rn.z {A:Go.z7.Prog}{l:H7}{b:Nat}{ops:List n9}{Q:List b6->o6->List b6->Prop}{T:List b6}{H:o6}(s na:Nat)(H' :o6)(tK:Y8 ops=[.dead])(uD:slotsOf ops=[.slot s])(hu:∀ i,i ∈ ops->∀ e,e ∈ i.cO->e<ops.length)(hH:H++[.dead]=H')(hna:H.length=na)(h:Rz A l b ops ops T H' 0 [] [.slot s] na Q):Rn A l b ops true T H Q:=by
 subst hH hna;exact Rn.aA2 tK uD hu h
theorem lpA {A:Go.z7.Prog}{l:H7}{b:Nat}{dr:Bool}{j4 ops:List n9}{T:List b6}{H:o6}{n:Nat}{rl:List b6}{n7:List z7.Touch}{Q:List b6->o6->List b6->Prop}{x:u5}{u:List Nat}{id o:Nat}{w v:b6}(hv:w.G9=v)(h2:Ry A l b dr j4 ops T H (n+1) (v::rl) n7 Q)(hx:rq T n rl x= .ptr id o:=by rfl)(hr:rd H id o 1=some [w]:=by rfl) :
  Ry A l b dr j4 (⟨.load none x,none,none,u⟩::ops) T H n rl n7 Q:=Ry.pure (rs:=[id]) rfl (by simp only [m7,hx,hr,hv]) h2
def R3 (ss:List Y0)(s:D6):Y0:=nth ss (B8 s (ss.map (·.1)) 0).toNat
def pQ (ss:List Y0)(v:Vw):Y0:=if J4 v.right [] then ([],[],[]) else R3 ss v.right
def S7 (ss:List Y0)(ds:List D6)(v:Vw):Int :=
 if !o9 (E8 ds v.name) 0 then E8 ds v.name
 else if !o9 v.kind 0&& !o9 v.kind 1&& !o9 v.kind 2 then 1
 else if C7 (B8 v.left (ss.map (·.1)) 0) 0||(!J4 v.right []&&C7 (B8 v.right (ss.map (·.1)) 0) 0) then 7
 else if !gD v then 1
 else if o9 v.kind 2 then (if !U3 o9 (R3 ss v.left).2.2 (pQ ss v).2.2 then 5 else 0)
 else X4 v (R3 ss v.left).2.2 (pQ ss v).2.2
def dX (ss:List Y0)(ds:List D6)(v:Vw):List Y0 :=
 if o9 (S7 ss ds v) 0 then (if o9 v.kind 2 then ss++[(v.name,(R3 ss v.left).2.1,(R3 ss v.left).2.2)] else ss++[(v.name,(X1 v).map CR.name,X7 v ((R3 ss v.left).2.2++(pQ ss v).2.2))]) else ss
set_option maxHeartbeats 32000000 in
theorem VF (c:n5)(ds:List D6)(ss:List Y0)(i:Nat)(hi:i<c.views.length)(h0:(nth c.views i).on.length<=1000)(h1:(nth c.views i).wh.length<=1000)(h2:(nth c.views i).items.length<=1000)(h3:(nth c.views i).C2.length<=1000)(h4:∀ j,j<(nth c.views i).items.length->(nth (nth c.views i).items j).expr.length<=1000)(h5:∀ j,j<(nth c.views i).C2.length->(nth (nth c.views i).C2 j).expr.length<=1000)
  (DF:ss.length<=1000) (ht:∀ k,k<ss.length->0<(nth ss k).2.1.length/\(nth ss k).2.1.length<=5000/\0<(nth ss k).2.2.length/\(nth ss k).2.2.length<=5000) (hsub:∀ s,(ds.any fun y=>J4 y s)=false->((ss.map (·.1)).any fun y=>J4 y s)=false) :
  Pm A 69 [.ptr 4 0,.d (num i)] (HH c ds ss) lW (.d (num (S7 ss ds (nth c.views i)))) (HH c (B5 ds (nth c.views i).name) (dX ss ds (nth c.views i))):=by
 generalize hx:nth c.views i=v at *
 have cn:=eY c ds ss v.name;have pL:=lD c (B5 ds v.name) ss v.left;have pR:=lD c (B5 ds v.name) ss v.right;have bL:=iO ss v.left;have bR:=iO ss v.right;have Vu:=Tu v h2 h3;have hno:E8 ds v.name=0->((ss.map (·.1)).any fun y=>J4 y v.name)=false:=fun h=>by
  refine hsub _ ?_;unfold E8 at h;cases c1:(!E5 v.name) with
  |true=>rw [c1] at h;simp at h
  |false =>
   rw [c1] at h;cases c2:ds.any fun y=>J4 y v.name with
   |false=>rfl
   |true=>rw [c2] at h;simp at h
 suffices h:Pq A 69 [.ptr 4 0,.d (num i)] (HH c ds ss) lW fun w H1=>w= .d (num (S7 ss ds v))/\H1=HH c (B5 ds v.name) (dX ss ds v) by
  obtain ⟨w,H1,⟨rfl,rfl⟩,h⟩:=h;exact h
 have same:∀ e,S7 ss ds v=e->o9 e 0=false->dX ss ds v=ss:=fun e g1 g2=>by unfold dX;rw [g1,g2];rfl
 have Vv:∀ L R:List Int,L.length<=5000->R.length<=5000->E8 ds v.name=0->Pm A 120 [.ptr 4 0,vw v,.d (ints L),.d (ints R)] (HH c (B5 ds v.name) ss) lW (.d (num (X4 v L R))) (HH c (B5 ds v.name) (lz ss v L R)):=fun L R hL hR hd=>NS c (B5 ds v.name) ss v L R hL hR h0 h1 h2 h3 h4 h5 (hno hd) DF
 have wU:∀ nm ty,E8 ds v.name=0->Pm A 111 [.ptr 4 0,.d (.str v.name),nV nm ty] (HH c (B5 ds v.name) ss) lW (.tuple []) (HH c (B5 ds v.name) (ss++[(v.name,nm,ty)])):=fun nm ty hd=>xd c (B5 ds v.name) ss v.name nm ty (hno hd) DF
 unfold HH at *
 refine Pq.run (b:=5) [.ptr 4 0,.d (num i),.any,.any,.any,.any,.any] rfl rfl rfl rfl rfl ?_;refine gr ?_;rw [hx]
 repeat' (first|refine c0 cn rfl (h2:= ?_)|refine gx ?_|fail)
 refine tb (!o9 (E8 ds v.name) 0) (fun g1=> ?_) (fun g1=> ?_)
 ·have e1:S7 ss ds v=E8 ds v.name:=by unfold S7;rw [g1];rfl
  refine gr ?_;exact ⟨_,_,rfl,by rw [e1];rfl,by rw [same _ e1 (by simpa using g1)];rfl⟩
 have YE:E8 ds v.name=0:=X2 (by simpa using g1);refine gr ?_;refine tb (!o9 v.kind 0&& !o9 v.kind 1&& !o9 v.kind 2) (fun g2=> ?_) (fun g2=> ?_)
 ·have e1:S7 ss ds v=1:=by unfold S7;rw [g1,g2];rfl
  refine gr ?_;exact ⟨_,_,rfl,by rw [e1];rfl,by rw [same 1 e1 (by simp [j9])];rfl⟩
 refine gr ?_;refine tB (C7 (B8 v.left (ss.map (·.1)) 0) 0||(!J4 v.right []&&C7 (B8 v.right (ss.map (·.1)) 0) 0)) ?_ (fun g3=> ?_) (fun g3=> ?_)
 ·repeat' (first|refine c1 pL rfl ?_|refine c1 pR rfl ?_|refine gx ?_|refine fk (h1:=fun hw=> ?_) (h2:=fun hw=> ?_)|refine L3 (h1:=fun hw=> ?_) (h2:=fun hw=> ?_)|refine ⟨rfl,rfl,_,rfl,?_⟩|refine ⟨rfl,rfl⟩|fail)
  all_goals exact cc
 ·have e1:S7 ss ds v=7:=by unfold S7;rw [g1,g2,g3];rfl
  refine gr ?_;exact ⟨_,_,rfl,by rw [e1];rfl,by rw [same 7 e1 (by simp [j9])];rfl⟩
 have UE :=g3;simp only [L6] at UE;have f1:=z8 UE.1;have f2:J4 v.right []=false->0<=B8 v.right (ss.map (·.1)) 0:=fun h=>by
  have:=UE.2;simp only [h,Bool.not_false,Bool.true_and] at this;exact z8 this
 have htL:=ht (B8 v.left (ss.map (·.1)) 0).toNat (by omega);have Zd:nth ss (B8 v.left (ss.map (·.1)) 0).toNat=R3 ss v.left:=rfl;rw [Zd] at htL;refine gr ?_;refine tB (!gD v) ?_ (fun g4=> ?_) (fun g4=> ?_)
 ·repeat' (first|refine cl (Vu) ?_|refine gx ?_|refine fk (h1:=fun hw=> ?_) (h2:=fun hw=> ?_)|refine L3 (h1:=fun hw=> ?_) (h2:=fun hw=> ?_)|refine ⟨rfl,rfl,_,rfl,?_⟩|refine ⟨rfl,rfl⟩|fail)
  all_goals exact cc
 ·have e1:S7 ss ds v=1:=by unfold S7;rw [g1,g2,g3,g4];rfl
  refine gr ?_;exact ⟨_,_,rfl,by rw [e1];rfl,by rw [same 1 e1 (by simp [j9])];rfl⟩
 refine gr ?_;refine Ex.nH [.cells (c.enc.map .d),.cells (c.enc.map .d),.map (dmap (B5 ds v.name)),.map (S6 (ss.map (·.1)) 0),.cells (c.enc.map .d++[.map 2,.map 3,B4 2 G5 ss]),.cells (v.enc.map .d)] rfl ?_;refine Ex.region (Rn.z 5 6 [.cells (c.enc.map .d),.cells (c.enc.map .d),.map (dmap (B5 ds v.name)),.map (S6 (ss.map (·.1)) 0),.cells (c.enc.map .d++[.map 2,.map 3,B4 2 G5 ss]),.cells (v.enc.map .d),.dead] rfl rfl (by decide) rfl rfl ?_);refine zm ?_;refine zp (rs:=[]) (.ptr 4 0) rfl ?_;refine zp (rs:=[]) (.ptr 4 10) rfl ?_;refine zp (rs:=[4]) (.d (A5 G5 ss)) rfl ?_;refine zm ?_;refine zp (rs:=[]) (.ptr 5 2) rfl ?_;refine zp (rs:=[5]) (.d (.str v.left)) rfl ?_;refine zc pL rfl ?_ (hmn:=m8 rfl);refine zix (xs:=ss) (enc:=G5) (e:=B8 v.left (ss.map (·.1)) 0) (by omega) ?_;refine zle ?_;rw [Zd];refine za (h2:= ?_);refine zs (h2:= ?_);refine zn ?_;refine gr ?_;refine Ex.Jq (fun s=>∃ (w0 w1 w2 w4 wa wb:b6),s=⟨[.ptr 4 0,w1,w2,.ptr 5 0,w4,.ptr 6 0,.ptr 7 0],[.cells (c.enc.map .d),.cells (c.enc.map .d),.map (dmap (B5 ds v.name)),.map (S6 (ss.map (·.1)) 0),.cells (c.enc.map .d++[.map 2,.map 3,B4 2 G5 ss]),.cells (v.enc.map .d),.cells ((G5 (R3 ss v.left)).map .d),.cells [wa,wb]]⟩/\wa.G9= .d (A5 encS (pQ ss v).2.1)/\wb.G9= .d (ints (pQ ss v).2.2)/\(pQ ss v).2.2.length<=5000) ?_ ?_
 ·skip
  refine tb (!J4 v.right []) (fun g6=> ?_) (fun g6=> ?_)
  ·simp only [j5] at g6
   have f3:=f2 g6;have htR:=ht (B8 v.right (ss.map (·.1)) 0).toNat (by omega);have Lj:nth ss (B8 v.right (ss.map (·.1)) 0).toNat=pQ ss v:=by unfold pQ;rw [g6];rfl
   rw [Lj] at htR
   repeat' (first|refine c1 pR rfl ?_|refine soD (h2:= ?_)|refine gx ?_|fail)
   rw [Lj];exact ⟨.any,_,_,_,_,_,rfl,rfl,rfl,by omega⟩
  ·simp only [A7] at g6
   have Lj:pQ ss v=([],[],[]):=by unfold pQ;rw [g6];rfl
   refine gr ?_;exact ⟨.any,_,_,_,_,_,rfl,by rw [Lj];rfl,by rw [Lj];rfl,by rw [Lj];simp⟩
 rintro _ ⟨w0,w1,w2,w4,wa,wb,rfl,ha,hb,hrl⟩;have VV:=Tv (R3 ss v.left).2.2 (pQ ss v).2.2 (by omega);have VW:=Tw (R3 ss v.left).2.1 (by omega) (by omega);have VX:=Tx (R3 ss v.left).2.2 (by omega) (by omega);have Hu:=wU (R3 ss v.left).2.1 (R3 ss v.left).2.2 YE;have VY:=Vv (R3 ss v.left).2.2 (pQ ss v).2.2 (by omega) hrl YE;refine gr ?_;refine tb (o9 v.kind 2) (fun g7=> ?_) (fun g7=> ?_)
 ·refine gr ?_
  refine tB (!U3 o9 (R3 ss v.left).2.2 (pQ ss v).2.2) ?_ (fun g8=> ?_) (fun g8=> ?_)
  ·repeat' (first|refine lpA hb ?_|refine cl (VV) ?_|refine gx ?_|refine fk (h1:=fun hw=> ?_) (h2:=fun hw=> ?_)|refine L3 (h1:=fun hw=> ?_) (h2:=fun hw=> ?_)|refine ⟨rfl,rfl,_,rfl,?_⟩|refine ⟨rfl,rfl⟩|fail)
   all_goals exact cc
  ·have e1:S7 ss ds v=5:=by unfold S7;rw [g1,g2,g3,g4,g7,g8];rfl
   refine gr ?_;exact ⟨_,_,rfl,by rw [e1];rfl,by rw [same 5 e1 (by simp [j9])];rfl⟩
  have e1:S7 ss ds v=0:=by unfold S7;rw [g1,g2,g3,g4,g7,g8];rfl
  have e2:dX ss ds v=ss++[(v.name,(R3 ss v.left).2.1,(R3 ss v.left).2.2)]:=by unfold dX;rw [e1,g7];simp [j9]
  rw [e2]
  repeat' (first|refine cl (VW) ?_|refine cl (VX) ?_|refine c0 Hu rfl (h2:= ?_)|refine gx ?_|fail)
  exact ⟨_,_,rfl,by rw [e1];rfl,rfl⟩
 ·have e1:S7 ss ds v=X4 v (R3 ss v.left).2.2 (pQ ss v).2.2:=by unfold S7;rw [g1,g2,g3,g4,g7];rfl
  have e2:dX ss ds v=lz ss v (R3 ss v.left).2.2 (pQ ss v).2.2:=by unfold dX lz;rw [e1,g7];rfl
  rw [e2]
  repeat' (first|refine lpA hb ?_|refine c0 VY rfl (h2:= ?_)|refine gx ?_|fail)
  exact ⟨_,_,rfl,by rw [e1];rfl,rfl⟩
def cnt (c:n5):Nat->Nat
 |0=>c.j3.length
 |1=>c.views.length
 |2=>c.idxs.length
 |3=>c.F3.length
 |4=>c.F9.length
 |5=>c.J3.length
 |6=>c.K9.length
 |_=>c.M8.length
def yW:Nat->Nat
 |0=>8
 |1=>12
 |_=>16
def fid (q:Nat):FuncId:=68+q
def L9 (c:n5):Nat->Nat
 |0=>0
 |q+1=>L9 c q+cnt c q
def N5 (c:n5)(q:Nat):List b6:=[.d (num (cnt c q)),.d (num (yW q)),.func (fid q) [.ptr 4 0] []]
def Q4 (c:n5):List b6:=N5 c 0++N5 c 1++N5 c 2++N5 c 3++N5 c 4++N5 c 5++N5 c 6++N5 c 7
theorem mh (c:n5)(q:Nat)(h:q<8)(H:o6)(hH:H[5]? =some (.cells (Q4 c))):rd H 5 (0+q * 3) 3=some (N5 c q):=by
 simp only [rd,hH]
 match q,h with
 |0,_=>rfl
 |1,_=>rfl
 |2,_=>rfl
 |3,_=>rfl
 |4,_=>rfl
 |5,_=>rfl
 |6,_=>rfl
 |7,_=>rfl
theorem vm (c:n5)(ds:List D6)(ss:List Y0):Y2 (HH c ds ss)<=5:=by
 have h1:=dc ds;have h2:=dx (ss.map (·.1)) 0;have e1:A9 (c.enc.map b6.d)=0:=rfl;have e2:A9 (c.enc.map b6.d++[.map 2,.map 3,B4 2 G5 ss])=4:=rfl;simp only [HH,Y2,z6.N7,h1,h2,e1,e2]
 decide
theorem pU (c:n5)(ds:List D6)(ss:List Y0):P3 (HH c ds ss) 0=true:=by
 have h1:=dc ds;have h2:=dx (ss.map (·.1)) 0;have e1:A9 (c.enc.map b6.d)=0:=rfl;have e2:A9 (c.enc.map b6.d++[.map 2,.map 3,B4 2 G5 ss])=4:=rfl;simp only [HH,P3,z6.N7,h1,h2,e1,e2]
 decide
theorem rA {H:o6}(h:P3 ((H.take 5).drop 0) 0=true):C5 H 0 5=5:=by
 unfold C5;rw [if_neg (by decide),if_pos h]
theorem Dr {q:Nat}(h:q<8):A.prom (fid q)=false/\A.mode (fid q)=0:=by
 match q,h with
 |0,_=>exact ⟨rfl,rfl⟩
 |1,_=>exact ⟨rfl,rfl⟩
 |2,_=>exact ⟨rfl,rfl⟩
 |3,_=>exact ⟨rfl,rfl⟩
 |4,_=>exact ⟨rfl,rfl⟩
 |5,_=>exact ⟨rfl,rfl⟩
 |6,_=>exact ⟨rfl,rfl⟩
 |7,_=>exact ⟨rfl,rfl⟩
theorem wQ (c:n5):L9 c 8=c.names.length:=by simp [L9,cnt,n5.names];omega
theorem IS (c:n5){q:Nat}(h:q<8):L9 c q+cnt c q<=c.names.length:=by
 rw [<- wQ]
 match q,h with
 |0,_=>simp only [L9];omega
 |1,_=>simp only [L9];omega
 |2,_=>simp only [L9];omega
 |3,_=>simp only [L9];omega
 |4,_=>simp only [L9];omega
 |5,_=>simp only [L9];omega
 |6,_=>simp only [L9];omega
 |7,_=>simp only [L9];omega
theorem IN {c:n5}{q:Nat}(h:q<8)(h2:C7 (yW q) (cnt c q)=true):tooMany c=true:=by
 unfold tooMany zU
 match q,h with
 |0,_=>simp only [yW,cnt] at h2;simp [show C7 8 c.j3.length=true from h2]
 |1,_=>simp only [yW,cnt] at h2;simp [show C7 12 c.views.length=true from h2]
 |2,_=>simp only [yW,cnt] at h2;simp [show C7 16 c.idxs.length=true from h2]
 |3,_=>simp only [yW,cnt] at h2;simp [show C7 16 c.F3.length=true from h2]
 |4,_=>simp only [yW,cnt] at h2;simp [show C7 16 c.F9.length=true from h2]
 |5,_=>simp only [yW,cnt] at h2;simp [show C7 16 c.J3.length=true from h2]
 |6,_=>simp only [yW,cnt] at h2;simp [show C7 16 c.K9.length=true from h2]
 |7,_=>simp only [yW,cnt] at h2;simp [show C7 16 c.M8.length=true from h2]
theorem MJ {c:n5}(h:∀ p,p<8->cnt c p<=yW p):tooMany c=false:=by
 have h0:=h 0 (by omega);have h1:=h 1 (by omega);have h2:=h 2 (by omega);have h3:=h 3 (by omega);have h4:=h 4 (by omega);have h5:=h 5 (by omega);have h6:=h 6 (by omega);have h7:=h 7 (by omega);simp only [cnt,yW] at h0 h1 h2 h3 h4 h5 h6 h7;simp only [tooMany,zU,p8,L6,decide_eq_false_iff_not];omega
theorem Bd (c:n5)(ds:List D6)(ss:List Y0):Y2 (HH c ds ss++[.cells (Q4 c)])<=6:=by
 have h1:=dc ds;have h2:=dx (ss.map (·.1)) 0;have e1:A9 (c.enc.map b6.d)=0:=rfl;have e2:A9 (c.enc.map b6.d++[.map 2,.map 3,B4 2 G5 ss])=4:=rfl;have e3:A9 (Q4 c)=5:=rfl;simp only [HH,D9,List.nil_append,Y2,z6.N7,h1,h2,e1,e2,e3]
 decide
theorem mg (c:n5)(q:Nat):A9 (N5 c q)<=6+1:=m8 rfl
def gW (c:n5)(fds:List D6)(GJ:List Y0)(v:b6)(H1:o6):Prop :=
 (∃ R,H1= .cells (c.enc.map .d)::R)/\(o9 (K6 c).2 0=false->v= .tuple [.d .cj,.d (num (K6 c).1),.d (num (K6 c).2)]) /\
  (o9 (K6 c).2 0=true->v= .tuple [.ptr 4 0,.d (num 0),.d (num 0)]/\H1=HH c fds GJ++[.cells (Q4 c)])
theorem gj {c:n5}{fds:List D6}{GJ:List Y0}{v:b6}{H1:o6}(h:gW c fds GJ v H1):1<=H1.length:=by
 obtain ⟨⟨R,rfl⟩,_⟩:=h;simp
set_option maxHeartbeats 32000000 in
theorem VM (c:n5)(hf:c.fq)(ST:Nat->List D6->List Y0->Prop)(UF:ST 0 [] [])(hST:∀ g ds ss ds' ss',ST g ds ss->ST g ds' ss' ->ds=ds' /\ss=ss')(fds:List D6)(GJ:List Y0)(UG:∀ ds ss,ST c.names.length ds ss->ds=fds/\ss=GJ)
  (hstep:∀ q i ds ss,q<8->i<cnt c q->tooMany c=false->bJ c (L9 c q+i)->ST (L9 c q+i) ds ss->∃ dz sz,(K2 c (L9 c q+i)=0->ST (L9 c q+i+1) dz sz)/\Pm A (fid q) [.ptr 4 0,.d (num i)] (HH c ds ss) lW (.d (num (K2 c (L9 c q+i)))) (HH c dz sz)) :
  Pq A 29 [cat c] [.cells (c.enc.map .d)] cU (gW c fds GJ):=by
 obtain ⟨f0,f1,f2,f3,f4,f5,f6,f7⟩:=id hf;have UM:∀ q,cnt c q<=1000:=fun q=>by unfold cnt;split<;>assumption
 have hlm:∀ q,yW q<=16:=fun q=>by unfold yW;split<;>omega
 refine Pq.run (b:=1) [cat c,.any,.any,.any,.any,.any,.any,.any,.any,.any,.any,.any,.any,.any,.any,.any,.any,.any,.any,.any] rfl rfl rfl rfl rfl ?_
 repeat' (first|refine mk (h2:= ?_)|refine Bk (cs:=c.enc.map .d++[.map 2,.map 3,B4 2 G5 []]) ?_|refine Bk (cs:=N5 c 0) ?_|refine Bk (cs:=N5 c 1) ?_|refine Bk (cs:=N5 c 2) ?_|refine Bk (cs:=N5 c 3) ?_|refine Bk (cs:=N5 c 4) ?_|refine Bk (cs:=N5 c 5) ?_|refine Bk (cs:=N5 c 6) ?_|refine Bk (cs:=N5 c 7) ?_|refine gx ?_|fail)
 refine Uy (Q4 c) rfl ⟨by decide,rfl⟩ (h2:= ?_)
 repeat' (first|refine lrT (h2:= ?_)|refine gx ?_|fail)
 refine Ex.fG (fun k T H=>∃ (q:Nat),T=[.any,.any,.any,.any,.any,.ptr 4 0,.E3 5 3 0 8,.any,.any,.any,.any,.any,.E3 5 3 0 8,.d (num (8:Nat)),.d (num q),.any,.any,.any,.any,.any]/\H=[.cells (c.enc.map .d),.cells (c.enc.map .d),.map [],.map [],.cells (c.enc.map .d++[.map 2,.map 3,B4 2 G5 []]),.cells (Q4 c)]/\q+k=8/\∀ p,p<q->cnt c p<=yW p) ?_ (k:=8) ⟨0,rfl,rfl,by simp,fun p h=>absurd h (by omega)⟩;rintro k _ _ ⟨q,rfl,rfl,hk,hq⟩;have b1:=UM q;have b2:=hlm q;have QO:=mg c q;refine Ex.seq ?_;refine tb (C7 q (8:Nat)) (fun g1=> ?_) (fun g1=> ?_)
 ·have g2:=A4 g1
  have BI:q<8:=by omega
  have hka:=mh c q BI ([.cells (c.enc.map .d),.cells (c.enc.map .d),.map [],.map [],.cells (c.enc.map .d++[.map 2,.map 3,B4 2 G5 []]),.cells (Q4 c)]) rfl
  repeat' (first|refine ixs (i:=q) (len:=8) BI ?_|refine lqV hka rfl ?_|refine soB (cs:=N5 c q) (id:=6) QO (h2:= ?_)|refine gx ?_|fail)
  refine tb (C7 (yW q) (cnt c q)) (fun g3=> ?_) (fun g3=> ?_)
  ·have ht:=IN BI g3
   have e1:K6 c=(0,8):=by unfold K6;rw [ht];rfl
   refine gr ?_;exact ⟨_,_,rfl,⟨_,rfl⟩,fun _=>by rw [e1];rfl,fun h=>by rw [e1] at h;simp [j9] at h⟩
  ·have g4:=z8 g3
   refine gr ?_;exact ⟨k - 1,by omega,_,_,rfl,q+1,rfl,rfl,by omega,fun p hp=>by
    rcases p9 p q with h|h
    ·exact hq p h
    ·obtain rfl:p=q:=by omega
     omega⟩
 have g2:=z8 g1;have qy:=MJ (c:=c) (fun p hp=>hq p (by omega));clear g1 g2 hk hq b1 b2 QO
 repeat' (first|refine lrT (h2:= ?_)|refine gx ?_|fail)
 refine Ex.fG (fun k T H=>∃ (q g:Nat) (ds:List D6) (ss:List Y0),T=[.any,.any,.any,.any,.any,.ptr 4 0,.any,.any,.d (num g),.any,.any,.any,.any,.any,.any,.E3 5 3 0 8,.d (num (8:Nat)),.d (num q),.any,.any]/\H=[.cells (c.enc.map .d),.cells (c.enc.map .d),.map (dmap ds),.map (S6 (ss.map (·.1)) 0),.cells (c.enc.map .d++[.map 2,.map 3,B4 2 G5 ss]),.cells (Q4 c)]/\q+k=8/\g=L9 c q/\ST g ds ss/\bJ c g/\K6 c=aW c (c.names.length - g) g) ?_ (k:=8) ⟨0,0,[],[],rfl,rfl,by simp,rfl,UF,fun m h=>absurd h (by omega),by unfold K6;rw [qy];rfl⟩;rintro k _ _ ⟨q,g,ds,ss,rfl,rfl,hk,hg,hst,hok,hch⟩;have b1:=UM q;have QO:=mg c q;refine Ex.seq ?_;refine tb (C7 q (8:Nat)) (fun g1=> ?_) (fun g1=> ?_)
 ·have g2:=A4 g1
  have BI:q<8:=by omega
  have hka:=mh c q BI ([.cells (c.enc.map .d),.cells (c.enc.map .d),.map (dmap ds),.map (S6 (ss.map (·.1)) 0),.cells (c.enc.map .d++[.map 2,.map 3,B4 2 G5 ss]),.cells (Q4 c)]) rfl
  repeat' (first|refine ixs (i:=q) (len:=8) BI ?_|refine lqV hka rfl ?_|refine soB (cs:=N5 c q) (id:=6) QO (h2:= ?_)|refine gx ?_|fail)
  refine Ex.J1 (fun k T H=>∃ (i g:Nat) (ds:List D6) (ss:List Y0) (w0 w1 w2 w3 w4 w6 w7 jI gG Jt OY OZ:b6),T=[w0,w1,w2,w3,w4,.ptr 4 0,w6,w7,.d (num g),.ptr 6 0,jI,gG,Jt,OY,OZ,.E3 5 3 0 8,.d (num (8:Nat)),.d (num q),.d (num (cnt c q)),.d (num i)]/\H=[.cells (c.enc.map .d),.cells (c.enc.map .d),.map (dmap ds),.map (S6 (ss.map (·.1)) 0),.cells (c.enc.map .d++[.map 2,.map 3,B4 2 G5 ss]),.cells (Q4 c),.cells (N5 c q)]/\i+k=cnt c q/\g=L9 c q+i/\ST g ds ss/\bJ c g/\K6 c=aW c (c.names.length - g) g) (by rintro _ _ _ ⟨_,_,_,_,_,_,_,_,_,_,_,_,_,_,_,_,_,rfl,_⟩;rfl) ?_ (k:=cnt c q) ⟨0,g,ds,ss,_,_,_,_,_,_,_,_,_,_,_,_,rfl,rfl,by simp,by omega,hst,hok,hch⟩;clear hst hok hch hka;rintro k2 _ _ ⟨i,g,ds,ss,w0,w1,w2,w3,w4,w6,w7,jI,gG,Jt,OY,OZ,rfl,rfl,hk2,hg2,hst,hok,hch⟩;have WZ:=IS c BI;have hnl:c.names.length<=8000:=by simp [n5.names];omega
  refine Ex.nT ?_;refine Ex.seq ?_;refine tb (C7 i (cnt c q)) (fun g3=> ?_) (fun g3=> ?_)
  ·have g4:=A4 g3
   have Lg:=vm c ds ss;have QU:=pU c ds ss;subst hg2;obtain ⟨dz,sz,hz,oV⟩:=hstep q i ds ss BI (by omega) qy hok hst;unfold HH at oV Lg QU;obtain ⟨N,hN⟩:∃ N,c.names.length - (L9 c q+i)=N+1:=⟨c.names.length - (L9 c q+i) - 1,by omega⟩;rw [hN,aW] at hch;have YL:=Dr BI;refine gr ?_;have hs5:C5 ([.cells (c.enc.map .d),.cells (c.enc.map .d),.map (dmap ds),.map (S6 (ss.map (·.1)) 0),.cells (c.enc.map b6.d++[.map 2,.map 3,B4 2 G5 ss]),.cells (Q4 c),.cells (N5 c q)]) 0 5=5:=rA (H:=[.cells (c.enc.map .d),.cells (c.enc.map .d),.map (dmap ds),.map (S6 (ss.map (·.1)) 0),.cells (c.enc.map b6.d++[.map 2,.map 3,B4 2 G5 ss]),.cells (Q4 c),.cells (N5 c q)]) QU;refine cv0 (dM:=YL.1) (hm:=YL.2) oV rfl Lg (fT Lg) rfl (lV:=by show H7.mk 0 0 5 (C5 _ 0 5)=lW;rw [hs5];rfl) (h2:= ?_);refine gr ?_;refine tb (!o9 (K2 c (L9 c q+i)) 0) (fun g5=> ?_) (fun g5=> ?_)
   ·have e1:K6 c=(((L9 c q+i:Nat):Int),K2 c (L9 c q+i)):=by rw [hch,g5];rfl
    have e2:o9 (K2 c (L9 c q+i)) 0=false:=by simpa using g5
    refine gr ?_;exact ⟨_,_,rfl,⟨_,rfl⟩,fun _=>by rw [e1];rfl,fun h=>by rw [e1] at h;simp only [e2] at h;cases h⟩
   ·have e2:K2 c (L9 c q+i)=0:=X2 (by simpa using g5)
    rw [g5,if_neg (by simp)] at hch;have UY :=hz e2;refine gr ?_;refine ⟨k2 - 1,by omega,i+1,L9 c q+i+1,dz,sz,_,_,_,_,_,_,_,_,_,_,_,_,rfl,rfl,by omega,by omega,UY,fun m hm=> ?_,?_⟩
    ·rcases p9 m (L9 c q+i) with h|h
     ·exact hok m h
     ·obtain rfl:m=L9 c q+i:=by omega
      exact e2
    ·have:c.names.length - (L9 c q+i+1)=N:=by omega
     rw [this];exact hch
  ·have g4:=z8 g3
   refine gr ?_;refine ⟨k - 1,by omega,_,_,vP ?_ ?_,q+1,g,ds,ss,rfl,rfl,by omega,?_,hst,hok,hch⟩
   ·exact m8 rfl
   ·exact Bd c ds ss
   ·simp only [L9];omega
 have g2:=z8 g1;obtain rfl:q=8:=by omega
 rw [wQ] at hg;subst hg;rw [Nat.sub_self] at hch;obtain ⟨rfl,rfl⟩:=UG ds ss hst;refine gr ?_;have e1:K6 c=(0,0):=hch;exact ⟨_,_,rfl,⟨_,rfl⟩,fun h=>by rw [e1] at h;simp [j9] at h,fun _=>⟨rfl,rfl⟩⟩
end Go.Proofs.YtkmclibmmlgogaaGreat


/- Texts D31w D32w D40w D41w D42w (made short by a program) -/
import Derived.Test.YtkmclibmmlgogaaGreatW1
import Derived.Test.YtkmclibmmlgogaaGreatE3
set_option linter.unusedVariables false
set_option linter.unusedSimpArgs false
open Bool renaming not_eq_false' → B4, not_eq_true' → j9
open List renaming cons_append → G4
open Nat renaming add_assoc → H9, le_of_ble_eq_true → m6, le_refl → l5, lt_or_ge → p7
namespace Go.Proofs.YtkmclibmmlgogaaGreat.fB
open Go.u7 Go.u7.S
attribute [local irreducible] Rx Ry Rn Ex Pf
variable [Inhabited XO]
set_option maxHeartbeats 32000000 in
theorem Uw (c:m9)(ds:List C7)(ss:List W5)(i:Nat)(hi:i<c.views.length)(h0:(nth c.views i).on.length<=1000)(h1:(nth c.views i).wh.length<=1000)(h2:(nth c.views i).items.length<=1000)(h3:(nth c.views i).B3.length<=1000)(h4:∀ j,j<(nth c.views i).items.length->(nth (nth c.views i).items j).expr.length<=1000)(h5:∀ j,j<(nth c.views i).B3.length->(nth (nth c.views i).B3 j).expr.length<=1000)
  (Da:ss.length<=1000) (ht:∀ k,k<ss.length->0<(nth ss k).2.1.length/\(nth ss k).2.1.length<=5000/\0<(nth ss k).2.2.length/\(nth ss k).2.2.length<=5000) (hsub:∀ s,(ds.any fun y=>I9 y s)=false->((ss.map (·.1)).any fun y=>I9 y s)=false) :
  Pm A 69 [.ptr 5 0,.d (num i)] (HH c ds ss) lW (.d (num (R2 ss ds (nth c.views i)))) (HH c (A1 ds (nth c.views i).name) (dG ss ds (nth c.views i))):=by
 generalize hx:nth c.views i=v at *
 have bP:=eH c ds ss v.name;have pL:=lK c (A1 ds v.name) ss v.left;have pR:=lK c (A1 ds v.name) ss v.right;have bL:=iu ss v.left;have bR:=iu ss v.right;have Ul:=Sn v h2 h3;have hno:E0 ds v.name=0->((ss.map (·.1)).any fun y=>I9 y v.name)=false:=fun h=>by
  refine hsub _ ?_;unfold E0 at h;cases c1:(!D3 v.name) with
  |true=>rw [c1] at h;simp at h
  |false =>
   rw [c1] at h;cases c2:ds.any fun y=>I9 y v.name with
   |false=>rfl
   |true=>rw [c2] at h;simp at h
 suffices h:Pq A 69 [.ptr 5 0,.d (num i)] (HH c ds ss) lW fun w H1=>w= .d (num (R2 ss ds v))/\H1=HH c (A1 ds v.name) (dG ss ds v) by
  obtain ⟨w,H1,⟨rfl,rfl⟩,h⟩:=h;exact h
 have same:∀ e,R2 ss ds v=e->o8 e 0=false->dG ss ds v=ss:=fun e g1 g2=>by unfold dG;rw [g1,g2];rfl
 have Um:∀ L R:List Int,L.length<=5000->R.length<=5000->E0 ds v.name=0->Pm A 120 [.ptr 5 0,vw v,.d (ints L),.d (ints R)] (HH c (A1 ds v.name) ss) lW (.d (num (W1 v L R))) (HH c (A1 ds v.name) (kE ss v L R)):=fun L R hL hR hd=>Ni c (A1 ds v.name) ss v L R hL hR h0 h1 h2 h3 h4 h5 (hno hd) Da
 have vX:∀ nm ty,E0 ds v.name=0->Pm A 111 [.ptr 5 0,.d (.str v.name),nA nm ty] (HH c (A1 ds v.name) ss) lW (.tuple []) (HH c (A1 ds v.name) (ss++[(v.name,nm,ty)])):=fun nm ty hd=>wm c (A1 ds v.name) ss v.name nm ty (hno hd) Da
 unfold HH at *
 refine Pq.run (b:=6) [.ptr 5 0,.d (num i),.any,.any,.any,.any,.any] rfl rfl rfl rfl rfl ?_;refine gr ?_;rw [hx]
 repeat' (first|refine c0 bP rfl (h2:= ?_)|refine gx ?_|fail)
 refine tb (!o8 (E0 ds v.name) 0) (fun g1=> ?_) (fun g1=> ?_)
 ·have e1:R2 ss ds v=E0 ds v.name:=by unfold R2;rw [g1];rfl
  refine gr ?_;exact ⟨_,_,rfl,by rw [e1];rfl,by rw [same _ e1 (by simpa using g1)];rfl⟩
 have Xo:E0 ds v.name=0:=X2 (by simpa using g1);refine gr ?_;refine tb (!o8 v.kind 0&& !o8 v.kind 1&& !o8 v.kind 2) (fun g2=> ?_) (fun g2=> ?_)
 ·have e1:R2 ss ds v=1:=by unfold R2;rw [g1,g2];rfl
  refine gr ?_;exact ⟨_,_,rfl,by rw [e1];rfl,by rw [same 1 e1 (by simp [j5])];rfl⟩
 refine gr ?_;refine tB (C2 (A8 v.left (ss.map (·.1)) 0) 0||(!I9 v.right []&&C2 (A8 v.right (ss.map (·.1)) 0) 0)) ?_ (fun g3=> ?_) (fun g3=> ?_)
 ·repeat' (first|refine c1 pL rfl ?_|refine c1 pR rfl ?_|refine gx ?_|refine fk (h1:=fun hw=> ?_) (h2:=fun hw=> ?_)|refine M8 (h1:=fun hw=> ?_) (h2:=fun hw=> ?_)|refine ⟨rfl,rfl,_,rfl,?_⟩|refine ⟨rfl,rfl⟩|fail)
  all_goals exact cc
 ·have e1:R2 ss ds v=7:=by unfold R2;rw [g1,g2,g3];rfl
  refine gr ?_;exact ⟨_,_,rfl,by rw [e1];rfl,by rw [same 7 e1 (by simp [j5])];rfl⟩
 have Tx :=g3;simp only [Bool.or_eq_false_iff] at Tx;have f1:=z8 Tx.1;have f2:I9 v.right []=false->0<=A8 v.right (ss.map (·.1)) 0:=fun h=>by
  have:=Tx.2;simp only [h,Bool.not_false,Bool.true_and] at this;exact z8 this
 have htL:=ht (A8 v.left (ss.map (·.1)) 0).toNat (by omega);have XP:nth ss (A8 v.left (ss.map (·.1)) 0).toNat=Q3 ss v.left:=rfl;rw [XP] at htL;refine gr ?_;refine tB (!gf v) ?_ (fun g4=> ?_) (fun g4=> ?_)
 ·repeat' (first|refine cl (Ul) ?_|refine gx ?_|refine fk (h1:=fun hw=> ?_) (h2:=fun hw=> ?_)|refine M8 (h1:=fun hw=> ?_) (h2:=fun hw=> ?_)|refine ⟨rfl,rfl,_,rfl,?_⟩|refine ⟨rfl,rfl⟩|fail)
  all_goals exact cc
 ·have e1:R2 ss ds v=1:=by unfold R2;rw [g1,g2,g3,g4];rfl
  refine gr ?_;exact ⟨_,_,rfl,by rw [e1];rfl,by rw [same 1 e1 (by simp [j5])];rfl⟩
 refine gr ?_;refine Ex.nH [.cells (c.enc.map .d),xo,.cells (c.enc.map .d),.map (dmap (A1 ds v.name)),.map (R1 (ss.map (·.1)) 0),.cells (c.enc.map .d++[.map 3,.map 4,A5 2 E9 ss]),.cells (v.enc.map .d)] rfl ?_;refine Ex.region (Rn.z 5 7 [.cells (c.enc.map .d),xo,.cells (c.enc.map .d),.map (dmap (A1 ds v.name)),.map (R1 (ss.map (·.1)) 0),.cells (c.enc.map .d++[.map 3,.map 4,A5 2 E9 ss]),.cells (v.enc.map .d),.dead] rfl rfl (by decide) rfl rfl ?_);refine zm ?_;refine zp (rs:=[]) (.ptr 5 0) rfl ?_;refine zp (rs:=[]) (.ptr 5 10) rfl ?_;refine zp (rs:=[5]) (.d (y7 E9 ss)) rfl ?_;refine zm ?_;refine zp (rs:=[]) (.ptr 6 2) rfl ?_;refine zp (rs:=[6]) (.d (.str v.left)) rfl ?_;refine zc pL rfl ?_ (hmn:=m6 rfl);refine zix (xs:=ss) (enc:=E9) (e:=A8 v.left (ss.map (·.1)) 0) (by omega) ?_;refine zle ?_;rw [XP];refine za (h2:= ?_);refine zs (h2:= ?_);refine zn ?_;refine gr ?_;refine Ex.IM (fun s=>∃ (w0 w1 w2 w4 wa wb:b6),s=⟨[.ptr 5 0,w1,w2,.ptr 6 0,w4,.ptr 7 0,.ptr 8 0],[.cells (c.enc.map .d),xo,.cells (c.enc.map .d),.map (dmap (A1 ds v.name)),.map (R1 (ss.map (·.1)) 0),.cells (c.enc.map .d++[.map 3,.map 4,A5 2 E9 ss]),.cells (v.enc.map .d),.cells ((E9 (Q3 ss v.left)).map .d),.cells [wa,wb]]⟩/\wa.F2= .d (y7 encS (oK ss v).2.1)/\wb.F2= .d (ints (oK ss v).2.2)/\(oK ss v).2.2.length<=5000) ?_ ?_
 ·skip
  refine tb (!I9 v.right []) (fun g6=> ?_) (fun g6=> ?_)
  ·simp only [j9] at g6
   have f3:=f2 g6;have htR:=ht (A8 v.right (ss.map (·.1)) 0).toNat (by omega);have KA:nth ss (A8 v.right (ss.map (·.1)) 0).toNat=oK ss v:=by unfold oK;rw [g6];rfl
   rw [KA] at htR
   repeat' (first|refine c1 pR rfl ?_|refine soD (h2:= ?_)|refine gx ?_|fail)
   rw [KA];exact ⟨.any,_,_,_,_,_,rfl,rfl,rfl,by omega⟩
  ·simp only [B4] at g6
   have KA:oK ss v=([],[],[]):=by unfold oK;rw [g6];rfl
   refine gr ?_;exact ⟨.any,_,_,_,_,_,rfl,by rw [KA];rfl,by rw [KA];rfl,by rw [KA];simp⟩
 rintro _ ⟨w0,w1,w2,w4,wa,wb,rfl,ha,hb,hrl⟩;have UL:=Sp (Q3 ss v.left).2.2 (oK ss v).2.2 (by omega);have UM:=Sq (Q3 ss v.left).2.1 (by omega) (by omega);have UN:=Sr (Q3 ss v.left).2.2 (by omega) (by omega);have GP:=vX (Q3 ss v.left).2.1 (Q3 ss v.left).2.2 Xo;have UO:=Um (Q3 ss v.left).2.2 (oK ss v).2.2 (by omega) hrl Xo;refine gr ?_;refine tb (o8 v.kind 2) (fun g7=> ?_) (fun g7=> ?_)
 ·refine gr ?_
  refine tB (!cw o8 (Q3 ss v.left).2.2 (oK ss v).2.2) ?_ (fun g8=> ?_) (fun g8=> ?_)
  ·repeat' (first|refine lpA hb ?_|refine cl (UL) ?_|refine gx ?_|refine fk (h1:=fun hw=> ?_) (h2:=fun hw=> ?_)|refine M8 (h1:=fun hw=> ?_) (h2:=fun hw=> ?_)|refine ⟨rfl,rfl,_,rfl,?_⟩|refine ⟨rfl,rfl⟩|fail)
   all_goals exact cc
  ·have e1:R2 ss ds v=5:=by unfold R2;rw [g1,g2,g3,g4,g7,g8];rfl
   refine gr ?_;exact ⟨_,_,rfl,by rw [e1];rfl,by rw [same 5 e1 (by simp [j5])];rfl⟩
  have e1:R2 ss ds v=0:=by unfold R2;rw [g1,g2,g3,g4,g7,g8];rfl
  have e2:dG ss ds v=ss++[(v.name,(Q3 ss v.left).2.1,(Q3 ss v.left).2.2)]:=by unfold dG;rw [e1,g7];simp [j5]
  rw [e2]
  repeat' (first|refine cl (UM) ?_|refine cl (UN) ?_|refine c0 GP rfl (h2:= ?_)|refine gx ?_|fail)
  exact ⟨_,_,rfl,by rw [e1];rfl,rfl⟩
 ·have e1:R2 ss ds v=W1 v (Q3 ss v.left).2.2 (oK ss v).2.2:=by unfold R2;rw [g1,g2,g3,g4,g7];rfl
  have e2:dG ss ds v=kE ss v (Q3 ss v.left).2.2 (oK ss v).2.2:=by unfold dG kE;rw [e1,g7];rfl
  rw [e2]
  repeat' (first|refine lpA hb ?_|refine c0 UO rfl (h2:= ?_)|refine gx ?_|fail)
  exact ⟨_,_,rfl,by rw [e1];rfl,rfl⟩
end Go.Proofs.YtkmclibmmlgogaaGreat.fB
namespace Go.Proofs.YtkmclibmmlgogaaGreat.fB
open Go.u7 Go.u7.S
attribute [local irreducible] Rx Ry Rn Ex Pf
variable [Inhabited XO]
def L9 (c:m9)(q:Nat):List b6:=[.d (num (cnt c q)),.d (num (yj q)),.func (fid q) [.ptr 5 0] []]
def P4 (c:m9):List b6:=L9 c 0++L9 c 1++L9 c 2++L9 c 3++L9 c 4++L9 c 5++L9 c 6++L9 c 7
theorem lD (c:m9)(q:Nat)(h:q<8)(H:o6)(hH:H[6]? =some (.cells (P4 c))):rd H 6 (0+q * 3) 3=some (L9 c q):=by
 have _x:=(default:XO);simp only [rd,hH]
 match q,h with
 |0,_=>rfl
 |1,_=>rfl
 |2,_=>rfl
 |3,_=>rfl
 |4,_=>rfl
 |5,_=>rfl
 |6,_=>rfl
 |7,_=>rfl
theorem uF (c:m9)(ds:List C7)(ss:List W5):W8 (HH c ds ss)<=6:=by
 have h1:=cK ds;have h2:=cS (ss.map (·.1)) 0;have e0:y9 [b6.d (num (default:XO).x)]=0:=rfl;have e1:y9 (c.enc.map b6.d)=0:=rfl;have e2:y9 (c.enc.map b6.d++[.map 3,.map 4,A5 2 E9 ss])=5:=rfl;simp only [HH,W8,u5.M3,h1,h2,e0,e1,e2]
 decide
theorem oM (c:m9)(ds:List C7)(ss:List W5):O1 (HH c ds ss) 0=true:=by
 have h1:=cK ds;have h2:=cS (ss.map (·.1)) 0;have e0:y9 [b6.d (num (default:XO).x)]=0:=rfl;have e1:y9 (c.enc.map b6.d)=0:=rfl;have e2:y9 (c.enc.map b6.d++[.map 3,.map 4,A5 2 E9 ss])=5:=rfl;simp only [HH,O1,u5.M3,h1,h2,e0,e1,e2]
 decide
theorem qt {H:o6}(h:O1 ((H.take 6).drop 0) 0=true):B5 H 0 6=6:=by
 have _x:=(default:XO);unfold B5;rw [if_neg (by decide),if_pos h]
theorem Aw (c:m9)(ds:List C7)(ss:List W5):W8 (HH c ds ss++[.cells (P4 c)])<=7:=by
 have h1:=cK ds;have h2:=cS (ss.map (·.1)) 0;have e0:y9 [b6.d (num (default:XO).x)]=0:=rfl;have e1:y9 (c.enc.map b6.d)=0:=rfl;have e2:y9 (c.enc.map b6.d++[.map 3,.map 4,A5 2 E9 ss])=5:=rfl;have e3:y9 (P4 c)=6:=rfl;simp only [HH,G4,List.nil_append,W8,u5.M3,h1,h2,e0,e1,e2,e3]
 decide
theorem lB (c:m9)(q:Nat):y9 (L9 c q)<=7+1:=by
 have _x:=(default:XO);exact m6 rfl
def gF (c:m9)(fds:List C7)(Gi:List W5)(v:b6)(H1:o6):Prop :=
 (∃ R,H1= .cells (c.enc.map .d)::xo::R)/\(o8 (L1 c).2 0=false->v= .tuple [.d .bN,.d (num (L1 c).1),.d (num (L1 c).2)]) /\
  (o8 (L1 c).2 0=true->v= .tuple [.ptr 5 0,.d (num 0),.d (num 0)]/\H1=HH c fds Gi++[.cells (P4 c)])
theorem ru {c:m9}{fds:List C7}{Gi:List W5}{v:b6}{H1:o6}(h:gF c fds Gi v H1):2<=H1.length:=by
 obtain ⟨⟨R,rfl⟩,_⟩:=h;simp
set_option maxHeartbeats 32000000 in
theorem UD (c:m9)(hf:c.fI)(ST:Nat->List C7->List W5->Prop)(Ty:ST 0 [] [])(hST:∀ g ds ss ds' ss',ST g ds ss->ST g ds' ss' ->ds=ds' /\ss=ss')(fds:List C7)(Gi:List W5)(Tz:∀ ds ss,ST c.names.length ds ss->ds=fds/\ss=Gi)
  (hstep:∀ q i ds ss,q<8->i<cnt c q->tooMany c=false->br c (K9 c q+i)->ST (K9 c q+i) ds ss->∃ dz sz,(J2 c (K9 c q+i)=0->ST (K9 c q+i+1) dz sz)/\Pm A (fid q) [.ptr 5 0,.d (num i)] (HH c ds ss) lW (.d (num (J2 c (K9 c q+i)))) (HH c dz sz)) :
  Pq A 29 [cat c] [.cells (c.enc.map .d),xo] bK (gF c fds Gi):=by
 obtain ⟨f0,f1,f2,f3,f4,f5,f6,f7⟩:=id hf;have TE:∀ q,cnt c q<=1000:=fun q=>by unfold cnt;split<;>assumption
 have ZY:∀ q,yj q<=16:=fun q=>by unfold yj;split<;>omega
 refine Pq.run (b:=2) [cat c,.any,.any,.any,.any,.any,.any,.any,.any,.any,.any,.any,.any,.any,.any,.any,.any,.any,.any,.any] rfl rfl rfl rfl rfl ?_
 repeat' (first|refine mk (h2:= ?_)|refine AD (cs:=c.enc.map .d++[.map 3,.map 4,A5 2 E9 []]) ?_|refine AD (cs:=L9 c 0) ?_|refine AD (cs:=L9 c 1) ?_|refine AD (cs:=L9 c 2) ?_|refine AD (cs:=L9 c 3) ?_|refine AD (cs:=L9 c 4) ?_|refine AD (cs:=L9 c 5) ?_|refine AD (cs:=L9 c 6) ?_|refine AD (cs:=L9 c 7) ?_|refine gx ?_|fail)
 refine Ts (P4 c) rfl ⟨by decide,rfl⟩ (h2:= ?_)
 repeat' (first|refine lrT (h2:= ?_)|refine gx ?_|fail)
 refine Ex.ff (fun k T H=>∃ (q:Nat),T=[.any,.any,.any,.any,.any,.ptr 5 0,.D0 6 3 0 8,.any,.any,.any,.any,.any,.D0 6 3 0 8,.d (num (8:Nat)),.d (num q),.any,.any,.any,.any,.any]/\H=[.cells (c.enc.map .d),xo,.cells (c.enc.map .d),.map [],.map [],.cells (c.enc.map .d++[.map 3,.map 4,A5 2 E9 []]),.cells (P4 c)]/\q+k=8/\∀ p,p<q->cnt c p<=yj p) ?_ (k:=8) ⟨0,rfl,rfl,by simp,fun p h=>absurd h (by omega)⟩;rintro k _ _ ⟨q,rfl,rfl,hk,hq⟩;have b1:=TE q;have b2:=ZY q;have Qf:=lB c q;refine Ex.seq ?_;refine tb (C2 q (8:Nat)) (fun g1=> ?_) (fun g1=> ?_)
 ·have g2:=z6 g1
  have Bb:q<8:=by omega
  have hka:=lD c q Bb ([.cells (c.enc.map .d),xo,.cells (c.enc.map .d),.map [],.map [],.cells (c.enc.map .d++[.map 3,.map 4,A5 2 E9 []]),.cells (P4 c)]) rfl
  repeat' (first|refine ixs (i:=q) (len:=8) Bb ?_|refine lqV hka rfl ?_|refine soB (cs:=L9 c q) (id:=7) Qf (h2:= ?_)|refine gx ?_|fail)
  refine tb (C2 (yj q) (cnt c q)) (fun g3=> ?_) (fun g3=> ?_)
  ·have ht:=Ik Bb g3
   have e1:L1 c=(0,8):=by unfold L1;rw [ht];rfl
   refine gr ?_;exact ⟨_,_,rfl,⟨_,rfl⟩,fun _=>by rw [e1];rfl,fun h=>by rw [e1] at h;simp [j5] at h⟩
  ·have g4:=z8 g3
   refine gr ?_;exact ⟨k - 1,by omega,_,_,rfl,q+1,rfl,rfl,by omega,fun p hp=>by
    rcases p7 p q with h|h
    ·exact hq p h
    ·obtain rfl:p=q:=by omega
     omega⟩
 have g2:=z8 g1;have pJ:=Mg (c:=c) (fun p hp=>hq p (by omega));clear g1 g2 hk hq b1 b2 Qf
 repeat' (first|refine lrT (h2:= ?_)|refine gx ?_|fail)
 refine Ex.ff (fun k T H=>∃ (q g:Nat) (ds:List C7) (ss:List W5),T=[.any,.any,.any,.any,.any,.ptr 5 0,.any,.any,.d (num g),.any,.any,.any,.any,.any,.any,.D0 6 3 0 8,.d (num (8:Nat)),.d (num q),.any,.any]/\H=[.cells (c.enc.map .d),xo,.cells (c.enc.map .d),.map (dmap ds),.map (R1 (ss.map (·.1)) 0),.cells (c.enc.map .d++[.map 3,.map 4,A5 2 E9 ss]),.cells (P4 c)]/\q+k=8/\g=K9 c q/\ST g ds ss/\br c g/\L1 c=aI c (c.names.length - g) g) ?_ (k:=8) ⟨0,0,[],[],rfl,rfl,by simp,rfl,Ty,fun m h=>absurd h (by omega),by unfold L1;rw [pJ];rfl⟩;rintro k _ _ ⟨q,g,ds,ss,rfl,rfl,hk,hg,hst,hok,hch⟩;have b1:=TE q;have Qf:=lB c q;refine Ex.seq ?_;refine tb (C2 q (8:Nat)) (fun g1=> ?_) (fun g1=> ?_)
 ·have g2:=z6 g1
  have Bb:q<8:=by omega
  have hka:=lD c q Bb ([.cells (c.enc.map .d),xo,.cells (c.enc.map .d),.map (dmap ds),.map (R1 (ss.map (·.1)) 0),.cells (c.enc.map .d++[.map 3,.map 4,A5 2 E9 ss]),.cells (P4 c)]) rfl
  repeat' (first|refine ixs (i:=q) (len:=8) Bb ?_|refine lqV hka rfl ?_|refine soB (cs:=L9 c q) (id:=7) Qf (h2:= ?_)|refine gx ?_|fail)
  refine Ex.I7 (fun k T H=>∃ (i g:Nat) (ds:List C7) (ss:List W5) (w0 w1 w2 w3 w4 w6 w7 gm ep xX Oo Ot:b6),T=[w0,w1,w2,w3,w4,.ptr 5 0,w6,w7,.d (num g),.ptr 7 0,gm,ep,xX,Oo,Ot,.D0 6 3 0 8,.d (num (8:Nat)),.d (num q),.d (num (cnt c q)),.d (num i)]/\H=[.cells (c.enc.map .d),xo,.cells (c.enc.map .d),.map (dmap ds),.map (R1 (ss.map (·.1)) 0),.cells (c.enc.map .d++[.map 3,.map 4,A5 2 E9 ss]),.cells (P4 c),.cells (L9 c q)]/\i+k=cnt c q/\g=K9 c q+i/\ST g ds ss/\br c g/\L1 c=aI c (c.names.length - g) g) (by rintro _ _ _ ⟨_,_,_,_,_,_,_,_,_,_,_,_,_,_,_,_,_,rfl,_⟩;rfl) ?_ (k:=cnt c q) ⟨0,g,ds,ss,_,_,_,_,_,_,_,_,_,_,_,_,rfl,rfl,by simp,by omega,hst,hok,hch⟩;clear hst hok hch hka;rintro k2 _ _ ⟨i,g,ds,ss,w0,w1,w2,w3,w4,w6,w7,gm,ep,xX,Oo,Ot,rfl,rfl,hk2,hg2,hst,hok,hch⟩;have XK:=Io c Bb;have hnl:c.names.length<=8000:=by simp [m9.names];omega
  refine Ex.nT ?_;refine Ex.seq ?_;refine tb (C2 i (cnt c q)) (fun g3=> ?_) (fun g3=> ?_)
  ·have g4:=z6 g3
   have Kx:=uF c ds ss;have Qi:=oM c ds ss;subst hg2;obtain ⟨dz,sz,hz,FB⟩:=hstep q i ds ss Bb (by omega) pJ hok hst;unfold HH at FB Kx Qi;obtain ⟨N,hN⟩:∃ N,c.names.length - (K9 c q+i)=N+1:=⟨c.names.length - (K9 c q+i) - 1,by omega⟩;rw [hN,aI] at hch;have Xv:=CI Bb;refine gr ?_;have hs5:B5 ([.cells (c.enc.map .d),xo,.cells (c.enc.map .d),.map (dmap ds),.map (R1 (ss.map (·.1)) 0),.cells (c.enc.map b6.d++[.map 3,.map 4,A5 2 E9 ss]),.cells (P4 c),.cells (L9 c q)]) 0 6=6:=qt (H:=[.cells (c.enc.map .d),xo,.cells (c.enc.map .d),.map (dmap ds),.map (R1 (ss.map (·.1)) 0),.cells (c.enc.map b6.d++[.map 3,.map 4,A5 2 E9 ss]),.cells (P4 c),.cells (L9 c q)]) Qi;refine cv0 (dc:=Xv.1) (hm:=Xv.2) FB rfl Kx (fF Kx) rfl (kU:=by show F9.mk 0 0 6 (B5 _ 0 6)=lW;rw [hs5];rfl) (h2:= ?_);refine gr ?_;refine tb (!o8 (J2 c (K9 c q+i)) 0) (fun g5=> ?_) (fun g5=> ?_)
   ·have e1:L1 c=(((K9 c q+i:Nat):Int),J2 c (K9 c q+i)):=by rw [hch,g5];rfl
    have e2:o8 (J2 c (K9 c q+i)) 0=false:=by simpa using g5
    refine gr ?_;exact ⟨_,_,rfl,⟨_,rfl⟩,fun _=>by rw [e1];rfl,fun h=>by rw [e1] at h;simp only [e2] at h;cases h⟩
   ·have e2:J2 c (K9 c q+i)=0:=X2 (by simpa using g5)
    rw [g5,if_neg (by simp)] at hch;have TR :=hz e2;refine gr ?_;refine ⟨k2 - 1,by omega,i+1,K9 c q+i+1,dz,sz,_,_,_,_,_,_,_,_,_,_,_,_,rfl,rfl,by omega,by omega,TR,fun m hm=> ?_,?_⟩
    ·rcases p7 m (K9 c q+i) with h|h
     ·exact hok m h
     ·obtain rfl:m=K9 c q+i:=by omega
      exact e2
    ·have:c.names.length - (K9 c q+i+1)=N:=by omega
     rw [this];exact hch
  ·have g4:=z8 g3
   refine gr ?_;refine ⟨k - 1,by omega,_,_,uX ?_ ?_,q+1,g,ds,ss,rfl,rfl,by omega,?_,hst,hok,hch⟩
   ·exact m6 rfl
   ·exact Aw c ds ss
   ·simp only [K9];omega
 have g2:=z8 g1;obtain rfl:q=8:=by omega
 rw [vR] at hg;subst hg;rw [Nat.sub_self] at hch;obtain ⟨rfl,rfl⟩:=Tz ds ss hst;refine gr ?_;have e1:L1 c=(0,0):=hch;exact ⟨_,_,rfl,⟨_,rfl⟩,fun h=>by rw [e1] at h;simp [j5] at h,fun _=>⟨rfl,rfl⟩⟩
end Go.Proofs.YtkmclibmmlgogaaGreat.fB
namespace Go.Proofs.YtkmclibmmlgogaaGreat.fB
open Go.u7 Go.u7.S
variable [Inhabited XO]
def N5 (c:m9)(f:FuncId)(i g:Nat):Prop:=∃ dz sz,(J2 c g=0->yC c (g+1) dz sz)/\Pm A f [.ptr 5 0,.d (num i)] (HH c (c.names.take g) (z7 c (min g (m9.ns c)))) lW (.d (num (J2 c g))) (HH c dz sz)
theorem wY {c:m9}(hs:E8 c){i:Nat}(hi:i<c.j3.length)(hok:br c i):N5 c 68 i i:=by
 have aN:i<m9.ns c:=by unfold m9.ns;omega
 have hf:=hs.sm.fI.1;have hm:min i (m9.ns c)=i:=by omega
 have p:=Uv c (c.names.take i) (z7 c i) i hi (hs.sm.m8 i hi) (fun j hj=>hs.sm.A7 i j hi hj) (by rw [C4];omega) (by rw [C4];omega) (by omega)
  (fun k hk=>by
   rw [C4] at hk;have h1:=(cy (dU (hok k hk) (by omega))).1;rw [K2 c hk];refine ⟨?_,h1⟩;show 0<(P8 c k).length
   rw [pe c (by omega)];simpa using h1) (fun s hs' =>uB c (by omega) s hs')
 rw [BX hi hok] at p;unfold N5;rw [hm];refine ⟨_,_,fun h0=> ?_,p⟩;unfold yC;have hnl:i<c.names.length:=by have:=Z9 c;omega
 rw [II hi hok h0,<- mX c hi,Q4 c i hnl h0,Nat.min_eq_left (by omega)];exact ⟨rfl,rfl⟩
end Go.Proofs.YtkmclibmmlgogaaGreat.fB
namespace Go.Proofs.YtkmclibmmlgogaaGreat.fB
open Go.u7 Go.u7.S
variable [Inhabited XO]
theorem sr {c:m9}(hs:E8 c)(hn:m9.ns c<=1000){g:Nat}(h:c.j3.length<=g)(h2:g<m9.ns c)(hok:br c g):N5 c 69 (g - c.j3.length) g:=by
 have hv:g - c.j3.length<c.views.length:=by unfold m9.ns at h2;omega
 have hm:min g (m9.ns c)=g:=by omega
 have p:=Uw c (c.names.take g) (z7 c g) (g - c.j3.length) hv (hs.on _ hv) (hs.wh _ hv) (hs.items _ hv) (hs.B3 _ hv) (fun j hj=>hs.yX _ j hv hj) (fun j hj=>hs.Kf _ j hv hj) (by rw [C4];omega)
  (fun k hk=>by
   rw [C4] at hk;have h1:=uA hs g k hk (by omega) hok;have h3:=O7 hs g k hk (by omega) (S8 hok (by omega));rw [K2 c hk];exact ⟨h1.2.1,by show (FY c k).length<=5000;omega,h1.1,by show (P8 c k).length<=5000;omega⟩) (fun s hs' =>uB c (by omega) s hs')
 rw [show nth c.views (g - c.j3.length)=T8 c g from rfl,xy h h2] at p;unfold N5;rw [hm];refine ⟨_,_,fun h0=> ?_,p⟩;unfold yC;have hnl:g<c.names.length:=by have:=Z9 c;omega
 rw [Ew h h2 h0,<- jR c h h2,Q4 c g hnl h0,Nat.min_eq_left (by omega)];exact ⟨rfl,rfl⟩
theorem wT {c:m9}(hs:E8 c)  {g i:Nat}(hg:g=m9.ns c+i)(hi:i<c.idxs.length)(hok:br c g):N5 c 70 i g:=by
 have hn:nth c.names g=(nth c.idxs i).name:=by
  rw [hg];exact Q0 c (m9.sn c) (c.D6.map gv.name++c.E3.map jy.name++c.G9.map iO.name++c.J3.map kI.name++c.K8.map kH.name) c.idxs gD.name (by simp [m9.names,m9.sn]) (by simp [Q2,H9]) hi
 have hm:min g (m9.ns c)=m9.ns c:=by omega
 have hnl:g<c.names.length:=by rw [R7];omega
 have dy:∀ k,k<(z7 c (m9.ns c)).length->(nth (z7 c (m9.ns c)) k).2.2.length<=100000:=fun k hk=>by
  rw [C4] at hk;have h3:=O7 hs (m9.ns c) k hk (l5 _) (S8 (fun m hm=>hok m (by omega)) (l5 _));rw [K2 c hk];show (P8 c k).length<=100000
  omega
 have p:=Ux c (c.names.take g) (z7 c (m9.ns c)) i hi dy;rw [HW hg hi] at p;unfold N5;rw [hm];refine ⟨_,_,fun h0=> ?_,p⟩;unfold yC;rw [<- hn,Q4 c g hnl h0,Nat.min_eq_right (by omega)];exact ⟨rfl,rfl⟩
theorem wW {c:m9}(hs:E8 c)  {g i:Nat}(hg:g=m9.ns c+(c.idxs.length)+i)(hi:i<c.D6.length)(hok:br c g):N5 c 71 i g:=by
 have hn:nth c.names g=(nth c.D6 i).name:=by
  rw [hg];exact Q0 c (m9.sn c++c.idxs.map gD.name) (c.E3.map jy.name++c.G9.map iO.name++c.J3.map kI.name++c.K8.map kH.name) c.D6 gv.name (by simp [m9.names,m9.sn]) (by simp [Q2,H9]) hi
 have hm:min g (m9.ns c)=m9.ns c:=by omega
 have hnl:g<c.names.length:=by rw [R7];omega
 have dy:∀ k,k<(z7 c (m9.ns c)).length->(nth (z7 c (m9.ns c)) k).2.2.length<=100000:=fun k hk=>by
  rw [C4] at hk;have h3:=O7 hs (m9.ns c) k hk (l5 _) (S8 (fun m hm=>hok m (by omega)) (l5 _));rw [K2 c hk];show (P8 c k).length<=100000
  omega
 have p:=Uy c (c.names.take g) (z7 c (m9.ns c)) i hi dy;rw [IB hg hi] at p;unfold N5;rw [hm];refine ⟨_,_,fun h0=> ?_,p⟩;unfold yC;rw [<- hn,Q4 c g hnl h0,Nat.min_eq_right (by omega)];exact ⟨rfl,rfl⟩
theorem wS {c:m9}(hs:E8 c)  {g i:Nat}(hg:g=m9.ns c+(c.idxs.length+c.D6.length)+i)(hi:i<c.E3.length)(hok:br c g):N5 c 72 i g:=by
 have hn:nth c.names g=(nth c.E3 i).name:=by
  rw [hg];exact Q0 c (m9.sn c++c.idxs.map gD.name++c.D6.map gv.name) (c.G9.map iO.name++c.J3.map kI.name++c.K8.map kH.name) c.E3 jy.name (by simp [m9.names,m9.sn]) (by simp [Q2,H9]) hi
 have hm:min g (m9.ns c)=m9.ns c:=by omega
 have hnl:g<c.names.length:=by rw [R7];omega
 have dy:∀ k,k<(z7 c (m9.ns c)).length->(nth (z7 c (m9.ns c)) k).2.2.length<=100000:=fun k hk=>by
  rw [C4] at hk;have h3:=O7 hs (m9.ns c) k hk (l5 _) (S8 (fun m hm=>hok m (by omega)) (l5 _));rw [K2 c hk];show (P8 c k).length<=100000
  omega
 have p:=Uz c (c.names.take g) (z7 c (m9.ns c)) i hi dy;rw [HJ hg hi] at p;unfold N5;rw [hm];refine ⟨_,_,fun h0=> ?_,p⟩;unfold yC;rw [<- hn,Q4 c g hnl h0,Nat.min_eq_right (by omega)];exact ⟨rfl,rfl⟩
theorem wV {c:m9}(hs:E8 c)(Xw:∀ k,k<c.views.length->(nth c.views k).kind≠1\/0<(nth c.views k).B3.length){g i:Nat}(hg:g=m9.ns c+(c.idxs.length+c.D6.length+c.E3.length)+i)(hi:i<c.G9.length)(hok:br c g):N5 c 73 i g:=by
 have hn:nth c.names g=(nth c.G9 i).name:=by
  rw [hg];exact Q0 c (m9.sn c++c.idxs.map gD.name++c.D6.map gv.name++c.E3.map jy.name) (c.J3.map kI.name++c.K8.map kH.name) c.G9 iO.name (by simp [m9.names,m9.sn]) (by simp [Q2,H9]) hi
 have hm:min g (m9.ns c)=m9.ns c:=by omega
 have hnl:g<c.names.length:=by rw [R7];omega
 have dy:∀ k,k<(z7 c (m9.ns c)).length->(nth (z7 c (m9.ns c)) k).2.2.length<=100000:=fun k hk=>by
  rw [C4] at hk;have h3:=O7 hs (m9.ns c) k hk (l5 _) (S8 (fun m hm=>hok m (by omega)) (l5 _));rw [K2 c hk];show (P8 c k).length<=100000
  omega
 have p:=UA c (c.names.take g) (z7 c (m9.ns c)) i hi hs.sm.fI.1 (by rw [C4];exact l5 _) hs.sm.fI.2.1 Xw;rw [Iu hg hi] at p;unfold N5;rw [hm];refine ⟨_,_,fun h0=> ?_,p⟩;unfold yC;rw [<- hn,Q4 c g hnl h0,Nat.min_eq_right (by omega)];exact ⟨rfl,rfl⟩
theorem wX {c:m9}(hs:E8 c)  {g i:Nat}(hg:g=m9.ns c+(c.idxs.length+c.D6.length+c.E3.length+c.G9.length)+i)(hi:i<c.J3.length)(hok:br c g):N5 c 74 i g:=by
 have hn:nth c.names g=(nth c.J3 i).name:=by
  rw [hg];exact Q0 c (m9.sn c++c.idxs.map gD.name++c.D6.map gv.name++c.E3.map jy.name++c.G9.map iO.name) (c.K8.map kH.name) c.J3 kI.name (by simp [m9.names,m9.sn]) (by simp [Q2,H9]) hi
 have hm:min g (m9.ns c)=m9.ns c:=by omega
 have hnl:g<c.names.length:=by rw [R7];omega
 have dy:∀ k,k<(z7 c (m9.ns c)).length->(nth (z7 c (m9.ns c)) k).2.2.length<=100000:=fun k hk=>by
  rw [C4] at hk;have h3:=O7 hs (m9.ns c) k hk (l5 _) (S8 (fun m hm=>hok m (by omega)) (l5 _));rw [K2 c hk];show (P8 c k).length<=100000
  omega
 have p:=UB c (c.names.take g) (z7 c (m9.ns c)) i hi hs.sm.fI.1;rw [IG hg hi] at p;unfold N5;rw [hm];refine ⟨_,_,fun h0=> ?_,p⟩;unfold yC;rw [<- hn,Q4 c g hnl h0,Nat.min_eq_right (by omega)];exact ⟨rfl,rfl⟩
theorem wR {c:m9}(hs:E8 c)  {g i:Nat}(hg:g=m9.ns c+(c.idxs.length+c.D6.length+c.E3.length+c.G9.length+c.J3.length)+i)(hi:i<c.K8.length)(hok:br c g):N5 c 75 i g:=by
 have hn:nth c.names g=(nth c.K8 i).name:=by
  rw [hg];exact Q0 c (m9.sn c++c.idxs.map gD.name++c.D6.map gv.name++c.E3.map jy.name++c.G9.map iO.name++c.J3.map kI.name) ([]) c.K8 kH.name (by simp [m9.names,m9.sn]) (by simp [Q2,H9]) hi
 have hm:min g (m9.ns c)=m9.ns c:=by omega
 have hnl:g<c.names.length:=by rw [R7];omega
 have dy:∀ k,k<(z7 c (m9.ns c)).length->(nth (z7 c (m9.ns c)) k).2.2.length<=100000:=fun k hk=>by
  rw [C4] at hk;have h3:=O7 hs (m9.ns c) k hk (l5 _) (S8 (fun m hm=>hok m (by omega)) (l5 _));rw [K2 c hk];show (P8 c k).length<=100000
  omega
 have p:=UC c (c.names.take g) (z7 c (m9.ns c)) i hi hs.sm.fI.1 (hs.bk i hi);rw [LO hg hi] at p;unfold N5;rw [hm];refine ⟨_,_,fun h0=> ?_,p⟩;unfold yC;rw [<- hn,Q4 c g hnl h0,Nat.min_eq_right (by omega)];exact ⟨rfl,rfl⟩
end Go.Proofs.YtkmclibmmlgogaaGreat.fB
namespace Go.Proofs.YtkmclibmmlgogaaGreat.fB
open Go.u7 Go.u7.S
variable [Inhabited XO]
theorem zk (c:m9)(hs:E8 c):Pq A 29 [cat c] [.cells (c.enc.map .d),xo] bK (gF c c.names (z7 c (m9.ns c))):=by
 have hnl:=Z9 c;refine UD c hs.sm.fI (yC c) ⟨rfl,rfl⟩ (fun g ds ss ds' ss' h h' =>⟨h.1.trans h'.1.symm,h.2.trans h'.2.symm⟩) _ _ (fun ds ss h=>⟨by rw [h.1,List.take_length],by rw [h.2,Nat.min_eq_right hnl]⟩) ?_;rintro q i ds ss hq hi pJ hok ⟨rfl,rfl⟩;have h20:=Ij pJ
 match q,hq with
 |0,_ =>
  have hi' :i<c.j3.length:=hi;have e:K9 c 0+i=i:=by simp [K9]
  rw [e] at hok ⊢;exact wY hs hi' hok
 |1,_ =>
  have hi' :i<c.views.length:=hi;have e:K9 c 1+i=c.j3.length+i:=by simp [K9,cnt]
  rw [e] at hok ⊢;have:=sr hs (by omega) (g:=c.j3.length+i) (by omega) (by unfold m9.ns;omega) hok;rw [Nat.add_sub_cancel_left] at this;exact this
 |2,_=>exact wT hs (by simp [K9,cnt,m9.ns]) hi hok
 |3,_=>exact wW hs (by simp [K9,cnt,m9.ns,H9]) hi hok
 |4,_=>exact wS hs (by simp [K9,cnt,m9.ns,H9]) hi hok
 |5,_ =>
  refine wV hs (fun k hk=> ?_) (by simp [K9,cnt,m9.ns,H9]) hi hok;have hle:m9.ns c<=K9 c 5+i:=by simp [K9,cnt,m9.ns];omega
  have h9:=cB (bH (hok (k+c.j3.length) (by unfold m9.ns at hle;omega)) (by omega) (by unfold m9.ns;omega));have PZ:T8 c (k+c.j3.length)=nth c.views k:=by unfold T8;rw [Nat.add_sub_cancel]
  rw [PZ] at h9;exact rX h9.2.2.2
 |6,_=>exact wX hs (by simp [K9,cnt,m9.ns,H9]) hi hok
 |7,_=>exact wR hs (by simp [K9,cnt,m9.ns,H9]) hi hok
end Go.Proofs.YtkmclibmmlgogaaGreat.fB


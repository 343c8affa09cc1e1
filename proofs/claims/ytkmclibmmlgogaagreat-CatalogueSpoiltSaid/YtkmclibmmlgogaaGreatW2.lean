/- Texts D31w D32w D40w D41w D42w (made short by a program) -/
import Derived.Test.YtkmclibmmlgogaaGreatW1
import Derived.Test.YtkmclibmmlgogaaGreatE3
set_option linter.unusedVariables false
set_option linter.unusedSimpArgs false
open Bool renaming not_eq_false' → A9, not_eq_true' → j5
open List renaming cons_append → L6
open Nat renaming add_assoc → H9, le_of_ble_eq_true → o7, le_refl → n5, lt_or_ge → u9
namespace Go.Proofs.YtkmclibmmlgogaaGreat.dU
open Go.y3 Go.y3.S
attribute [local irreducible] Rx Ry Rn Ex Pf
variable [Inhabited XO]
set_option maxHeartbeats 32000000 in
theorem XZ (c:m8)(ds:List D8)(ss:List Y4)(i:Nat)(hi:i<c.views.length)(h0:(nth c.views i).on.length<=1000)(h1:(nth c.views i).wh.length<=1000)(h2:(nth c.views i).items.length<=1000)(h3:(nth c.views i).C1.length<=1000)(h4:∀ j,j<(nth c.views i).items.length->(nth (nth c.views i).items j).expr.length<=1000)(h5:∀ j,j<(nth c.views i).C1.length->(nth (nth c.views i).C1 j).expr.length<=1000)
  (EF:ss.length<=1000) (ht:∀ k,k<ss.length->0<(nth ss k).2.1.length/\(nth ss k).2.1.length<=5000/\0<(nth ss k).2.2.length/\(nth ss k).2.2.length<=5000) (hsub:∀ s,(ds.any fun y=>J2 y s)=false->((ss.map (·.1)).any fun y=>J2 y s)=false) :
  Pm A 69 [.ptr 5 0,.d (num i)] (HH c ds ss) lW (.d (num (T4 ss ds (nth c.views i)))) (HH c (B4 ds (nth c.views i).name) (er ss ds (nth c.views i))):=by
 generalize hx:nth c.views i=v at *
 have cF:=fu c ds ss v.name;have pL:=lN c (B4 ds v.name) ss v.left;have pR:=lN c (B4 ds v.name) ss v.right;have bL:=jh ss v.left;have bR:=jh ss v.right;have XQ:=Vn v h2 h3;have hno:E8 ds v.name=0->((ss.map (·.1)).any fun y=>J2 y v.name)=false:=fun h=>by
  refine hsub _ ?_;unfold E8 at h;cases c1:(!E3 v.name) with
  |true=>rw [c1] at h;simp at h
  |false =>
   rw [c1] at h;cases c2:ds.any fun y=>J2 y v.name with
   |false=>rfl
   |true=>rw [c2] at h;simp at h
 suffices h:Pq A 69 [.ptr 5 0,.d (num i)] (HH c ds ss) lW fun w H1=>w= .d (num (T4 ss ds v))/\H1=HH c (B4 ds v.name) (er ss ds v) by
  obtain ⟨w,H1,⟨rfl,rfl⟩,h⟩:=h;exact h
 have same:∀ e,T4 ss ds v=e->o9 e 0=false->er ss ds v=ss:=fun e g1 g2=>by unfold er;rw [g1,g2];rfl
 have XR:∀ L R:List Int,L.length<=5000->R.length<=5000->E8 ds v.name=0->Pm A 120 [.ptr 5 0,vw v,.d (ints L),.d (ints R)] (HH c (B4 ds v.name) ss) lW (.d (num (X3 v L R))) (HH c (B4 ds v.name) (lM ss v L R)):=fun L R hL hR hd=>Qf c (B4 ds v.name) ss v L R hL hR h0 h1 h2 h3 h4 h5 (hno hd) EF
 have xU:∀ nm ty,E8 ds v.name=0->Pm A 111 [.ptr 5 0,.d (.str v.name),oD nm ty] (HH c (B4 ds v.name) ss) lW (.tuple []) (HH c (B4 ds v.name) (ss++[(v.name,nm,ty)])):=fun nm ty hd=>yb c (B4 ds v.name) ss v.name nm ty (hno hd) EF
 unfold HH at *
 refine Pq.run (b:=6) [.ptr 5 0,.d (num i),.any,.any,.any,.any,.any] rfl rfl rfl rfl rfl ?_;refine gr ?_;rw [hx]
 repeat' (first|refine c0 cF rfl (h2:= ?_)|refine gx ?_|fail)
 refine tb (!o9 (E8 ds v.name) 0) (fun g1=> ?_) (fun g1=> ?_)
 ·have e1:T4 ss ds v=E8 ds v.name:=by unfold T4;rw [g1];rfl
  refine gr ?_;exact ⟨_,_,rfl,by rw [e1];rfl,by rw [same _ e1 (by simpa using g1)];rfl⟩
 have hd0:E8 ds v.name=0:=X2 (by simpa using g1);refine gr ?_;refine tb (!o9 v.kind 0&& !o9 v.kind 1&& !o9 v.kind 2) (fun g2=> ?_) (fun g2=> ?_)
 ·have e1:T4 ss ds v=1:=by unfold T4;rw [g1,g2];rfl
  refine gr ?_;exact ⟨_,_,rfl,by rw [e1];rfl,by rw [same 1 e1 (by simp [j9])];rfl⟩
 refine gr ?_;refine tB (C9 (C0 v.left (ss.map (·.1)) 0) 0||(!J2 v.right []&&C9 (C0 v.right (ss.map (·.1)) 0) 0)) ?_ (fun g3=> ?_) (fun g3=> ?_)
 ·repeat' (first|refine c1 pL rfl ?_|refine c1 pR rfl ?_|refine gx ?_|refine fk (h1:=fun hw=> ?_) (h2:=fun hw=> ?_)|refine L7 (h1:=fun hw=> ?_) (h2:=fun hw=> ?_)|refine ⟨rfl,rfl,_,rfl,?_⟩|refine ⟨rfl,rfl⟩|fail)
  all_goals exact cc
 ·have e1:T4 ss ds v=7:=by unfold T4;rw [g1,g2,g3];rfl
  refine gr ?_;exact ⟨_,_,rfl,by rw [e1];rfl,by rw [same 7 e1 (by simp [j9])];rfl⟩
 have WD :=g3;simp only [Bool.or_eq_false_iff] at WD;have f1:=y8 WD.1;have f2:J2 v.right []=false->0<=C0 v.right (ss.map (·.1)) 0:=fun h=>by
  have:=WD.2;simp only [h,Bool.not_false,Bool.true_and] at this;exact y8 this
 have htL:=ht (C0 v.left (ss.map (·.1)) 0).toNat (by omega);have hsL:nth ss (C0 v.left (ss.map (·.1)) 0).toNat=S1 ss v.left:=rfl;rw [hsL] at htL;refine gr ?_;refine tB (!gX v) ?_ (fun g4=> ?_) (fun g4=> ?_)
 ·repeat' (first|refine cl (XQ) ?_|refine gx ?_|refine fk (h1:=fun hw=> ?_) (h2:=fun hw=> ?_)|refine L7 (h1:=fun hw=> ?_) (h2:=fun hw=> ?_)|refine ⟨rfl,rfl,_,rfl,?_⟩|refine ⟨rfl,rfl⟩|fail)
  all_goals exact cc
 ·have e1:T4 ss ds v=1:=by unfold T4;rw [g1,g2,g3,g4];rfl
  refine gr ?_;exact ⟨_,_,rfl,by rw [e1];rfl,by rw [same 1 e1 (by simp [j9])];rfl⟩
 refine gr ?_;refine Ex.nH [.cells (c.enc.map .d),xo,.cells (c.enc.map .d),.map (dmap (B4 ds v.name)),.map (T3 (ss.map (·.1)) 0),.cells (c.enc.map .d++[.map 3,.map 4,B3 2 F9 ss]),.cells (v.enc.map .d)] rfl ?_;refine Ex.region (Rn.z 5 7 [.cells (c.enc.map .d),xo,.cells (c.enc.map .d),.map (dmap (B4 ds v.name)),.map (T3 (ss.map (·.1)) 0),.cells (c.enc.map .d++[.map 3,.map 4,B3 2 F9 ss]),.cells (v.enc.map .d),.dead] rfl rfl (by decide) rfl rfl ?_);refine zm ?_;refine zp (rs:=[]) (.ptr 5 0) rfl ?_;refine zp (rs:=[]) (.ptr 5 10) rfl ?_;refine zp (rs:=[5]) (.d (z6 F9 ss)) rfl ?_;refine zm ?_;refine zp (rs:=[]) (.ptr 6 2) rfl ?_;refine zp (rs:=[6]) (.d (.str v.left)) rfl ?_;refine zc pL rfl ?_ (hmn:=o7 rfl);refine zix (xs:=ss) (enc:=F9) (e:=C0 v.left (ss.map (·.1)) 0) (by omega) ?_;refine zle ?_;rw [hsL];refine za (h2:= ?_);refine zs (h2:= ?_);refine zn ?_;refine gr ?_;refine Ex.KB (fun s=>∃ (w0 w1 w2 w4 wa wb:b6),s=⟨[.ptr 5 0,w1,w2,.ptr 6 0,w4,.ptr 7 0,.ptr 8 0],[.cells (c.enc.map .d),xo,.cells (c.enc.map .d),.map (dmap (B4 ds v.name)),.map (T3 (ss.map (·.1)) 0),.cells (c.enc.map .d++[.map 3,.map 4,B3 2 F9 ss]),.cells (v.enc.map .d),.cells ((F9 (S1 ss v.left)).map .d),.cells [wa,wb]]⟩/\wa.G4= .d (z6 encS (qn ss v).2.1)/\wb.G4= .d (ints (qn ss v).2.2)/\(qn ss v).2.2.length<=5000) ?_ ?_
 ·skip
  refine tb (!J2 v.right []) (fun g6=> ?_) (fun g6=> ?_)
  ·simp only [j5] at g6
   have f3:=f2 g6;have htR:=ht (C0 v.right (ss.map (·.1)) 0).toNat (by omega);have MP:nth ss (C0 v.right (ss.map (·.1)) 0).toNat=qn ss v:=by unfold qn;rw [g6];rfl
   rw [MP] at htR
   repeat' (first|refine c1 pR rfl ?_|refine soD (h2:= ?_)|refine gx ?_|fail)
   rw [MP];exact ⟨.any,_,_,_,_,_,rfl,rfl,rfl,by omega⟩
  ·simp only [A9] at g6
   have MP:qn ss v=([],[],[]):=by unfold qn;rw [g6];rfl
   refine gr ?_;exact ⟨.any,_,_,_,_,_,rfl,by rw [MP];rfl,by rw [MP];rfl,by rw [MP];simp⟩
 rintro _ ⟨w0,w1,w2,w4,wa,wb,rfl,ha,hb,hrl⟩;have Yo:=Vo (S1 ss v.left).2.2 (qn ss v).2.2 (by omega);have Yp:=Vp (S1 ss v.left).2.1 (by omega) (by omega);have Yq:=Vq (S1 ss v.left).2.2 (by omega) (by omega);have II:=xU (S1 ss v.left).2.1 (S1 ss v.left).2.2 hd0;have Yr:=XR (S1 ss v.left).2.2 (qn ss v).2.2 (by omega) hrl hd0;refine gr ?_;refine tb (o9 v.kind 2) (fun g7=> ?_) (fun g7=> ?_)
 ·refine gr ?_
  refine tB (!U4 o9 (S1 ss v.left).2.2 (qn ss v).2.2) ?_ (fun g8=> ?_) (fun g8=> ?_)
  ·repeat' (first|refine lpA hb ?_|refine cl (Yo) ?_|refine gx ?_|refine fk (h1:=fun hw=> ?_) (h2:=fun hw=> ?_)|refine L7 (h1:=fun hw=> ?_) (h2:=fun hw=> ?_)|refine ⟨rfl,rfl,_,rfl,?_⟩|refine ⟨rfl,rfl⟩|fail)
   all_goals exact cc
  ·have e1:T4 ss ds v=5:=by unfold T4;rw [g1,g2,g3,g4,g7,g8];rfl
   refine gr ?_;exact ⟨_,_,rfl,by rw [e1];rfl,by rw [same 5 e1 (by simp [j9])];rfl⟩
  have e1:T4 ss ds v=0:=by unfold T4;rw [g1,g2,g3,g4,g7,g8];rfl
  have e2:er ss ds v=ss++[(v.name,(S1 ss v.left).2.1,(S1 ss v.left).2.2)]:=by unfold er;rw [e1,g7];simp [j9]
  rw [e2]
  repeat' (first|refine cl (Yp) ?_|refine cl (Yq) ?_|refine c0 II rfl (h2:= ?_)|refine gx ?_|fail)
  exact ⟨_,_,rfl,by rw [e1];rfl,rfl⟩
 ·have e1:T4 ss ds v=X3 v (S1 ss v.left).2.2 (qn ss v).2.2:=by unfold T4;rw [g1,g2,g3,g4,g7];rfl
  have e2:er ss ds v=lM ss v (S1 ss v.left).2.2 (qn ss v).2.2:=by unfold er lM;rw [e1,g7];rfl
  rw [e2]
  repeat' (first|refine lpA hb ?_|refine c0 Yr rfl (h2:= ?_)|refine gx ?_|fail)
  exact ⟨_,_,rfl,by rw [e1];rfl,rfl⟩
end Go.Proofs.YtkmclibmmlgogaaGreat.dU
namespace Go.Proofs.YtkmclibmmlgogaaGreat.dU
open Go.y3 Go.y3.S
attribute [local irreducible] Rx Ry Rn Ex Pf
variable [Inhabited XO]
def O2 (c:m8)(q:Nat):List b6:=[.d (num (cnt c q)),.d (num (Ae q)),.func (fid q) [.ptr 5 0] []]
def Q9 (c:m8):List b6:=O2 c 0++O2 c 1++O2 c 2++O2 c 3++O2 c 4++O2 c 5++O2 c 6++O2 c 7
theorem mM (c:m8)(q:Nat)(h:q<8)(H:o6)(hH:H[6]? =some (.cells (Q9 c))):rd H 6 (0+q * 3) 3=some (O2 c q):=by
 have _x:=(default:XO);simp only [rd,hH]
 match q,h with
 |0,_=>rfl
 |1,_=>rfl
 |2,_=>rfl
 |3,_=>rfl
 |4,_=>rfl
 |5,_=>rfl
 |6,_=>rfl
 |7,_=>rfl
theorem wz (c:m8)(ds:List D8)(ss:List Y4):Y6 (HH c ds ss)<=6:=by
 have h1:=dm ds;have h2:=dG (ss.map (·.1)) 0;have e0:A4 [b6.d (num (default:XO).x)]=0:=rfl;have e1:A4 (c.enc.map b6.d)=0:=rfl;have e2:A4 (c.enc.map b6.d++[.map 3,.map 4,B3 2 F9 ss])=5:=rfl;simp only [HH,Y6,y7.N4,h1,h2,e0,e1,e2]
 decide
theorem qq (c:m8)(ds:List D8)(ss:List Y4):P8 (HH c ds ss) 0=true:=by
 have h1:=dm ds;have h2:=dG (ss.map (·.1)) 0;have e0:A4 [b6.d (num (default:XO).x)]=0:=rfl;have e1:A4 (c.enc.map b6.d)=0:=rfl;have e2:A4 (c.enc.map b6.d++[.map 3,.map 4,B3 2 F9 ss])=5:=rfl;simp only [HH,P8,y7.N4,h1,h2,e0,e1,e2]
 decide
theorem rV {H:o6}(h:P8 ((H.take 6).drop 0) 0=true):C8 H 0 6=6:=by
 have _x:=(default:XO);unfold C8;rw [if_neg (by decide),if_pos h]
theorem Cb (c:m8)(ds:List D8)(ss:List Y4):Y6 (HH c ds ss++[.cells (Q9 c)])<=7:=by
 have h1:=dm ds;have h2:=dG (ss.map (·.1)) 0;have e0:A4 [b6.d (num (default:XO).x)]=0:=rfl;have e1:A4 (c.enc.map b6.d)=0:=rfl;have e2:A4 (c.enc.map b6.d++[.map 3,.map 4,B3 2 F9 ss])=5:=rfl;have e3:A4 (Q9 c)=6:=rfl;simp only [HH,L6,List.nil_append,Y6,y7.N4,h1,h2,e0,e1,e2,e3]
 decide
theorem mL (c:m8)(q:Nat):A4 (O2 c q)<=7+1:=by
 have _x:=(default:XO);exact o7 rfl
def iD (c:m8)(fds:List D8)(Ib:List Y4)(v:b6)(H1:o6):Prop :=
 (∃ R,H1= .cells (c.enc.map .d)::xo::R)/\(o9 (L1 c).2 0=false->v= .tuple [.d .cD,.d (num (L1 c).1),.d (num (L1 c).2)]) /\
  (o9 (L1 c).2 0=true->v= .tuple [.ptr 5 0,.d (num 0),.d (num 0)]/\H1=HH c fds Ib++[.cells (Q9 c)])
theorem gH {c:m8}{fds:List D8}{Ib:List Y4}{v:b6}{H1:o6}(h:iD c fds Ib v H1):2<=H1.length:=by
 obtain ⟨⟨R,rfl⟩,_⟩:=h;simp
set_option maxHeartbeats 32000000 in
theorem Yg (c:m8)(hf:c.fI)(ST:Nat->List D8->List Y4->Prop)(WE:ST 0 [] [])(hST:∀ g ds ss ds' ss',ST g ds ss->ST g ds' ss' ->ds=ds' /\ss=ss')(fds:List D8)(Ib:List Y4)(WG:∀ ds ss,ST c.names.length ds ss->ds=fds/\ss=Ib)
  (hstep:∀ q i ds ss,q<8->i<cnt c q->tooMany c=false->bW c (M8 c q+i)->ST (M8 c q+i) ds ss->∃ dz sz,(K7 c (M8 c q+i)=0->ST (M8 c q+i+1) dz sz)/\Pm A (fid q) [.ptr 5 0,.d (num i)] (HH c ds ss) lW (.d (num (K7 c (M8 c q+i)))) (HH c dz sz)) :
  Pq A 29 [cat c] [.cells (c.enc.map .d),xo] cB (iD c fds Ib):=by
 obtain ⟨f0,f1,f2,f3,f4,f5,f6,f7⟩:=id hf;have WK:∀ q,cnt c q<=1000:=fun q=>by unfold cnt;split<;>assumption
 have hlm:∀ q,Ae q<=16:=fun q=>by unfold Ae;split<;>omega
 refine Pq.run (b:=2) [cat c,.any,.any,.any,.any,.any,.any,.any,.any,.any,.any,.any,.any,.any,.any,.any,.any,.any,.any,.any] rfl rfl rfl rfl rfl ?_
 repeat' (first|refine mk (h2:= ?_)|refine Cj (cs:=c.enc.map .d++[.map 3,.map 4,B3 2 F9 []]) ?_|refine Cj (cs:=O2 c 0) ?_|refine Cj (cs:=O2 c 1) ?_|refine Cj (cs:=O2 c 2) ?_|refine Cj (cs:=O2 c 3) ?_|refine Cj (cs:=O2 c 4) ?_|refine Cj (cs:=O2 c 5) ?_|refine Cj (cs:=O2 c 6) ?_|refine Cj (cs:=O2 c 7) ?_|refine gx ?_|fail)
 refine Wy (Q9 c) rfl ⟨by decide,rfl⟩ (h2:= ?_)
 repeat' (first|refine lrT (h2:= ?_)|refine gx ?_|fail)
 refine Ex.fS (fun k T H=>∃ (q:Nat),T=[.any,.any,.any,.any,.any,.ptr 5 0,.D4 6 3 0 8,.any,.any,.any,.any,.any,.D4 6 3 0 8,.d (num (8:Nat)),.d (num q),.any,.any,.any,.any,.any]/\H=[.cells (c.enc.map .d),xo,.cells (c.enc.map .d),.map [],.map [],.cells (c.enc.map .d++[.map 3,.map 4,B3 2 F9 []]),.cells (Q9 c)]/\q+k=8/\∀ p,p<q->cnt c p<=Ae p) ?_ (k:=8) ⟨0,rfl,rfl,by simp,fun p h=>absurd h (by omega)⟩;rintro k _ _ ⟨q,rfl,rfl,hk,hq⟩;have b1:=WK q;have b2:=hlm q;have Th:=mL c q;refine Ex.seq ?_;refine tb (C9 q (8:Nat)) (fun g1=> ?_) (fun g1=> ?_)
 ·have g2:=y9 g1
  have CH:q<8:=by omega
  have hka:=mM c q CH ([.cells (c.enc.map .d),xo,.cells (c.enc.map .d),.map [],.map [],.cells (c.enc.map .d++[.map 3,.map 4,B3 2 F9 []]),.cells (Q9 c)]) rfl
  repeat' (first|refine ixs (i:=q) (len:=8) CH ?_|refine lqV hka rfl ?_|refine soB (cs:=O2 c q) (id:=7) Th (h2:= ?_)|refine gx ?_|fail)
  refine tb (C9 (Ae q) (cnt c q)) (fun g3=> ?_) (fun g3=> ?_)
  ·have ht:=JX CH g3
   have e1:L1 c=(0,8):=by unfold L1;rw [ht];rfl
   refine gr ?_;exact ⟨_,_,rfl,⟨_,rfl⟩,fun _=>by rw [e1];rfl,fun h=>by rw [e1] at h;simp [j9] at h⟩
  ·have g4:=y8 g3
   refine gr ?_;exact ⟨k - 1,by omega,_,_,rfl,q+1,rfl,rfl,by omega,fun p hp=>by
    rcases u9 p q with h|h
    ·exact hq p h
    ·obtain rfl:p=q:=by omega
     omega⟩
 have g2:=y8 g1;have qP:=OD (c:=c) (fun p hp=>hq p (by omega));clear g1 g2 hk hq b1 b2 Th
 repeat' (first|refine lrT (h2:= ?_)|refine gx ?_|fail)
 refine Ex.fS (fun k T H=>∃ (q g:Nat) (ds:List D8) (ss:List Y4),T=[.any,.any,.any,.any,.any,.ptr 5 0,.any,.any,.d (num g),.any,.any,.any,.any,.any,.any,.D4 6 3 0 8,.d (num (8:Nat)),.d (num q),.any,.any]/\H=[.cells (c.enc.map .d),xo,.cells (c.enc.map .d),.map (dmap ds),.map (T3 (ss.map (·.1)) 0),.cells (c.enc.map .d++[.map 3,.map 4,B3 2 F9 ss]),.cells (Q9 c)]/\q+k=8/\g=M8 c q/\ST g ds ss/\bW c g/\L1 c=br c (c.names.length - g) g) ?_ (k:=8) ⟨0,0,[],[],rfl,rfl,by simp,rfl,WE,fun m h=>absurd h (by omega),by unfold L1;rw [qP];rfl⟩;rintro k _ _ ⟨q,g,ds,ss,rfl,rfl,hk,hg,hst,hok,hch⟩;have b1:=WK q;have Th:=mL c q;refine Ex.seq ?_;refine tb (C9 q (8:Nat)) (fun g1=> ?_) (fun g1=> ?_)
 ·have g2:=y9 g1
  have CH:q<8:=by omega
  have hka:=mM c q CH ([.cells (c.enc.map .d),xo,.cells (c.enc.map .d),.map (dmap ds),.map (T3 (ss.map (·.1)) 0),.cells (c.enc.map .d++[.map 3,.map 4,B3 2 F9 ss]),.cells (Q9 c)]) rfl
  repeat' (first|refine ixs (i:=q) (len:=8) CH ?_|refine lqV hka rfl ?_|refine soB (cs:=O2 c q) (id:=7) Th (h2:= ?_)|refine gx ?_|fail)
  refine Ex.J0 (fun k T H=>∃ (i g:Nat) (ds:List D8) (ss:List Y4) (w0 w1 w2 w3 w4 w6 w7 jX hU KF Ro Rp:b6),T=[w0,w1,w2,w3,w4,.ptr 5 0,w6,w7,.d (num g),.ptr 7 0,jX,hU,KF,Ro,Rp,.D4 6 3 0 8,.d (num (8:Nat)),.d (num q),.d (num (cnt c q)),.d (num i)]/\H=[.cells (c.enc.map .d),xo,.cells (c.enc.map .d),.map (dmap ds),.map (T3 (ss.map (·.1)) 0),.cells (c.enc.map .d++[.map 3,.map 4,B3 2 F9 ss]),.cells (Q9 c),.cells (O2 c q)]/\i+k=cnt c q/\g=M8 c q+i/\ST g ds ss/\bW c g/\L1 c=br c (c.names.length - g) g) (by rintro _ _ _ ⟨_,_,_,_,_,_,_,_,_,_,_,_,_,_,_,_,_,rfl,_⟩;rfl) ?_ (k:=cnt c q) ⟨0,g,ds,ss,_,_,_,_,_,_,_,_,_,_,_,_,rfl,rfl,by simp,by omega,hst,hok,hch⟩;clear hst hok hch hka;rintro k2 _ _ ⟨i,g,ds,ss,w0,w1,w2,w3,w4,w6,w7,jX,hU,KF,Ro,Rp,rfl,rfl,hk2,hg2,hst,hok,hch⟩;have WT:=Ka c CH;have hnl:c.names.length<=8000:=by simp [m8.names];omega
  refine Ex.nT ?_;refine Ex.seq ?_;refine tb (C9 i (cnt c q)) (fun g3=> ?_) (fun g3=> ?_)
  ·have g4:=y9 g3
   have MM:=wz c ds ss;have Tl:=qq c ds ss;subst hg2;obtain ⟨dz,sz,hz,pQ⟩:=hstep q i ds ss CH (by omega) qP hok hst;unfold HH at pQ MM Tl;obtain ⟨N,hN⟩:∃ N,c.names.length - (M8 c q+i)=N+1:=⟨c.names.length - (M8 c q+i) - 1,by omega⟩;rw [hN,br] at hch;have hfp:=Er CH;refine gr ?_;have hs5:C8 ([.cells (c.enc.map .d),xo,.cells (c.enc.map .d),.map (dmap ds),.map (T3 (ss.map (·.1)) 0),.cells (c.enc.map b6.d++[.map 3,.map 4,B3 2 F9 ss]),.cells (Q9 c),.cells (O2 c q)]) 0 6=6:=rV (H:=[.cells (c.enc.map .d),xo,.cells (c.enc.map .d),.map (dmap ds),.map (T3 (ss.map (·.1)) 0),.cells (c.enc.map b6.d++[.map 3,.map 4,B3 2 F9 ss]),.cells (Q9 c),.cells (O2 c q)]) Tl;refine cv0 (fR:=hfp.1) (hm:=hfp.2) pQ rfl MM (gu MM) rfl (nY:=by show G9.mk 0 0 6 (C8 _ 0 6)=lW;rw [hs5];rfl) (h2:= ?_);refine gr ?_;refine tb (!o9 (K7 c (M8 c q+i)) 0) (fun g5=> ?_) (fun g5=> ?_)
   ·have e1:L1 c=(((M8 c q+i:Nat):Int),K7 c (M8 c q+i)):=by rw [hch,g5];rfl
    have e2:o9 (K7 c (M8 c q+i)) 0=false:=by simpa using g5
    refine gr ?_;exact ⟨_,_,rfl,⟨_,rfl⟩,fun _=>by rw [e1];rfl,fun h=>by rw [e1] at h;simp only [e2] at h;cases h⟩
   ·have e2:K7 c (M8 c q+i)=0:=X2 (by simpa using g5)
    rw [g5,if_neg (by simp)] at hch;have WY :=hz e2;refine gr ?_;refine ⟨k2 - 1,by omega,i+1,M8 c q+i+1,dz,sz,_,_,_,_,_,_,_,_,_,_,_,_,rfl,rfl,by omega,by omega,WY,fun m hm=> ?_,?_⟩
    ·rcases u9 m (M8 c q+i) with h|h
     ·exact hok m h
     ·obtain rfl:m=M8 c q+i:=by omega
      exact e2
    ·have:c.names.length - (M8 c q+i+1)=N:=by omega
     rw [this];exact hch
  ·have g4:=y8 g3
   refine gr ?_;refine ⟨k - 1,by omega,_,_,wW ?_ ?_,q+1,g,ds,ss,rfl,rfl,by omega,?_,hst,hok,hch⟩
   ·exact o7 rfl
   ·exact Cb c ds ss
   ·simp only [M8];omega
 have g2:=y8 g1;obtain rfl:q=8:=by omega
 rw [xQ] at hg;subst hg;rw [Nat.sub_self] at hch;obtain ⟨rfl,rfl⟩:=WG ds ss hst;refine gr ?_;have e1:L1 c=(0,0):=hch;exact ⟨_,_,rfl,⟨_,rfl⟩,fun h=>by rw [e1] at h;simp [j9] at h,fun _=>⟨rfl,rfl⟩⟩
end Go.Proofs.YtkmclibmmlgogaaGreat.dU
namespace Go.Proofs.YtkmclibmmlgogaaGreat.dU
open Go.y3 Go.y3.S
variable [Inhabited XO]
def P3 (c:m8)(f:FuncId)(i g:Nat):Prop:=∃ dz sz,(K7 c g=0->Aq c (g+1) dz sz)/\Pm A f [.ptr 5 0,.d (num i)] (HH c (c.names.take g) (A0 c (min g (m8.ns c)))) lW (.d (num (K7 c g))) (HH c dz sz)
theorem yL {c:m8}(hs:B6 c){i:Nat}(hi:i<c.j3.length)(hok:bW c i):P3 c 68 i i:=by
 have cz:i<m8.ns c:=by unfold m8.ns;omega
 have hf:=hs.sm.fI.1;have hm:min i (m8.ns c)=i:=by omega
 have p:=XY c (c.names.take i) (A0 c i) i hi (hs.sm.m7 i hi) (fun j hj=>hs.sm.C5 i j hi hj) (by rw [D0];omega) (by rw [D0];omega) (by omega)
  (fun k hk=>by
   rw [D0] at hk;have h1:=(cU (ez (hok k hk) (by omega))).1;rw [M0 c hk];refine ⟨?_,h1⟩;show 0<(R3 c k).length
   rw [qH c (by omega)];simpa using h1) (fun s hs' =>wm c (by omega) s hs')
 rw [DD hi hok] at p;unfold P3;rw [hm];refine ⟨_,_,fun h0=> ?_,p⟩;unfold Aq;have hnl:i<c.names.length:=by have:=Z3 c;omega
 rw [Kx hi hok h0,<- og c hi,S3 c i hnl h0,Nat.min_eq_left (by omega)];exact ⟨rfl,rfl⟩
end Go.Proofs.YtkmclibmmlgogaaGreat.dU
namespace Go.Proofs.YtkmclibmmlgogaaGreat.dU
open Go.y3 Go.y3.S
variable [Inhabited XO]
theorem tR {c:m8}(hs:B6 c)(hn:m8.ns c<=1000){g:Nat}(h:c.j3.length<=g)(h2:g<m8.ns c)(hok:bW c g):P3 c 69 (g - c.j3.length) g:=by
 have hv:g - c.j3.length<c.views.length:=by unfold m8.ns at h2;omega
 have hm:min g (m8.ns c)=g:=by omega
 have p:=XZ c (c.names.take g) (A0 c g) (g - c.j3.length) hv (hs.on _ hv) (hs.wh _ hv) (hs.items _ hv) (hs.C1 _ hv) (fun j hj=>hs.AN _ j hv hj) (fun j hj=>hs.Mu _ j hv hj) (by rw [D0];omega)
  (fun k hk=>by
   rw [D0] at hk;have h1:=rS hs g k hk (by omega) hok;have h3:=P7 hs g k hk (by omega) (U1 hok (by omega));rw [M0 c hk];exact ⟨h1.2.1,by show (wY c k).length<=5000;omega,h1.1,by show (R3 c k).length<=5000;omega⟩) (fun s hs' =>wm c (by omega) s hs')
 rw [show nth c.views (g - c.j3.length)=U7 c g from rfl,yZ h h2] at p;unfold P3;rw [hm];refine ⟨_,_,fun h0=> ?_,p⟩;unfold Aq;have hnl:g<c.names.length:=by have:=Z3 c;omega
 rw [Gj h h2 h0,<- kN c h h2,S3 c g hnl h0,Nat.min_eq_left (by omega)];exact ⟨rfl,rfl⟩
theorem yG {c:m8}(hs:B6 c)  {g i:Nat}(hg:g=m8.ns c+i)(hi:i<c.idxs.length)(hok:bW c g):P3 c 70 i g:=by
 have hn:nth c.names g=(nth c.idxs i).name:=by
  rw [hg];exact R7 c (m8.sn c) (c.E7.map iq.name++c.F1.map kj.name++c.I9.map jx.name++c.K9.map lS.name++c.M7.map lQ.name) c.idxs iC.name (by simp [m8.names,m8.sn]) (by simp [S0,H9]) hi
 have hm:min g (m8.ns c)=m8.ns c:=by omega
 have hnl:g<c.names.length:=by rw [T6];omega
 have eg:∀ k,k<(A0 c (m8.ns c)).length->(nth (A0 c (m8.ns c)) k).2.2.length<=100000:=fun k hk=>by
  rw [D0] at hk;have h3:=P7 hs (m8.ns c) k hk (n5 _) (U1 (fun m hm=>hok m (by omega)) (n5 _));rw [M0 c hk];show (R3 c k).length<=100000
  omega
 have p:=Ya c (c.names.take g) (A0 c (m8.ns c)) i hi eg;rw [JN hg hi] at p;unfold P3;rw [hm];refine ⟨_,_,fun h0=> ?_,p⟩;unfold Aq;rw [<- hn,S3 c g hnl h0,Nat.min_eq_right (by omega)];exact ⟨rfl,rfl⟩
theorem yJ {c:m8}(hs:B6 c)  {g i:Nat}(hg:g=m8.ns c+(c.idxs.length)+i)(hi:i<c.E7.length)(hok:bW c g):P3 c 71 i g:=by
 have hn:nth c.names g=(nth c.E7 i).name:=by
  rw [hg];exact R7 c (m8.sn c++c.idxs.map iC.name) (c.F1.map kj.name++c.I9.map jx.name++c.K9.map lS.name++c.M7.map lQ.name) c.E7 iq.name (by simp [m8.names,m8.sn]) (by simp [S0,H9]) hi
 have hm:min g (m8.ns c)=m8.ns c:=by omega
 have hnl:g<c.names.length:=by rw [T6];omega
 have eg:∀ k,k<(A0 c (m8.ns c)).length->(nth (A0 c (m8.ns c)) k).2.2.length<=100000:=fun k hk=>by
  rw [D0] at hk;have h3:=P7 hs (m8.ns c) k hk (n5 _) (U1 (fun m hm=>hok m (by omega)) (n5 _));rw [M0 c hk];show (R3 c k).length<=100000
  omega
 have p:=Yb c (c.names.take g) (A0 c (m8.ns c)) i hi eg;rw [Kq hg hi] at p;unfold P3;rw [hm];refine ⟨_,_,fun h0=> ?_,p⟩;unfold Aq;rw [<- hn,S3 c g hnl h0,Nat.min_eq_right (by omega)];exact ⟨rfl,rfl⟩
theorem yF {c:m8}(hs:B6 c)  {g i:Nat}(hg:g=m8.ns c+(c.idxs.length+c.E7.length)+i)(hi:i<c.F1.length)(hok:bW c g):P3 c 72 i g:=by
 have hn:nth c.names g=(nth c.F1 i).name:=by
  rw [hg];exact R7 c (m8.sn c++c.idxs.map iC.name++c.E7.map iq.name) (c.I9.map jx.name++c.K9.map lS.name++c.M7.map lQ.name) c.F1 kj.name (by simp [m8.names,m8.sn]) (by simp [S0,H9]) hi
 have hm:min g (m8.ns c)=m8.ns c:=by omega
 have hnl:g<c.names.length:=by rw [T6];omega
 have eg:∀ k,k<(A0 c (m8.ns c)).length->(nth (A0 c (m8.ns c)) k).2.2.length<=100000:=fun k hk=>by
  rw [D0] at hk;have h3:=P7 hs (m8.ns c) k hk (n5 _) (U1 (fun m hm=>hok m (by omega)) (n5 _));rw [M0 c hk];show (R3 c k).length<=100000
  omega
 have p:=Yc c (c.names.take g) (A0 c (m8.ns c)) i hi eg;rw [Jz hg hi] at p;unfold P3;rw [hm];refine ⟨_,_,fun h0=> ?_,p⟩;unfold Aq;rw [<- hn,S3 c g hnl h0,Nat.min_eq_right (by omega)];exact ⟨rfl,rfl⟩
theorem yI {c:m8}(hs:B6 c)(hg0:∀ k,k<c.views.length->(nth c.views k).kind≠1\/0<(nth c.views k).C1.length){g i:Nat}(hg:g=m8.ns c+(c.idxs.length+c.E7.length+c.F1.length)+i)(hi:i<c.I9.length)(hok:bW c g):P3 c 73 i g:=by
 have hn:nth c.names g=(nth c.I9 i).name:=by
  rw [hg];exact R7 c (m8.sn c++c.idxs.map iC.name++c.E7.map iq.name++c.F1.map kj.name) (c.K9.map lS.name++c.M7.map lQ.name) c.I9 jx.name (by simp [m8.names,m8.sn]) (by simp [S0,H9]) hi
 have hm:min g (m8.ns c)=m8.ns c:=by omega
 have hnl:g<c.names.length:=by rw [T6];omega
 have eg:∀ k,k<(A0 c (m8.ns c)).length->(nth (A0 c (m8.ns c)) k).2.2.length<=100000:=fun k hk=>by
  rw [D0] at hk;have h3:=P7 hs (m8.ns c) k hk (n5 _) (U1 (fun m hm=>hok m (by omega)) (n5 _));rw [M0 c hk];show (R3 c k).length<=100000
  omega
 have p:=Yd c (c.names.take g) (A0 c (m8.ns c)) i hi hs.sm.fI.1 (by rw [D0];exact n5 _) hs.sm.fI.2.1 hg0;rw [Kg hg hi] at p;unfold P3;rw [hm];refine ⟨_,_,fun h0=> ?_,p⟩;unfold Aq;rw [<- hn,S3 c g hnl h0,Nat.min_eq_right (by omega)];exact ⟨rfl,rfl⟩
theorem yK {c:m8}(hs:B6 c)  {g i:Nat}(hg:g=m8.ns c+(c.idxs.length+c.E7.length+c.F1.length+c.I9.length)+i)(hi:i<c.K9.length)(hok:bW c g):P3 c 74 i g:=by
 have hn:nth c.names g=(nth c.K9 i).name:=by
  rw [hg];exact R7 c (m8.sn c++c.idxs.map iC.name++c.E7.map iq.name++c.F1.map kj.name++c.I9.map jx.name) (c.M7.map lQ.name) c.K9 lS.name (by simp [m8.names,m8.sn]) (by simp [S0,H9]) hi
 have hm:min g (m8.ns c)=m8.ns c:=by omega
 have hnl:g<c.names.length:=by rw [T6];omega
 have eg:∀ k,k<(A0 c (m8.ns c)).length->(nth (A0 c (m8.ns c)) k).2.2.length<=100000:=fun k hk=>by
  rw [D0] at hk;have h3:=P7 hs (m8.ns c) k hk (n5 _) (U1 (fun m hm=>hok m (by omega)) (n5 _));rw [M0 c hk];show (R3 c k).length<=100000
  omega
 have p:=Ye c (c.names.take g) (A0 c (m8.ns c)) i hi hs.sm.fI.1;rw [Kw hg hi] at p;unfold P3;rw [hm];refine ⟨_,_,fun h0=> ?_,p⟩;unfold Aq;rw [<- hn,S3 c g hnl h0,Nat.min_eq_right (by omega)];exact ⟨rfl,rfl⟩
theorem yE {c:m8}(hs:B6 c)  {g i:Nat}(hg:g=m8.ns c+(c.idxs.length+c.E7.length+c.F1.length+c.I9.length+c.K9.length)+i)(hi:i<c.M7.length)(hok:bW c g):P3 c 75 i g:=by
 have hn:nth c.names g=(nth c.M7 i).name:=by
  rw [hg];exact R7 c (m8.sn c++c.idxs.map iC.name++c.E7.map iq.name++c.F1.map kj.name++c.I9.map jx.name++c.K9.map lS.name) ([]) c.M7 lQ.name (by simp [m8.names,m8.sn]) (by simp [S0,H9]) hi
 have hm:min g (m8.ns c)=m8.ns c:=by omega
 have hnl:g<c.names.length:=by rw [T6];omega
 have eg:∀ k,k<(A0 c (m8.ns c)).length->(nth (A0 c (m8.ns c)) k).2.2.length<=100000:=fun k hk=>by
  rw [D0] at hk;have h3:=P7 hs (m8.ns c) k hk (n5 _) (U1 (fun m hm=>hok m (by omega)) (n5 _));rw [M0 c hk];show (R3 c k).length<=100000
  omega
 have p:=Yf c (c.names.take g) (A0 c (m8.ns c)) i hi hs.sm.fI.1 (hs.bk i hi);rw [Of hg hi] at p;unfold P3;rw [hm];refine ⟨_,_,fun h0=> ?_,p⟩;unfold Aq;rw [<- hn,S3 c g hnl h0,Nat.min_eq_right (by omega)];exact ⟨rfl,rfl⟩
end Go.Proofs.YtkmclibmmlgogaaGreat.dU
namespace Go.Proofs.YtkmclibmmlgogaaGreat.dU
open Go.y3 Go.y3.S
variable [Inhabited XO]
theorem mT (c:m8)(hs:B6 c):Pq A 29 [cat c] [.cells (c.enc.map .d),xo] cB (iD c c.names (A0 c (m8.ns c))):=by
 have hnl:=Z3 c;refine Yg c hs.sm.fI (Aq c) ⟨rfl,rfl⟩ (fun g ds ss ds' ss' h h' =>⟨h.1.trans h'.1.symm,h.2.trans h'.2.symm⟩) _ _ (fun ds ss h=>⟨by rw [h.1,List.take_length],by rw [h.2,Nat.min_eq_right hnl]⟩) ?_;rintro q i ds ss hq hi qP hok ⟨rfl,rfl⟩;have h20:=CN qP
 match q,hq with
 |0,_ =>
  have hi' :i<c.j3.length:=hi;have e:M8 c 0+i=i:=by simp [M8]
  rw [e] at hok ⊢;exact yL hs hi' hok
 |1,_ =>
  have hi' :i<c.views.length:=hi;have e:M8 c 1+i=c.j3.length+i:=by simp [M8,cnt]
  rw [e] at hok ⊢;have:=tR hs (by omega) (g:=c.j3.length+i) (by omega) (by unfold m8.ns;omega) hok;rw [Nat.add_sub_cancel_left] at this;exact this
 |2,_=>exact yG hs (by simp [M8,cnt,m8.ns]) hi hok
 |3,_=>exact yJ hs (by simp [M8,cnt,m8.ns,H9]) hi hok
 |4,_=>exact yF hs (by simp [M8,cnt,m8.ns,H9]) hi hok
 |5,_ =>
  refine yI hs (fun k hk=> ?_) (by simp [M8,cnt,m8.ns,H9]) hi hok;have hle:m8.ns c<=M8 c 5+i:=by simp [M8,cnt,m8.ns];omega
  have h9:=cW (cw (hok (k+c.j3.length) (by unfold m8.ns at hle;omega)) (by omega) (by unfold m8.ns;omega));have SZ:U7 c (k+c.j3.length)=nth c.views k:=by unfold U7;rw [Nat.add_sub_cancel]
  rw [SZ] at h9;exact tM h9.2.2.2
 |6,_=>exact yK hs (by simp [M8,cnt,m8.ns,H9]) hi hok
 |7,_=>exact yE hs (by simp [M8,cnt,m8.ns,H9]) hi hok
end Go.Proofs.YtkmclibmmlgogaaGreat.dU


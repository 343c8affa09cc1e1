import Derived.Test.YtibjocmpkoepoaaGreatT2
set_option linter.all false
open Bool renaming and_eq_true→c7,true→W,false→F
open List renaming all_eq_true→M1,cons_append→A8,mem_cons→B6,mem_map→J4,nil_append→B3,replicate→c9,length→O
open Nat renaming beq→u5,eq_of_beq_eq_true→j5
open Option renaming some→J,none→K
namespace Go.Proofs.YtibjocmpkoepoaaGreat
open Go.A1 Go.A1.S Go.A1.Sh
attribute [local irreducible] Rx Ry Rn Ex Pf
variable [Inhabited vK]
def bc3:Sh.Spec:=⟨147,[.ptr 0 0],[.pr 0],l1,[(vV,[.pr 0])]⟩
def bc4:Sh.Spec:=⟨148,[.ptr 0 0,.d (iR 1 5)],[.pr 0],l1,[(.own 5 (.slice K 1 1 rTm),[.pr 0])]⟩
def s92 (d hi:Nat):Sh.Spec:=⟨99,[.ptr 0 0,.d (iR 0 d),.d (iR 1 5)],[.pr 0],l1,[(.own 5 (.slice K 1 hi rTm),[.pr 0]),(.d (.slice K 1 hi rTm),[.pr 0])]⟩
def eX (own:Bool):SV:=if own then .own 5 (.slice K 0 4 rTm) else .d (.slice K 0 4 rTm)
def s91 (own:Bool):Sh.Spec:=⟨98,[.ptr 0 0,eX own],[.pr 0],l1,[(.d (.slice K 0 5 Np),[.pr 0])]⟩
section
variable {xs:List Int} (hx:O xs<=35184372088832) (g:s5)
include hx
theorem bs4:bc3.ok (ct xs g) A:=dX hx (l:=[Xo,Xp]) (kp:=[]) (js:=[]) (.cons (ab2 hx g) (.cons (ab3 hx g) .nil)) rfl rfl (by kernel_rfl)
theorem bs5:bc4.ok (ct xs g) A:=dX hx (l:=[Xo,Xp]) (kp:=[]) (js:=[]) (.cons (ab2 hx g) (.cons (ab3 hx g) .nil)) rfl rfl (by kernel_rfl)
theorem bs7:(s92 1 1).ok (ct xs g) A:=dX hx (l:=[bc4]) (kp:=[]) (js:=[]) (.cons (bs5 hx g) .nil) rfl rfl (by kernel_rfl)
theorem cc0:(s92 2 4).ok (ct xs g) A:=dX hx (l:=[bc4,aD3,s92 1 1]) (kp:=[]) (js:=[1]) (.cons (bs5 hx g) (.cons (aZ6 hx g) (.cons (bs7 hx g) .nil))) rfl rfl (by kernel_rfl)
theorem o91 (own:Bool):(s91 own).ok (ct xs g) A:=by
 cases own<;>exact dX hx (l:=[bc3]) (kp:=[]) (js:=[]) (.cons (bs4 hx g) .nil) rfl rfl (by kernel_rfl)
end
end Go.Proofs.YtibjocmpkoepoaaGreat
namespace Go.Proofs.YtibjocmpkoepoaaGreat
open Go.A1 Go.A1.S Go.A1.Sh
attribute [local irreducible] Rx Ry Rn Ex Pf
def sU:List Sh.Spec:=[s35,bc3,s92 1 1,s92 2 4,s91 W,s91 F]
def vwC (m:Nat):List SV:=(c9 m (rV1.map .d)).flatten
def ci3 (it:SV):List SV:=[.q (.str 100),.q sI,.q (.str 100),.q (.str 100),.q (.slice K 0 1 [sI,sI]),.q (.slice K 0 100 Np),it,.q (.bool .vQ),.q (.slice K 0 100 [.str 100,sI,.slice K 0 100 Np])]
def vwJ (m j:Nat)(it:SV):List SV:=(vwC m).take (9 * j)++ci3 it++(vwC m).drop (9 * j+9)
def rIt:List SV:=[.q (.str 100),.q (.slice K 0 100 Np)]
def Za:List (SV×List SO):=[0,1,2,3,4,6,7,8,9].map (λr=>(.B8 6 2 0 r,[.cells K (c9 r rIt).flatten]))++[1,2,3,4].map (λr=>(.B8 6 2 0 r,[.cells K (c9 r rIt).flatten,.dead]))++[(.P9,[.top])]
def H59 (o1 o2 o3 o5:SO)(vw:List SV):List SO:=[.pr 0,o1,o2,o3,.cells K vw,o5]
def PW (m j:Nat):Sh.Spec:=⟨44,[.ptr 0 0,.ptr 4 (9 * j)],H59 (.Ec 5 5) (.Ec 6 0) (.Ec 7 6) (.Ec 8 0) (vwC m),l1,Za.map λp=>(.tuple [],H59 (.Ec 5 5) (.Ec 6 0) (.Ec 7 6) (.Ec 8 0) (vwJ m j p.1)++p.2)⟩
def aZ1:List (Nat×Nat):=[(1,0),(2,0),(2,1),(3,0),(3,1),(3,2),(4,0),(4,1),(4,2),(4,3)]
def GD (o:SO)(n:Nat):Bool:=match o.aa with
 |some b=>u5 b n
 |none=>F
def BG {C:Ctx}{vs:List Nat}{o:SO}{n:Nat}{k:y6}(h:GD o n=W)(hg:o.g C vs k):k.L7=n:=by
 unfold GD at h;split at h
 next b hb=>
  rw [SO.dU hb hg];exact j5 h
 .cases h
def ZT {a b:I7}(h:qp a b=W):a=b:=by
 simp only [qp,c7] at h;have e1:=j5 h.1.1.1;have e2:=j5 h.1.1.2;have e3:=j5 h.1.2;have e4:=j5 h.2;cases a;cases b;simp_all
def ij:Sh.Sem:=λi7 f args H l=>match args,H with
 |[.ptr 0 0,.ptr 4 o],[.pr 0,o1,o2,o3,.cells _ vw,o5]=>if u5 f 44&&qp l l1&&GD o1 5&&GD o2 0&&GD o3 6&&GD o5 0 then
   match aZ1.find? (λp=>u5 o (9 * p.2)&&z8.le (λ_ _=>F) i7 vw (vwC p.1)) with
   |some p=>J (Za.map λq=>(.tuple [],H59 o1 o2 o3 o5 (vwJ p.1 p.2 q.1)++q.2))
   |none=>K
  else K
 |_,_=>K
theorem aX0:gm A (fC sU) aS W5 [] [] 40 a44 (PW 1 0)=W:=by kernel_rfl
theorem aX1:gm A (fC sU) aS W5 [] [] 40 a44 (PW 2 0)=W:=by kernel_rfl
theorem aX2:gm A (fC sU) aS W5 [] [] 40 a44 (PW 2 1)=W:=by kernel_rfl
theorem aX3:gm A (fC sU) aS W5 [] [] 40 a44 (PW 3 0)=W:=by kernel_rfl
theorem aX4:gm A (fC sU) aS W5 [] [] 40 a44 (PW 3 1)=W:=by kernel_rfl
theorem aX5:gm A (fC sU) aS W5 [] [] 40 a44 (PW 3 2)=W:=by kernel_rfl
theorem aX6:gm A (fC sU) aS W5 [] [] 40 a44 (PW 4 0)=W:=by kernel_rfl
theorem aX7:gm A (fC sU) aS W5 [] [] 40 a44 (PW 4 1)=W:=by kernel_rfl
theorem aX8:gm A (fC sU) aS W5 [] [] 40 a44 (PW 4 2)=W:=by kernel_rfl
theorem aX9:gm A (fC sU) aS W5 [] [] 40 a44 (PW 4 3)=W:=by kernel_rfl
section
variable [d4:Inhabited vK]
variable {xs:List Int} (hx:O xs<=35184372088832) (g:s5)
include hx
def TG:ia (ct xs g) A (fC sU):=Ca hx (l:=sU) (g:=g) (.cons (o35 hx g) (.cons (bs4 hx g) (.cons (bs7 hx g) (.cons (cc0 hx g) (.cons (o91 hx g W) (.cons (o91 hx g F) .nil))))))
def Gw {m j:Nat}(h:gm A (fC sU) aS W5 [] [] 40 a44 (PW m j)=W):(PW m j).ok (ct xs g) A:=xl (TG hx g) eG wJ rfl rfl h
def o59 (m j:Nat)(h:(m,j)∈aZ1):(PW m j).ok (ct xs g) A:=by
 simp only [aZ1,B6,Prod.mk.injEq,List.not_mem_nil,or_false] at h
 rcases h with ⟨rfl,rfl⟩|⟨rfl,rfl⟩|⟨rfl,rfl⟩|⟨rfl,rfl⟩|⟨rfl,rfl⟩|⟨rfl,rfl⟩|⟨rfl,rfl⟩|⟨rfl,rfl⟩|⟨rfl,rfl⟩|⟨rfl,rfl⟩
 .exact Gw hx g aX0
 .exact Gw hx g aX1
 .exact Gw hx g aX2
 .exact Gw hx g aX3
 .exact Gw hx g aX4
 .exact Gw hx g aX5
 .exact Gw hx g aX6
 .exact Gw hx g aX7
 .exact Gw hx g aX8
 .exact Gw hx g aX9
def ah1:ia (ct xs g) A ij:=by
 intro i7 f args H l outs h vs hB az Hc ha hH;unfold ij at h;split at h
 next o o1 o2 o3 p vw o5=>
  split at h
  next hc=>
   simp only [c7] at hc;obtain ⟨⟨⟨⟨⟨c1,c2⟩,c3⟩,c4⟩,c5⟩,c6⟩:=hc;have c1:=j5 c1;subst c1;rw [ZT c2];split at h
   next mj hf=>
    obtain ⟨m,j⟩:=mj;have hm:=List.mem_of_find?_eq_some hf;have hq:(u5 o (9 * j)&&z8.le (λ_ _=>F) i7 vw (vwC m))=W:=by have:=List.find?_some hf;exact this
    simp only [c7] at hq;have e:=j5 hq.1;subst e;cases h;simp only [L4.g] at hH;obtain ⟨k0,_,rfl,g0,K1,_,rfl,g1,K2,_,rfl,g2,K3,_,rfl,g3,d6,_,rfl,g4,K5,_,rfl,g5,rfl⟩:=hH;obtain ⟨cs,rfl,g4,_⟩:=g4;have g4:=z8.dM hB (C:=ct xs g) (fact:=λ_ _=>F) (λk ds h=>by cases h) _ hq.2 g4
    let I:Inhabited vK:=⟨⟨λk o=>o=(match k with|5=>K1|6=>K2|7=>K3|_=>K5)⟩⟩
    obtain ⟨d1,d2⟩:= @o59 I xs hx g m j hm;have hcl:=d1;simp only [Spec.cl,c7] at hcl;have hvc:z8.cl (vwC m)=W:=by
     have:=hcl.1.2;simp only [PW,H59,L4.cl,SO.cl,c7] at this;exact this.2.2.2.2.1
    obtain ⟨v,H1,⟨out,m1,m2,m3⟩,hp⟩:=d2 az [k0,K1,K2,K3,.cells cs,K5] (by
     simp only [PW,z8.g,SV.g] at ha ⊢;obtain ⟨a0,_,rfl,h0,a1,_,rfl,h1,rfl⟩:=ha;exact ⟨_,_,rfl,h0,_,_,rfl,h1,rfl⟩) (by
     simp only [PW,H59,L4.g];exact ⟨_,_,rfl,g0,_,_,rfl,⟨rfl,BG c3 g1⟩,_,_,rfl,⟨rfl,BG c4 g2⟩,_,_,rfl,⟨rfl,BG c5 g3⟩,_,_,rfl,⟨_,rfl,z8.dG _ hvc (z8.nN (C:= @ct d4 xs g) (i6:= @ct I xs g) rfl rfl _ g4),λk h=>by cases h⟩,_,_,rfl,⟨rfl,BG c6 g5⟩,rfl⟩)
    obtain ⟨q,q1,rfl⟩:=J4.1 m1;have hoc:=M1.1 hcl.2 _ m1;simp only [c7,H59,A8,B3,L4.cl,SO.cl] at hoc;simp only [H59,A8,B3,L4.g] at m3;obtain ⟨k0',_,rfl,e0,_,_,rfl,⟨e1,_⟩,_,_,rfl,⟨e2,_⟩,_,_,rfl,⟨e3,_⟩,_,_,rfl,e4,_,R,rfl,⟨e5,_⟩,e6⟩:=m3;obtain ⟨cs',rfl,e4,_⟩:=e4;have e1:_=K1:=e1;have e2:_=K2:=e2;have e3:_=K3:=e3;have e5:_=K5:=e5;subst e1 e2 e3 e5;refine ⟨v,_,⟨_,J4.2 ⟨q,q1,rfl⟩,?_,?_⟩,hp⟩
    .simp only [SV.g] at m2 ⊢
     exact m2
    .simp only [H59,A8,B3,L4.g]
     refine ⟨_,_,rfl,e0,_,_,rfl,g1,_,_,rfl,g2,_,_,rfl,g3,_,_,rfl,⟨_,rfl,z8.dG _ hoc.2.2.2.2.2.1 (z8.nN (C:= @ct I xs g) (i6:= @ct d4 xs g) rfl rfl _ e4),λk h=>by cases h⟩,_,_,rfl,g5,?_⟩;have Du:q.2.all SO.plain=W:=by
      have:Za.all (λq=>q.2.all SO.plain)=W:=rfl;exact M1.1 this q q1
     have hrc:=hoc.2.2.2.2.2.2.2;clear m1 hoc q1 hp m2;revert R;generalize q.2=l at Du hrc;intro R
     induction l generalizing R with
     |nil=>intro h;simpa only [L4.g] using h
     |cons x l ih =>
      intro h;simp only [List.all_cons,c7] at Du;simp only [L4.cl,c7] at hrc;simp only [L4.g] at h ⊢;obtain ⟨y,ys,rfl,y1,y2⟩:=h;exact ⟨y,ys,rfl,SO.dG _ hrc.1 (SO.nN (C:= @ct I xs g) (i6:= @ct d4 xs g) rfl rfl Du.1 y1),ih Du.2 hrc.2 _ y2⟩
   .cases h
  .cases h
 .cases h
end
def rE (n m:Nat):List SD:=[.slice K n n rT4,.slice K m m rV1,e1 r2,e1 r3,e1 r4,e1 r5,e1 r6,e1 r7]
def HF (n m:Nat):Sh.Spec:=⟨15,[.ptr 0 0,.agg K ((rE n m).map .d)],[.pr 0],l1,[(.agg K (bc0.map .d),[.pr 0])]⟩
def vE [d4:Inhabited vK] {xs:List Int}(hx:O xs<=35184372088832)(g:s5){n m:Nat}(h:gm A (dm ij (fC sU)) aS W5 [] [] 40 Lg (HF n m)=W):(HF n m).ok (ct xs g) A:=xl (oo (ah1 hx g) (TG hx g)) eG wJ rfl rfl h
end Go.Proofs.YtibjocmpkoepoaaGreat


import Derived.Test.YtibjocmpkoepoaaGreatT2
set_option linter.all false
open Bool renaming and_eq_true → c7
open List renaming all_eq_true → Q2, cons_append → F8, mem_cons → B8, mem_map → L1, nil_append → E0, replicate → c9
open Nat renaming beq → s7, eq_of_beq_eq_true → e8
namespace Go.Proofs.YtibjocmpkoepoaaGreat
open Go.A2 Go.A2.S Go.A2.Sh
attribute [local irreducible] Rx Ry Rn Ex Pf
variable [Inhabited tO]
def aF7:Sh.Spec:=⟨147,[.ptr 0 0],[.pr 0],l1,[(vV,[.pr 0])]⟩
def aF8:Sh.Spec:=⟨148,[.ptr 0 0,.d (iR 1 5)],[.pr 0],l1,[(.own 5 (.slice none 1 1 Xt),[.pr 0])]⟩
def s92 (d hi:Nat):Sh.Spec:=⟨99,[.ptr 0 0,.d (iR 0 d),.d (iR 1 5)],[.pr 0],l1,[(.own 5 (.slice none 1 hi Xt),[.pr 0]),(.d (.slice none 1 hi Xt),[.pr 0])]⟩
def eX (own:Bool):SV:=if own then .own 5 (.slice none 0 4 Xt) else .d (.slice none 0 4 Xt)
def s91 (own:Bool):Sh.Spec:=⟨98,[.ptr 0 0,eX own],[.pr 0],l1,[(.d (.slice none 0 5 KC),[.pr 0])]⟩
section
variable {xs:List Int} (hx:xs.length<=35184372088832) (g:r9)
include hx
theorem aU9:aF7.ok (bE xs g) A:=dc hx (l:=[TW,TX]) (kp:=[]) (js:=[]) (.cons (WH hx g) (.cons (WI hx g) .nil)) rfl rfl (by kernel_rfl)
theorem aV0:aF8.ok (bE xs g) A:=dc hx (l:=[TW,TX]) (kp:=[]) (js:=[]) (.cons (WH hx g) (.cons (WI hx g) .nil)) rfl rfl (by kernel_rfl)
theorem aV2:(s92 1 1).ok (bE xs g) A:=dc hx (l:=[aF8]) (kp:=[]) (js:=[]) (.cons (aV0 hx g) .nil) rfl rfl (by kernel_rfl)
theorem bB8:(s92 2 4).ok (bE xs g) A:=dc hx (l:=[aF8,ah8,s92 1 1]) (kp:=[]) (js:=[1]) (.cons (aV0 hx g) (.cons (aD3 hx g) (.cons (aV2 hx g) .nil))) rfl rfl (by kernel_rfl)
theorem o91 (own:Bool):(s91 own).ok (bE xs g) A:=by
 cases own<;>exact dc hx (l:=[aF7]) (kp:=[]) (js:=[]) (.cons (aU9 hx g) .nil) rfl rfl (by kernel_rfl)
end
end Go.Proofs.YtibjocmpkoepoaaGreat
namespace Go.Proofs.YtibjocmpkoepoaaGreat
open Go.A2 Go.A2.S Go.A2.Sh
attribute [local irreducible] Rx Ry Rn Ex Pf
def sU:List Sh.Spec:=[s35,aF7,s92 1 1,s92 2 4,s91 true,s91 false]
def vwC (m:Nat):List SV:=(c9 m (ZO.map .d)).flatten
def bH9 (it:SV):List SV:=[.q (.str 100),.q sI,.q (.str 100),.q (.str 100),.q (.slice none 0 1 [sI,sI]),.q (.slice none 0 100 KC),it,.q (.bool .tT),.q (.slice none 0 100 [.str 100,sI,.slice none 0 100 KC])]
def vwJ (m j:Nat)(it:SV):List SV:=(vwC m).take (9 * j)++bH9 it++(vwC m).drop (9 * j+9)
def rIt:List SV:=[.q (.str 100),.q (.slice none 0 100 KC)]
def Vz:List (SV×List SO):=[0,1,2,3,4,6,7,8,9].map (fun r=>(.B4 6 2 0 r,[.cells none (c9 r rIt).flatten]))++[1,2,3,4].map (fun r=>(.B4 6 2 0 r,[.cells none (c9 r rIt).flatten,.dead]))++[(.O2,[.top])]
def H59 (o1 o2 o3 o5:SO)(vw:List SV):List SO:=[.pr 0,o1,o2,o3,.cells none vw,o5]
def MM (m j:Nat):Sh.Spec:=⟨44,[.ptr 0 0,.ptr 4 (9 * j)],H59 (.BJ 5 5) (.BJ 6 0) (.BJ 7 6) (.BJ 8 0) (vwC m),l1,Vz.map fun p=>(.tuple [],H59 (.BJ 5 5) (.BJ 6 0) (.BJ 7 6) (.BJ 8 0) (vwJ m j p.1)++p.2)⟩
def aC8:List (Nat×Nat):=[(1,0),(2,0),(2,1),(3,0),(3,1),(3,2),(4,0),(4,1),(4,2),(4,3)]
def DZ (o:SO)(n:Nat):Bool:=match o.Y3 with
 |some b=>s7 b n
 |none=>false
def zJ {C:Ctx}{vs:List Nat}{o:SO}{n:Nat}{k:A1}(h:DZ o n=true)(hg:o.g C vs k):k.O5=n:=by
 unfold DZ at h;split at h
 .rename_i b hb
  rw [SO.cU hb hg];exact e8 h
 .cases h
def Wp {a b:H7}(h:oD a b=true):a=b:=by
 simp only [oD,c7] at h;have e1:=e8 h.1.1.1;have e2:=e8 h.1.1.2;have e3:=e8 h.1.2;have e4:=e8 h.2;cases a;cases b;simp_all
def gy:Sh.Sem:=fun B f args H l=>match args,H with
 |[.ptr 0 0,.ptr 4 o],[.pr 0,o1,o2,o3,.cells _ vw,o5]=>if s7 f 44&&oD l l1&&DZ o1 5&&DZ o2 0&&DZ o3 6&&DZ o5 0 then
   match aC8.find? (fun p=>s7 o (9 * p.2)&&y7.le (fun _ _=>false) B vw (vwC p.1)) with
   |some p=>some (Vz.map fun q=>(.tuple [],H59 o1 o2 o3 o5 (vwJ p.1 p.2 q.1)++q.2))
   |none=>none
  else none
 |_,_=>none
theorem aB1:fA A (ey sU) aj V0 [] [] 40 a44 (MM 1 0)=true:=by kernel_rfl
theorem aB2:fA A (ey sU) aj V0 [] [] 40 a44 (MM 2 0)=true:=by kernel_rfl
theorem aB3:fA A (ey sU) aj V0 [] [] 40 a44 (MM 2 1)=true:=by kernel_rfl
theorem aB4:fA A (ey sU) aj V0 [] [] 40 a44 (MM 3 0)=true:=by kernel_rfl
theorem aB5:fA A (ey sU) aj V0 [] [] 40 a44 (MM 3 1)=true:=by kernel_rfl
theorem aB6:fA A (ey sU) aj V0 [] [] 40 a44 (MM 3 2)=true:=by kernel_rfl
theorem aB7:fA A (ey sU) aj V0 [] [] 40 a44 (MM 4 0)=true:=by kernel_rfl
theorem aB8:fA A (ey sU) aj V0 [] [] 40 a44 (MM 4 1)=true:=by kernel_rfl
theorem aB9:fA A (ey sU) aj V0 [] [] 40 a44 (MM 4 2)=true:=by kernel_rfl
theorem aC0:fA A (ey sU) aj V0 [] [] 40 a44 (MM 4 3)=true:=by kernel_rfl
section
variable [J:Inhabited tO]
variable {xs:List Int} (hx:xs.length<=35184372088832) (g:r9)
include hx
def Qd:gq (bE xs g) A (ey sU):=zZ hx (l:=sU) (g:=g) (.cons (o35 hx g) (.cons (aU9 hx g) (.cons (aV2 hx g) (.cons (bB8 hx g) (.cons (o91 hx g true) (.cons (o91 hx g false) .nil))))))
def DQ {m j:Nat}(h:fA A (ey sU) aj V0 [] [] 40 a44 (MM m j)=true):(MM m j).ok (bE xs g) A:=uO (Qd hx g) dM uz rfl rfl h
def o59 (m j:Nat)(h:(m,j) ∈ aC8):(MM m j).ok (bE xs g) A:=by
 simp only [aC8,B8,Prod.mk.injEq,List.not_mem_nil,or_false] at h
 rcases h with ⟨rfl,rfl⟩|⟨rfl,rfl⟩|⟨rfl,rfl⟩|⟨rfl,rfl⟩|⟨rfl,rfl⟩|⟨rfl,rfl⟩|⟨rfl,rfl⟩|⟨rfl,rfl⟩|⟨rfl,rfl⟩|⟨rfl,rfl⟩
 .exact DQ hx g aB1
 .exact DQ hx g aB2
 .exact DQ hx g aB3
 .exact DQ hx g aB4
 .exact DQ hx g aB5
 .exact DQ hx g aB6
 .exact DQ hx g aB7
 .exact DQ hx g aB8
 .exact DQ hx g aB9
 .exact DQ hx g aC0
def XH:gq (bE xs g) A gy:=by
 intro B f args H l outs h vs hB az Hc ha hH;unfold gy at h;split at h
 .rename_i o o1 o2 o3 p vw o5
  split at h
  .rename_i hc
   simp only [c7] at hc;obtain ⟨⟨⟨⟨⟨c1,c2⟩,c3⟩,c4⟩,c5⟩,c6⟩:=hc;have c1:=e8 c1;subst c1;rw [Wp c2];split at h
   .rename_i mj hf
    obtain ⟨m,j⟩:=mj;have hm:=List.mem_of_find?_eq_some hf;have hq:(s7 o (9 * j)&&y7.le (fun _ _=>false) B vw (vwC m))=true:=by have:=List.find?_some hf;exact this
    simp only [c7] at hq;have e:=e8 hq.1;subst e;cases h;simp only [J6.g] at hH;obtain ⟨k0,_,rfl,g0,K1,_,rfl,g1,K2,_,rfl,g2,K3,_,rfl,g3,V,_,rfl,g4,K5,_,rfl,g5,rfl⟩:=hH;obtain ⟨cs,rfl,g4,_⟩:=g4;have g4:=y7.cO hB (C:=bE xs g) (fact:=fun _ _=>false) (fun k ds h=>by cases h) _ hq.2 g4
    let I:Inhabited tO:=⟨⟨fun k o=>o=(match k with|5=>K1|6=>K2|7=>K3|_=>K5)⟩⟩
    obtain ⟨d1,d2⟩:= @o59 I xs hx g m j hm;have hcl:=d1;simp only [Spec.cl,c7] at hcl;have hvc:y7.cl (vwC m)=true:=by
     have:=hcl.1.2;simp only [MM,H59,J6.cl,SO.cl,c7] at this;exact this.2.2.2.2.1
    obtain ⟨v,H1,⟨out,m1,m2,m3⟩,hp⟩:=d2 az [k0,K1,K2,K3,.cells cs,K5] (by
     simp only [MM,y7.g,SV.g] at ha ⊢;obtain ⟨a0,_,rfl,h0,a1,_,rfl,h1,rfl⟩:=ha;exact ⟨_,_,rfl,h0,_,_,rfl,h1,rfl⟩) (by
     simp only [MM,H59,J6.g];exact ⟨_,_,rfl,g0,_,_,rfl,⟨rfl,zJ c3 g1⟩,_,_,rfl,⟨rfl,zJ c4 g2⟩,_,_,rfl,⟨rfl,zJ c5 g3⟩,_,_,rfl,⟨_,rfl,y7.cH _ hvc (y7.mF (C:= @bE J xs g) (D:= @bE I xs g) rfl rfl _ g4),fun k h=>by cases h⟩,_,_,rfl,⟨rfl,zJ c6 g5⟩,rfl⟩)
    obtain ⟨q,q1,rfl⟩:=L1.1 m1;have hoc:=Q2.1 hcl.2 _ m1;simp only [c7,H59,F8,E0,J6.cl,SO.cl] at hoc;simp only [H59,F8,E0,J6.g] at m3;obtain ⟨k0',_,rfl,e0,_,_,rfl,⟨e1,_⟩,_,_,rfl,⟨e2,_⟩,_,_,rfl,⟨e3,_⟩,_,_,rfl,e4,_,R,rfl,⟨e5,_⟩,e6⟩:=m3;obtain ⟨cs',rfl,e4,_⟩:=e4;have e1:_=K1:=e1;have e2:_=K2:=e2;have e3:_=K3:=e3;have e5:_=K5:=e5;subst e1 e2 e3 e5;refine ⟨v,_,⟨_,L1.2 ⟨q,q1,rfl⟩,?_,?_⟩,hp⟩
    .simp only [SV.g] at m2 ⊢
     exact m2
    .simp only [H59,F8,E0,J6.g]
     refine ⟨_,_,rfl,e0,_,_,rfl,g1,_,_,rfl,g2,_,_,rfl,g3,_,_,rfl,⟨_,rfl,y7.cH _ hoc.2.2.2.2.2.1 (y7.mF (C:= @bE I xs g) (D:= @bE J xs g) rfl rfl _ e4),fun k h=>by cases h⟩,_,_,rfl,g5,?_⟩;have Bj:q.2.all SO.plain=true:=by
      have:Vz.all (fun q=>q.2.all SO.plain)=true:=rfl;exact Q2.1 this q q1
     have hrc:=hoc.2.2.2.2.2.2.2;clear m1 hoc q1 hp m2;revert R;generalize q.2=l at Bj hrc;intro R
     induction l generalizing R with
     |nil=>intro h;simpa only [J6.g] using h
     |cons x l ih =>
      intro h;simp only [List.all_cons,c7] at Bj;simp only [J6.cl,c7] at hrc;simp only [J6.g] at h ⊢;obtain ⟨y,ys,rfl,y1,y2⟩:=h;exact ⟨y,ys,rfl,SO.cH _ hrc.1 (SO.mF (C:= @bE I xs g) (D:= @bE J xs g) rfl rfl Bj.1 y1),ih Bj.2 hrc.2 _ y2⟩
   .cases h
  .cases h
 .cases h
end
def rE (n m:Nat):List SD:=[.slice none n n ZN,.slice none m m ZO,e1 r2,e1 r3,e1 r4,e1 r5,e1 r6,e1 r7]
def EP (n m:Nat):Sh.Spec:=⟨15,[.ptr 0 0,.agg none ((rE n m).map .d)],[.pr 0],l1,[(.agg none (aF4.map .d),[.pr 0])]⟩
def tK [J:Inhabited tO] {xs:List Int}(hx:xs.length<=35184372088832)(g:r9){n m:Nat}(h:fA A (cz gy (ey sU)) aj V0 [] [] 40 Iz (EP n m)=true):(EP n m).ok (bE xs g) A:=uO (mS (XH hx g) (Qd hx g)) dM uz rfl rfl h
end Go.Proofs.YtibjocmpkoepoaaGreat


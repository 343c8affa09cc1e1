/- Texts T10 T13 (made short by a program) -/
import Derived.Test.YtkmclibmmlgogaaGreatT2
set_option linter.unusedVariables false
set_option linter.unusedSimpArgs false
open Bool renaming and_eq_true → b5
open List renaming cons_append → L6, mem_cons → C6, replicate → c9
open Nat renaming beq → r9, eq_of_beq_eq_true → b9
namespace Go.Proofs.YtkmclibmmlgogaaGreat
open Go.y3 Go.y3.S Go.y3.Sh
attribute [local irreducible] Rx Ry Rn Ex Pf
variable [Inhabited NM]
def YE:Sh.Spec:=⟨139,[.ptr 0 0],[.pr 0],l1,[(vV,[.pr 0])]⟩
def YF:Sh.Spec:=⟨140,[.ptr 0 0,.d (iR 1 5)],[.pr 0],l1,[(.own 5 (.slice none 1 1 Qt),[.pr 0])]⟩
def s92 (d hi:Nat):Sh.Spec:=⟨92,[.ptr 0 0,.d (iR 0 d),.d (iR 1 5)],[.pr 0],l1,[(.own 5 (.slice none 1 hi Qt),[.pr 0]),(.d (.slice none 1 hi Qt),[.pr 0])]⟩
def eX (own:Bool):SV:=if own then .own 5 (.slice none 0 4 Qt) else .d (.slice none 0 4 Qt)
def s91 (own:Bool):Sh.Spec:=⟨91,[.ptr 0 0,eX own],[.pr 0],l1,[(.d (.slice none 0 5 Ft),[.pr 0])]⟩
section
variable {xs:List Int} (hx:xs.length<=35184372088832) (g:m8)
include hx
theorem ai8:YE.ok (aD xs g) A:=aY hx (l:=[Np,Nq]) (kp:=[]) (js:=[]) (.cons (PG hx g) (.cons (PI hx g) .nil)) rfl rfl (by kernel_rfl)
theorem ai9:YF.ok (aD xs g) A:=aY hx (l:=[Np,Nq]) (kp:=[]) (js:=[]) (.cons (PG hx g) (.cons (PI hx g) .nil)) rfl rfl (by kernel_rfl)
theorem aj1:(s92 1 1).ok (aD xs g) A:=aY hx (l:=[YF]) (kp:=[]) (js:=[]) (.cons (ai9 hx g) .nil) rfl rfl (by kernel_rfl)
theorem aM7:(s92 2 4).ok (aD xs g) A:=aY hx (l:=[YF,Ub,s92 1 1]) (kp:=[]) (js:=[1]) (.cons (ai9 hx g) (.cons (XI hx g) (.cons (aj1 hx g) .nil))) rfl rfl (by kernel_rfl)
theorem o91 (own:Bool):(s91 own).ok (aD xs g) A:=by
 cases own<;>exact aY hx (l:=[YE]) (kp:=[]) (js:=[]) (.cons (ai8 hx g) .nil) rfl rfl (by kernel_rfl)
end
end Go.Proofs.YtkmclibmmlgogaaGreat
namespace Go.Proofs.YtkmclibmmlgogaaGreat
open Go.y3 Go.y3.S Go.y3.Sh
attribute [local irreducible] Rx Ry Rn Ex Pf
def sU:List Sh.Spec:=[ZC,YE,s92 1 1,s92 2 4,s91 true,s91 false]
def ZG (m:Nat):List SV:=(c9 m (Qu.map .d)).flatten
def aP6 (it:SV):List SV:=[.q (.str 100),.q sI,.q (.str 100),.q (.str 100),.q (.slice none 0 1 [sI,sI]),.q (.slice none 0 100 Ft),it,.q (.bool .qo),.q (.slice none 0 100 [.str 100,sI,.slice none 0 100 Ft])]
def vwJ (m j:Nat)(it:SV):List SV:=(ZG m).take (9 * j)++aP6 it++(ZG m).drop (9 * j+9)
def rIt:List SV:=[.q (.str 100),.q (.slice none 0 100 Ft)]
def OF:List (SV×List SO):=(List.range 10).map (fun r=>(.D4 6 2 0 r,[.cells none (c9 r rIt).flatten]))++(List.range 5).map (fun r=>(.D4 6 2 0 r,[.cells none (c9 r rIt).flatten,.dead]))++[(.I8,[.top])]
def UK (o1 o2 o3 o5:SO)(vw:List SV):List SO:=[.pr 0,o1,o2,o3,.cells none vw,o5]
def NX (m j:Nat):Sh.Spec:=⟨59,[.ptr 0 0,.ptr 4 (9 * j)],UK (.yd 5 5) (.yd 6 0) (.yd 7 6) (.yd 8 0) (ZG m),l1,OF.map fun p=>(.tuple [],UK (.yd 5 5) (.yd 6 0) (.yd 7 6) (.yd 8 0) (vwJ m j p.1)++p.2)⟩
def XC:List (Nat×Nat):=[(1,0),(2,0),(2,1),(3,0),(3,1),(3,2)]
def Au (o:SO)(n:Nat):Bool:=match o.V8 with
 |some b=>r9 b n
 |none=>false
theorem vG {C:Ctx}{vs:List Nat}{o:SO}{n:Nat}{k:y7}(h:Au o n=true)(hg:o.g C vs k):k.N4=n:=by
 unfold Au at h;split at h
 ·rename_i b hb
  rw [SO.bD hb hg];exact b9 h
 ·cases h
theorem Pt {a b:G9}(h:kZ a b=true):a=b:=by
 simp only [kZ,b5] at h;have e1:=b9 h.1.1.1;have e2:=b9 h.1.1.2;have e3:=b9 h.1.2;have e4:=b9 h.2;cases a;cases b;simp_all
def gW:Sh.Sem:=fun B f args H l=>match args,H with
 |[.ptr 0 0,.ptr 4 o],[.pr 0,o1,o2,o3,.cells _ vw,o5]=>if r9 f 59&&kZ l l1&&Au o1 5&&Au o2 0&&Au o3 6&&Au o5 0 then
   match XC.find? (fun p=>r9 o (9 * p.2)&&q6.le (fun _ _=>false) B vw (ZG p.1)) with
   |some p=>some (OF.map fun q=>(.tuple [],UK o1 o2 o3 o5 (vwJ p.1 p.2 q.1)++q.2))
   |none=>none
  else none
 |_,_=>none
theorem Xs:gU A (gl sU) bE W7 [] [] 40 a59 (NX 1 0)=true:=by kernel_rfl
theorem Xt:gU A (gl sU) bE W7 [] [] 40 a59 (NX 2 0)=true:=by kernel_rfl
theorem Xu:gU A (gl sU) bE W7 [] [] 40 a59 (NX 2 1)=true:=by kernel_rfl
theorem Xv:gU A (gl sU) bE W7 [] [] 40 a59 (NX 3 0)=true:=by kernel_rfl
theorem Xw:gU A (gl sU) bE W7 [] [] 40 a59 (NX 3 1)=true:=by kernel_rfl
theorem Xx:gU A (gl sU) bE W7 [] [] 40 a59 (NX 3 2)=true:=by kernel_rfl
section
variable [J:Inhabited NM]
variable {xs:List Int} (hx:xs.length<=35184372088832) (g:m8)
include hx
theorem Ko:ee (aD xs g) A (gl sU):=rN hx (l:=sU) (g:=g) (.cons (XJ hx g) (.cons (ai8 hx g) (.cons (aj1 hx g) (.cons (aM7 hx g) (.cons (o91 hx g true) (.cons (o91 hx g false) .nil))))))
theorem Ny {m j:Nat}(h:gU A (gl sU) bE W7 [] [] 40 a59 (NX m j)=true):(NX m j).ok (aD xs g) A:=oq (Ko hx g) aT qR rfl rfl h
theorem o59 (m j:Nat)(h:(m,j) ∈ XC):(NX m j).ok (aD xs g) A:=by
 simp only [XC,C6,Prod.mk.injEq,List.not_mem_nil,or_false] at h
 rcases h with ⟨rfl,rfl⟩|⟨rfl,rfl⟩|⟨rfl,rfl⟩|⟨rfl,rfl⟩|⟨rfl,rfl⟩|⟨rfl,rfl⟩
 ·exact Ny hx g Xs
 ·exact Ny hx g Xt
 ·exact Ny hx g Xu
 ·exact Ny hx g Xv
 ·exact Ny hx g Xw
 ·exact Ny hx g Xx
theorem QH:ee (aD xs g) A gW:=by
 intro B f args H l outs h vs hB az Hc ha hH;unfold gW at h;split at h
 ·rename_i o o1 o2 o3 p vw o5
  split at h
  ·rename_i hc
   simp only [b5] at hc;obtain ⟨⟨⟨⟨⟨c1,c2⟩,c3⟩,c4⟩,c5⟩,c6⟩:=hc;have c1:=b9 c1;subst c1;rw [Pt c2];split at h
   ·rename_i mj hf
    obtain ⟨m,j⟩:=mj;have hm:=List.mem_of_find?_eq_some hf;have hq:(r9 o (9 * j)&&q6.le (fun _ _=>false) B vw (ZG m))=true:=by have:=List.find?_some hf;exact this
    simp only [b5] at hq;have e:=b9 hq.1;subst e;cases h;simp only [H6.g] at hH;obtain ⟨k0,_,rfl,g0,K1,_,rfl,g1,K2,_,rfl,g2,K3,_,rfl,g3,V,_,rfl,g4,K5,_,rfl,g5,rfl⟩:=hH;obtain ⟨cs,rfl,g4,_⟩:=g4;have g4:=q6.bw hB (C:=aD xs g) (fact:=fun _ _=>false) (fun k ds h=>by cases h) _ hq.2 g4
    let I:Inhabited NM:=⟨⟨fun k o=>o=(match k with|5=>K1|6=>K2|7=>K3|_=>K5)⟩⟩
    obtain ⟨d1,d2⟩:= @o59 I xs hx g m j hm;have hcl:=d1;simp only [Spec.cl,b5] at hcl;have hvc:q6.cl (ZG m)=true:=by
     have:=hcl.1.2;simp only [NX,UK,H6.cl,SO.cl,b5] at this;exact this.2.2.2.2.1
    obtain ⟨v,H1,⟨out,m1,m2,m3⟩,hp⟩:=d2 az [k0,K1,K2,K3,.cells cs,K5] (by
     simp only [NX,q6.g,SV.g] at ha ⊢;obtain ⟨a0,_,rfl,h0,a1,_,rfl,h1,rfl⟩:=ha;exact ⟨_,_,rfl,h0,_,_,rfl,h1,rfl⟩) (by
     simp only [NX,UK,H6.g];exact ⟨_,_,rfl,g0,_,_,rfl,⟨rfl,vG c3 g1⟩,_,_,rfl,⟨rfl,vG c4 g2⟩,_,_,rfl,⟨rfl,vG c5 g3⟩,_,_,rfl,⟨_,rfl,q6.bu _ hvc (q6.jF (C:= @aD J xs g) (D:= @aD I xs g) rfl rfl _ g4),fun k h=>by cases h⟩,_,_,rfl,⟨rfl,vG c6 g5⟩,rfl⟩)
    obtain ⟨q,q1,rfl⟩:=List.mem_map.1 m1;have hoc:=List.all_eq_true.1 hcl.2 _ m1;simp only [b5,UK,L6,List.nil_append,H6.cl,SO.cl] at hoc;simp only [UK,L6,List.nil_append,H6.g] at m3;obtain ⟨k0',_,rfl,e0,_,_,rfl,⟨e1,_⟩,_,_,rfl,⟨e2,_⟩,_,_,rfl,⟨e3,_⟩,_,_,rfl,e4,_,R,rfl,⟨e5,_⟩,e6⟩:=m3;obtain ⟨cs',rfl,e4,_⟩:=e4;have e1:_=K1:=e1;have e2:_=K2:=e2;have e3:_=K3:=e3;have e5:_=K5:=e5;subst e1 e2 e3 e5;refine ⟨v,_,⟨_,List.mem_map.2 ⟨q,q1,rfl⟩,?_,?_⟩,hp⟩
    ·simp only [SV.g] at m2 ⊢
     exact m2
    ·simp only [UK,L6,List.nil_append,H6.g]
     refine ⟨_,_,rfl,e0,_,_,rfl,g1,_,_,rfl,g2,_,_,rfl,g3,_,_,rfl,⟨_,rfl,q6.bu _ hoc.2.2.2.2.2.1 (q6.jF (C:= @aD I xs g) (D:= @aD J xs g) rfl rfl _ e4),fun k h=>by cases h⟩,_,_,rfl,g5,?_⟩;have DM:q.2.all SO.plain=true:=by
      have:OF.all (fun q=>q.2.all SO.plain)=true:=rfl;exact List.all_eq_true.1 this q q1
     have hrc:=hoc.2.2.2.2.2.2.2;clear m1 hoc q1 hp m2;revert R;generalize q.2=l at DM hrc;intro R
     induction l generalizing R with
     |nil=>intro h;simpa only [H6.g] using h
     |cons x l ih =>
      intro h;simp only [List.all_cons,b5] at DM;simp only [H6.cl,b5] at hrc;simp only [H6.g] at h ⊢;obtain ⟨y,ys,rfl,y1,y2⟩:=h;exact ⟨y,ys,rfl,SO.bu _ hrc.1 (SO.jF (C:= @aD I xs g) (D:= @aD J xs g) rfl rfl DM.1 y1),ih DM.2 hrc.2 _ y2⟩
   ·cases h
  ·cases h
 ·cases h
end
def rE (n m:Nat):List SD:=[.slice none n n SC,.slice none m m Qu,l6 r2,l6 r3,l6 r4,l6 r5,l6 r6,l6 r7]
def FB (n m:Nat):Sh.Spec:=⟨24,[.ptr 0 0,.agg none ((rE n m).map .d)],[.pr 0],l1,[(.agg none (YB.map .d),[.pr 0])]⟩
theorem vz [J:Inhabited NM] {xs:List Int}(hx:xs.length<=35184372088832)(g:m8){n m:Nat}(h:gU A (cT gW (gl sU)) bE W7 [] [] 40 a24 (FB n m)=true):(FB n m).ok (aD xs g) A:=oq (jQ (QH hx g) (Ko hx g)) aT qR rfl rfl h
end Go.Proofs.YtkmclibmmlgogaaGreat


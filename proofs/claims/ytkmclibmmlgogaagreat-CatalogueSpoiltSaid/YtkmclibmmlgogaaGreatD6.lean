/- Texts D17 D16 D18 D19 (made short by a program) -/
import Derived.Test.YtkmclibmmlgogaaGreatD5
set_option linter.unusedVariables false
set_option linter.unusedSimpArgs false
open Bool renaming and_eq_true → b5, false_eq_true → b7, not_eq_false' → A9, not_eq_true' → j5
open List renaming drop_of_length_le → k9
open Nat renaming le_refl → n5, lt_or_ge → u9
namespace Go.Proofs.YtkmclibmmlgogaaGreat
open Go.y3 Go.y3.S
attribute [local irreducible] Rx Ry Rn Ex Pf
def U7 (c:m8)(k:Nat):Vw:=nth c.views (k - c.j3.length)
def lT (c:m8)(k:Nat):List Int:=nth (tV c k) (D5 c (U7 c k).left k).toNat
def rT (c:m8)(k:Nat):List Int:=if J2 (U7 c k).right [] then [] else nth (tV c k) (D5 c (U7 c k).right k).toNat
def V3 (c:m8)(k:Nat):Int :=
 if !n7 (U7 c k).kind 0 2 then 1
 else if C9 (D5 c (U7 c k).left k) 0||(!J2 (U7 c k).right []&&C9 (D5 c (U7 c k).right k) 0) then 7
 else if !cH (U7 c k) then 1
 else if o9 (U7 c k).kind 2 then (if !U4 o9 (lT c k) (rT c k) then 5 else 0)
 else if !o9 (I5 (lT c k) (rT c k) (U7 c k).on) 0 then I5 (lT c k) (rT c k) (U7 c k).on
 else if C9 0 (U7 c k).wh.length&& !o9 (F8 (U7 c k).wh (ins c k)).2 0 then (F8 (U7 c k).wh (ins c k)).2
 else if C9 0 (U7 c k).wh.length&& !o9 (F8 (U7 c k).wh (ins c k)).1 1 then 5
 else V4 (ins c k) [] (X1 (U7 c k))
set_option maxHeartbeats 16000000 in
theorem aO0 (c:m8)(hs:B6 c)(k:Nat)(hk:c.j3.length<=k)(hk2:k<m8.ns c)(ho:oM c k):Pf A 66 [cat c,.d (num k)] (.d (num (V3 c k))):=by
 have cz:m8.ns c<=2000:=by obtain ⟨f0,f1,_⟩:=hs.sm.fI;unfold m8.ns;omega
 have Tq:m8.ns c=c.j3.length+c.views.length:=rfl;have hv:k - c.j3.length<c.views.length:=by omega
 have Xa:(U7 c k).items.length<=1000:=hs.items _ hv;have Ve:(U7 c k).C1.length<=1000:=hs.C1 _ hv;have hv3:(U7 c k).on.length<=1000:=hs.on _ hv;have hv4:(U7 c k).wh.length<=1000:=hs.wh _ hv;have MQ:nth c.views (k - c.j3.length)=U7 c k:=rfl;have p1:=vu c (U7 c k).left k hs.sm.fI (by omega);have p2:=vu c (U7 c k).right k hs.sm.fI (by omega);have p3:=aO5 c (U7 c k) Xa Ve;have b1:=I6 c (U7 c k).left k;have b2:=I6 c (U7 c k).right k;refine Pf.run [cat c,.d (num k),.any,.any,.any,.any,.any,.any,.any,.any,.any,.any,.any] rfl rfl rfl rfl ?_
 repeat' (first|refine Xe (e:=(k:Int) - (c.j3.length:Int)) (k - c.j3.length) (h2:= ?_)|refine gx ?_|fail)
 rw [MQ];refine tB (!n7 (U7 c k).kind 0 2) ?_ (fun h1=> ?_) (fun h1=> ?_)
 ·repeat' (first|refine cl (qa _ _ _) ?_|refine gx ?_|refine fk (h1:=fun hw=> ?_) (h2:=fun hw=> ?_)|refine L7 (h1:=fun hw=> ?_) (h2:=fun hw=> ?_)|refine ⟨rfl,rfl,_,rfl,?_⟩|refine ⟨rfl,rfl⟩|fail)
  all_goals exact cc
 ·refine gr ?_
  exact ⟨_,rfl,by unfold V3;rw [h1];rfl⟩
 repeat' (first|refine cl (p1) ?_|refine cl (p2) ?_|refine gx ?_|fail)
 refine tb (C9 (D5 c (U7 c k).left k) 0||(!J2 (U7 c k).right []&&C9 (D5 c (U7 c k).right k) 0)) (fun h2=> ?_) (fun h2=> ?_)
 ·refine gr ?_
  exact ⟨_,rfl,by unfold V3;rw [h1,h2];rfl⟩
 have Tc :=h2;simp only [Bool.or_eq_false_iff] at Tc;have f1:=y8 Tc.1;have f2:J2 (U7 c k).right []=false->0<=D5 c (U7 c k).right k:=fun h=>by
  have:=Tc.2;simp only [h,Bool.not_false,Bool.true_and] at this;exact y8 this
 have Vc:oM c (k+1):=fun m h h' =>by
  rcases u9 m k with h3|h3
  ·exact ho m h h3
  ·obtain rfl:m=k:=by omega
   exact ⟨f1,f2⟩
 obtain ⟨q1,e1⟩:∃ q:Nat,D5 c (U7 c k).left k=q:=⟨_,(Int.toNat_of_nonneg f1).symm⟩;have t1:=(gR c hs (k+1) q1 (by omega) (by omega) Vc).1;have ti:=(gR c hs (k+1) k (by omega) (by omega) Vc).2 hk;have l1:=P7 hs (k+1) q1 (by omega) (by omega) Vc;have eL:lT c k=R3 c q1:=by unfold lT;rw [e1,Int.toNat_natCast,W3 c (by omega)]
 refine tB (!cH (U7 c k)) ?_ (fun h3=> ?_) (fun h3=> ?_)
 ·repeat' (first|refine cl (p3) ?_|refine gx ?_|refine fk (h1:=fun hw=> ?_) (h2:=fun hw=> ?_)|refine L7 (h1:=fun hw=> ?_) (h2:=fun hw=> ?_)|refine ⟨rfl,rfl,_,rfl,?_⟩|refine ⟨rfl,rfl⟩|fail)
  all_goals exact cc
 ·refine gr ?_
  exact ⟨_,rfl,by unfold V3;rw [h1,h2,h3];rfl⟩
 rw [e1]
 repeat' (first|refine cl (t1) ?_|refine gx ?_|fail)
 refine Ex.YX (fun s=>∃ (w6 w8:b6),s=⟨[cat c,.d (num k),.ptr 0 0,.d (num 0),.ptr 1 0,.d (num q1),w6,.d (ints (R3 c q1)),w8,.any,.any,.any,.any],[.cells (c.enc.map .d),.cells ((U7 c k).enc.map .d)]⟩/\w8.G4= .d (ints (rT c k))/\(rT c k).length<=2000) ?_ ?_
 ·skip
  refine tb (!J2 (U7 c k).right []) (fun h4=> ?_) (fun h4=> ?_)
  ·simp only [j5] at h4
   obtain ⟨q2,e2⟩:∃ q:Nat,D5 c (U7 c k).right k=q:=⟨_,(Int.toNat_of_nonneg (f2 h4)).symm⟩;have t2:=(gR c hs (k+1) q2 (by omega) (by omega) Vc).1;have l2:=P7 hs (k+1) q2 (by omega) (by omega) Vc;have eR:rT c k=R3 c q2:=by unfold rT;rw [h4,e2,if_neg (by simp),Int.toNat_natCast,W3 c (by omega)]
   rw [e2]
   repeat' (first|refine cl (t2) ?_|refine gx ?_|fail)
   exact ⟨_,_,rfl,by rw [eR];rfl,by rw [eR];exact l2⟩
  ·simp only [A9] at h4
   have eR:rT c k=[]:=by unfold rT;rw [h4,if_pos rfl]
   refine gr ?_;exact ⟨_,_,rfl,by rw [eR];rfl,by rw [eR];simp⟩
 rintro _ ⟨w6,w8,rfl,hw8,lR⟩;have hin:(ins c k).length<=100000:=by
  have:ins c k=lT c k++rT c k:=rfl;rw [this,eL];simp;omega
 have pS:=aO6 (R3 c q1) (rT c k) (by omega);have pP:=aO7 (U7 c k).on (R3 c q1) (rT c k) hv3 (by omega) (by omega);have pW:=Kc (U7 c k).wh (ins c k) hv4 hin;have pC:=aj5 (U7 c k) (ins c k) Xa Ve hin (fun i h=>hs.AN _ i hv h) (fun i h=>hs.Mu _ i hv h);have eL' :=eL.symm;rw [eL'];rw [<- eL] at pS pP;clear p1 p2 p3 t1 eL' eL;refine gr ?_;refine tb (o9 (U7 c k).kind 2) (fun h5=> ?_) (fun h5=> ?_)
 ·refine gr ?_
  refine tB (!U4 o9 (lT c k) (rT c k)) ?_ (fun h6=> ?_) (fun h6=> ?_)
  ·repeat' (first|refine mvS hw8 ?_|refine cl (pS) ?_|refine gx ?_|refine fk (h1:=fun hw=> ?_) (h2:=fun hw=> ?_)|refine L7 (h1:=fun hw=> ?_) (h2:=fun hw=> ?_)|refine ⟨rfl,rfl,_,rfl,?_⟩|refine ⟨rfl,rfl⟩|fail)
   all_goals exact cc
  ·refine gr ?_
   exact ⟨_,rfl,by unfold V3;rw [h1,h2,h3,h5,h6];rfl⟩
  ·refine gr ?_
   exact ⟨_,rfl,by unfold V3;rw [h1,h2,h3,h5,h6];rfl⟩
 repeat' (first|refine mvS hw8 ?_|refine cl (pP) ?_|refine gx ?_|fail)
 refine tb (!o9 (I5 (lT c k) (rT c k) (U7 c k).on) 0) (fun h6=> ?_) (fun h6=> ?_)
 ·refine gr ?_
  exact ⟨_,rfl,by unfold V3;rw [h1,h2,h3,h5,h6];rfl⟩
 repeat' (first|refine cl (ti) ?_|refine gx ?_|fail)
 refine tb (C9 0 (U7 c k).wh.length) (fun h7=> ?_) (fun h7=> ?_)
 ·repeat' (first|refine cl (pW) ?_|refine gx ?_|fail)
  refine tb (!o9 (F8 (U7 c k).wh (ins c k)).2 0) (fun h8=> ?_) (fun h8=> ?_)
  ·refine gr ?_
   exact ⟨_,rfl,by unfold V3;rw [h1,h2,h3,h5,h6,h7,h8];rfl⟩
  refine gr ?_;refine tb (!o9 (F8 (U7 c k).wh (ins c k)).1 1) (fun h9=> ?_) (fun h9=> ?_)
  ·refine gr ?_
   exact ⟨_,rfl,by unfold V3;rw [h1,h2,h3,h5,h6,h7,h8,h9];rfl⟩
  repeat' (first|refine cl (pC) ?_|refine gx ?_|fail)
  exact ⟨_,rfl,by unfold V3;rw [h1,h2,h3,h5,h6,h7,h8,h9];rfl⟩
 ·repeat' (first|refine cl (pC) ?_|refine gx ?_|fail)
  exact ⟨_,rfl,by unfold V3;rw [h1,h2,h3,h5,h6,h7];rfl⟩
def jT (c:m8)(name:D8)(col:Int):Int×Int :=
 if C9 (D5 c name (m8.ns c)) 0 then (0,7)
 else if !n7 col 0 ((R3 c (D5 c name (m8.ns c)).toNat).length - 1) then (0,3)
 else (nth (R3 c (D5 c name (m8.ns c)).toNat) col.toNat,0)
theorem Iz {c:m8}(hs:B6 c):m8.ns c<=2000:=by obtain ⟨f0,f1,_⟩:=hs.sm.fI;unfold m8.ns;omega
theorem PY (c:m8)(hs:B6 c)(ho:oM c (m8.ns c))(name:D8)(col:Int):Pf A 103 [cat c,.d (.str name),.d (num col)] (.tuple [.d (num (jT c name col).1),.d (num (jT c name col).2)]):=by
 have cz:=Iz hs;have Tq:m8.ns c=c.j3.length+c.views.length:=rfl;have p1:=vu c name (m8.ns c) hs.sm.fI (by omega);have b1:=I6 c name (m8.ns c);refine Pf.run [cat c,.d (.str name),.d (num col),.any,.any,.any,.any,.any] rfl rfl rfl rfl ?_
 repeat' (first|refine cl (p1) ?_|refine gx ?_|fail)
 refine tb (C9 (D5 c name (m8.ns c)) 0) (fun h1=> ?_) (fun h1=> ?_)
 ·refine gr ?_
  exact ⟨_,rfl,by simp only [jT,h1,if_true];rfl⟩
 have h2:=y8 h1;obtain ⟨q,e1⟩:∃ q:Nat,D5 c name (m8.ns c)=q:=⟨_,(Int.toNat_of_nonneg h2).symm⟩;have t1:=(gR c hs (m8.ns c) q (by omega) (by omega) ho).1;have l1:=P7 hs (m8.ns c) q (by omega) (by omega) ho;rw [e1] at h1 ⊢
 repeat' (first|refine cl (t1) ?_|refine gx ?_|fail)
 refine tB (!n7 col 0 ((R3 c q).length - 1)) ?_ (fun h3=> ?_) (fun h3=> ?_)
 ·repeat' (first|refine cl (qa _ _ _) ?_|refine gx ?_|refine fk (h1:=fun hw=> ?_) (h2:=fun hw=> ?_)|refine L7 (h1:=fun hw=> ?_) (h2:=fun hw=> ?_)|refine ⟨rfl,rfl,_,rfl,?_⟩|refine ⟨rfl,rfl⟩|fail)
  all_goals exact cc
 ·refine gr ?_
  exact ⟨_,rfl,by simp only [jT,e1,h1,Int.toNat_natCast,h3,b7,if_false,if_true];rfl⟩
 have h4:=h3;simp [n7,p4] at h4;refine gr ?_;exact ⟨_,rfl,by simp only [jT,e1,h1,Int.toNat_natCast,h3,b7,if_false];rfl⟩
def skt (x:iq):b6:= .agg (x.enc.map .d)
def rls (x:jx):b6:= .agg (x.enc.map .d)
def bkp (x:lQ):b6:= .agg (x.enc.map .d)
def Dn (x:iq):Bool:= !n7 x.kind 0 2|| !n7 x.width 1 1024|| !n7 x.depth 1 8||(o9 x.kind 2&& !o9 x.depth 1)||C9 1024 (x.width * x.depth)
def Aj (c:m8)(x:iq):Int:=if !o9 (jT c x.source x.col).2 0 then (jT c x.source x.col).2 else if Dn x then 1 else 0
set_option maxHeartbeats 8000000 in
theorem aj6 (c:m8)(hs:B6 c)(ho:oM c (m8.ns c))(x:iq):Pf A 104 [cat c,skt x] (.d (num (Aj c x))):=by
 have p1:=PY c hs ho x.source x.col;refine Pf.run [cat c,skt x,.any,.any,.any,.any] rfl rfl rfl rfl ?_
 repeat' (first|refine cl (p1) ?_|refine gx ?_|fail)
 refine tb (!o9 (jT c x.source x.col).2 0) (fun h1=> ?_) (fun h1=> ?_)
 ·refine gr ?_
  exact ⟨_,rfl,by simp only [Aj,h1,if_true];rfl⟩
 refine gr ?_;cases hW:n7 x.width 1 1024 with
 |false =>
  refine tB (true) ?_ (fun h2=> ?_) (fun h2=> ?_)
  ·repeat' (first|refine cl (qa _ _ _) ?_|refine gx ?_|refine fk (h1:=fun hw=> ?_) (h2:=fun hw=> ?_)|refine L7 (h1:=fun hw=> ?_) (h2:=fun hw=> ?_)|refine ⟨rfl,rfl,_,rfl,?_⟩|refine ⟨rfl,rfl⟩|fail)
   all_goals first|(simp [*,b8,hW];done)|(simp_all [b8,hW];done)|(simp_all [b8,hW,p5,p4,j9,B8];done)|(simp_all [b8,hW,p5,p4,j9,B8]<;>omega)
  ·refine gr ?_
   exact ⟨_,rfl,by simp [Aj,h1,Dn,hW,b8,num]⟩
  ·cases h2
 |true =>
 cases hD:n7 x.depth 1 8 with
 |false =>
  refine tB (true) ?_ (fun h2=> ?_) (fun h2=> ?_)
  ·repeat' (first|refine cl (qa _ _ _) ?_|refine gx ?_|refine fk (h1:=fun hw=> ?_) (h2:=fun hw=> ?_)|refine L7 (h1:=fun hw=> ?_) (h2:=fun hw=> ?_)|refine ⟨rfl,rfl,_,rfl,?_⟩|refine ⟨rfl,rfl⟩|fail)
   all_goals first|(simp [*,b8,hW,hD];done)|(simp_all [b8,hW,hD];done)|(simp_all [b8,hW,hD,p5,p4,j9,B8];done)|(simp_all [b8,hW,hD,p5,p4,j9,B8]<;>omega)
  ·refine gr ?_
   exact ⟨_,rfl,by simp [Aj,h1,Dn,hD,b8,num]⟩
  ·cases h2
 |true =>
 have hm: -9223372036854775808<=x.width * x.depth/\x.width * x.depth<9223372036854775808:=by
  simp [n7,p4] at hW hD;have m1:=Int.mul_le_mul hW.2 hD.2 (by omega) (by omega);have m2:=Int.mul_nonneg (a:=x.width) (b:=x.depth) (by omega) (by omega);omega
 refine tB (Dn x) ?_ (fun h2=> ?_) (fun h2=> ?_)
 ·repeat' (first|refine cl (qa _ _ _) ?_|refine mu (h0:=hm) ?_|refine gx ?_|refine fk (h1:=fun hw=> ?_) (h2:=fun hw=> ?_)|refine L7 (h1:=fun hw=> ?_) (h2:=fun hw=> ?_)|refine ⟨rfl,rfl,_,rfl,?_⟩|refine ⟨rfl,rfl⟩|fail)
  all_goals first|(simp [*,b8,Dn,hW,hD];done)|(simp_all [b8,Dn,hW,hD];done)|(simp_all [b8,Dn,hW,hD,p5,p4,j9,B8];done)|(simp_all [b8,Dn,hW,hD,p5,p4,j9,B8]<;>omega)
 ·refine gr ?_
  exact ⟨_,rfl,by simp only [Aj,h1,h2,b7,if_false,if_true];rfl⟩
 ·refine gr ?_
  exact ⟨_,rfl,by simp only [Aj,h1,h2,b7,if_false];rfl⟩
def Fw (c:m8)(x:jx):Int :=
 if C9 (D5 c x.source (m8.ns c)) c.j3.length then 7
 else if !o9 (nth c.views (D5 c x.source (m8.ns c) - c.j3.length).toNat).kind 1|| !o9 (nth (nth c.views (D5 c x.source (m8.ns c) - c.j3.length).toNat).C1 0).func 0|| !n7 x.VX 1 1024 then 1 else 0
set_option maxHeartbeats 8000000 in
theorem aj7 (c:m8)(hs:B6 c)(hg:∀ k,k<c.views.length->(nth c.views k).kind≠1\/0<(nth c.views k).C1.length)(x:jx):Pf A 105 [cat c,rls x] (.d (num (Fw c x))):=by
 have cz:=Iz hs;have Tq:m8.ns c=c.j3.length+c.views.length:=rfl;have p1:=vu c x.source (m8.ns c) hs.sm.fI (by omega);have b1:=I6 c x.source (m8.ns c);refine Pf.run [cat c,rls x,.any,.any,.any,.any,.any] rfl rfl rfl rfl ?_
 repeat' (first|refine cl (p1) ?_|refine gx ?_|fail)
 refine tb (C9 (D5 c x.source (m8.ns c)) c.j3.length) (fun h1=> ?_) (fun h1=> ?_)
 ·refine gr ?_
  exact ⟨_,rfl,by simp only [Fw,h1,if_true];rfl⟩
 have h2:=y8 h1;have h3:=hg (D5 c x.source (m8.ns c) - c.j3.length).toNat (by omega);refine gr ?_;refine tB (!o9 (nth c.views (D5 c x.source (m8.ns c) - c.j3.length).toNat).kind 1|| !o9 (nth (nth c.views (D5 c x.source (m8.ns c) - c.j3.length).toNat).C1 0).func 0|| !n7 x.VX 1 1024) ?_ (fun h4=> ?_) (fun h4=> ?_)
 ·repeat' (first|refine cl (qa _ _ _) ?_|refine gx ?_|refine fk (h1:=fun hw=> ?_) (h2:=fun hw=> ?_)|refine L7 (h1:=fun hw=> ?_) (h2:=fun hw=> ?_)|refine ⟨rfl,rfl,_,rfl,?_⟩|refine ⟨rfl,rfl⟩|fail)
  all_goals exact cc
 ·refine gr ?_
  exact ⟨_,rfl,by simp only [Fw,h1,h4,b7,if_false,if_true];rfl⟩
 ·refine gr ?_
  exact ⟨_,rfl,by simp only [Fw,h1,h4,b7,if_false];rfl⟩
def UP (c:m8):List D8->List D8->Int
 |_,[]=>0
 |seen,t::r=>if C9 (dZ c t c.j3.length) 0 then 7 else if seen.any fun y=>J2 y t then 4 else UP c (seen++[t]) r
def DZ (c:m8)(x:lQ):Int:=if o9 x.tables.length 0|| !n7 x.keep 1 1048576 then 1 else UP c [] x.tables
set_option maxHeartbeats 8000000 in
theorem aj8 (c:m8)(hf:c.fI)(x:lQ)(hx:x.tables.length<=1000):Pf A 107 [cat c,bkp x] (.d (num (DZ c x))):=by
 have hn:c.j3.length<=1000:=hf.1;refine Pf.run [cat c,bkp x,.any,.any,.any,.any,.any] rfl rfl rfl rfl ?_;refine gr ?_;refine tB (o9 x.tables.length 0|| !n7 x.keep 1 1048576) ?_ (fun h1=> ?_) (fun h1=> ?_)
 ·repeat' (first|refine cl (qa _ _ _) ?_|refine gx ?_|refine fk (h1:=fun hw=> ?_) (h2:=fun hw=> ?_)|refine L7 (h1:=fun hw=> ?_) (h2:=fun hw=> ?_)|refine ⟨rfl,rfl,_,rfl,?_⟩|refine ⟨rfl,rfl⟩|fail)
  all_goals exact cc
 ·refine gr ?_
  exact ⟨_,rfl,by simp only [DZ,h1,if_true];rfl⟩
 refine gr ?_;refine Ex.J0 (fun k T H=>∃ (i:Nat) (w0 w1 w4 w6:b6),T=[w0,w1,.ptr 0 0,.ptr 1 0,w4,.d (num i),w6]/\H=[.cells (c.enc.map .d),.cells (x.enc.map .d)]/\i+k=x.tables.length/\DZ c x=UP c (x.tables.take i) (x.tables.drop i)) (by rintro _ _ _ ⟨_,_,_,_,_,_,rfl,_⟩;rfl) ?_ (k:=x.tables.length) ⟨0,_,_,_,_,rfl,rfl,by simp,by simp [DZ,h1]⟩;rintro k _ _ ⟨i,w0,w1,w4,w6,rfl,rfl,hk,hi⟩;refine Ex.nT ?_;refine Ex.seq ?_;refine tb (C9 i x.tables.length) (fun h2=> ?_) (fun h2=> ?_)
 ·have h3:=y9 h2
  rw [A2 (by omega)] at hi;have p1:=PZ c (nth x.tables i) c.j3.length hf (by omega);refine gr ?_;refine tB (C9 (dZ c (nth x.tables i) c.j3.length) 0) ?_ (fun h4=> ?_) (fun h4=> ?_)
  ·repeat' (first|refine cl (p1) ?_|refine gx ?_|refine fk (h1:=fun hw=> ?_) (h2:=fun hw=> ?_)|refine L7 (h1:=fun hw=> ?_) (h2:=fun hw=> ?_)|refine ⟨rfl,rfl,_,rfl,?_⟩|refine ⟨rfl,rfl⟩|fail)
   all_goals exact cc
  ·refine gr ?_
   exact ⟨_,rfl,by rw [hi];simp only [UP,h4,if_true];rfl⟩
  refine gr ?_;refine Ex.J0 (fun k T H=>∃ (j:Nat) (w0 w1 w4:b6),T=[w0,w1,.ptr 0 0,.ptr 1 0,w4,.d (num i),.d (num j)]/\H=[.cells (c.enc.map .d),.cells (x.enc.map .d)]/\j+k=i/\((x.tables.take i).any fun y=>J2 y (nth x.tables i))=(((x.tables.take i).drop j).any fun y=>J2 y (nth x.tables i))) (by rintro _ _ _ ⟨_,_,_,_,_,rfl,_⟩;rfl) ?_ (k:=i) ⟨0,_,_,_,rfl,rfl,by simp,by simp⟩;rintro k2 _ _ ⟨j,w0,w1,w4,rfl,rfl,hk2,hj⟩;refine Ex.nT ?_;refine Ex.seq ?_;refine tb (C9 j i) (fun h5=> ?_) (fun h5=> ?_)
  ·have h6:=y9 h5
   rw [jm (by omega) (by omega)] at hj
   repeat' (first|refine gx ?_|refine Ex.H7 ?_|refine Ex.H8 ?_|refine Ex.cond rfl (fun ht=> ?_) (fun ht=> ?_)|refine Ex.test (Rn.text ?_)|refine Ex.test (Rn.draw ?_)|refine ⟨_,rfl,fun ht=> ?_,fun ht=> ?_⟩|refine ⟨_,rfl,?_⟩|fail)
   ·have g2:((x.tables.take i).any fun y=>J2 y (nth x.tables i))=true:=by rw [hj];simp [ht]
    rw [hi];simp only [UP,h4,g2,b8,num,b7,if_true,if_false]
   ·exact ⟨k2 - 1,by omega,j+1,_,_,_,rfl,rfl,by omega,by rw [hj];simp [ht]⟩
  have h6:=y8 h5;rw [k9 (by simp;omega)] at hj;have g2:((x.tables.take i).any fun y=>J2 y (nth x.tables i))=false:=by rw [hj];rfl
  refine gr ?_;refine ⟨k - 1,by omega,i+1,_,_,_,_,rfl,rfl,by omega,?_⟩;rw [hi,F7 (by omega)];simp only [UP,h4,g2,b7,if_false]
 ·have h3:=y8 h2
  rw [k9 (by omega)] at hi;refine gr ?_;exact ⟨_,rfl,by rw [hi];rfl⟩
def MS (c:m8)(x:iC):Int:=if o9 (jT c x.source x.col).2 0&& !o9 (jT c x.source x.col).1 2 then 5 else (jT c x.source x.col).2
def Mx (c:m8)(x:kj):Int:=if o9 (jT c x.source x.col).2 0&& !n7 x.ttl 1 1048576 then 1 else (jT c x.source x.col).2
def NC (c:m8)(x:lS):Int:=if C9 (dZ c x.table c.j3.length) 0 then 7 else 0
def U3 (c:m8)(n:Nat):Int :=
 if n<c.idxs.length then MS c (nth c.idxs n)
 else if n - c.idxs.length<c.E7.length then Aj c (nth c.E7 (n - c.idxs.length))
 else if n - c.idxs.length - c.E7.length<c.F1.length then Mx c (nth c.F1 (n - c.idxs.length - c.E7.length))
 else if n - c.idxs.length - c.E7.length - c.F1.length<c.I9.length then Fw c (nth c.I9 (n - c.idxs.length - c.E7.length - c.F1.length))
 else if n - c.idxs.length - c.E7.length - c.F1.length - c.I9.length<c.K9.length then NC c (nth c.K9 (n - c.idxs.length - c.E7.length - c.F1.length - c.I9.length))
 else DZ c (nth c.M7 (n - c.idxs.length - c.E7.length - c.F1.length - c.I9.length - c.K9.length))
set_option maxHeartbeats 16000000 in
theorem aO1 (c:m8)(hs:B6 c)(ho:oM c (m8.ns c))(hg:∀ k,k<c.views.length->(nth c.views k).kind≠1\/0<(nth c.views k).C1.length)(n:Nat)(hn:n<c.idxs.length+c.E7.length+c.F1.length+c.I9.length+c.K9.length+c.M7.length) :
  Pf A 67 [cat c,.d (num n)] (.d (num (U3 c n))):=by
 obtain ⟨f0,f1,f2,f3,f4,f5,f6,f7⟩:=hs.sm.fI;refine Pf.run [cat c,.d (num n),.any,.any,.any,.any,.any] rfl rfl rfl rfl ?_;refine gr ?_;refine tb (C9 n c.idxs.length) (fun h1=> ?_) (fun h1=> ?_)
 ·have h1' :=y9 h1
  have p1:=PY c hs ho (nth c.idxs n).source (nth c.idxs n).col;have e1:U3 c n=MS c (nth c.idxs n):=by unfold U3;rw [if_pos (by omega)]
  repeat' (first|refine cl (p1) ?_|refine gx ?_|fail)
  refine tb (o9 (jT c (nth c.idxs n).source (nth c.idxs n).col).2 0&& !o9 (jT c (nth c.idxs n).source (nth c.idxs n).col).1 2) (fun h2=> ?_) (fun h2=> ?_)
  ·refine gr ?_
   exact ⟨_,rfl,by rw [e1];unfold MS;rw [h2];rfl⟩
  ·refine gr ?_
   exact ⟨_,rfl,by rw [e1];unfold MS;rw [h2];rfl⟩
 have h1' :=y8 h1;refine gr ?_;generalize NT:n - c.idxs.length=m1;have g1:(n:Int) - (c.idxs.length:Int)=(m1:Int):=by omega
 rw [g1];refine tb (C9 m1 c.E7.length) (fun h3=> ?_) (fun h3=> ?_)
 ·have h3' :=y9 h3
  have p1:=aj6 c hs ho (nth c.E7 m1);have e1:U3 c n=Aj c (nth c.E7 m1):=by unfold U3;rw [if_neg (by omega),NT,if_pos (by omega)]
  repeat' (first|refine cl (p1) ?_|refine gx ?_|fail)
  exact ⟨_,rfl,by rw [e1];rfl⟩
 have h3' :=y8 h3;refine gr ?_;generalize hm2:m1 - c.E7.length=m2;have g2:(m1:Int) - (c.E7.length:Int)=(m2:Int):=by omega
 rw [g2];refine tb (C9 m2 c.F1.length) (fun h4=> ?_) (fun h4=> ?_)
 ·have h4' :=y9 h4
  have p1:=PY c hs ho (nth c.F1 m2).source (nth c.F1 m2).col;have e1:U3 c n=Mx c (nth c.F1 m2):=by unfold U3;rw [if_neg (by omega),NT,if_neg (by omega),hm2,if_pos (by omega)]
  repeat' (first|refine cl (p1) ?_|refine gx ?_|fail)
  refine tB (o9 (jT c (nth c.F1 m2).source (nth c.F1 m2).col).2 0&& !n7 (nth c.F1 m2).ttl 1 1048576) ?_ (fun h2=> ?_) (fun h2=> ?_)
  ·repeat' (first|refine cl (qa _ _ _) ?_|refine gx ?_|refine fk (h1:=fun hw=> ?_) (h2:=fun hw=> ?_)|refine L7 (h1:=fun hw=> ?_) (h2:=fun hw=> ?_)|refine ⟨rfl,rfl,_,rfl,?_⟩|refine ⟨rfl,rfl⟩|fail)
   all_goals exact cc
  ·refine gr ?_
   exact ⟨_,rfl,by rw [e1];unfold Mx;rw [h2];rfl⟩
  ·refine gr ?_
   exact ⟨_,rfl,by rw [e1];unfold Mx;rw [h2];rfl⟩
 have h4' :=y8 h4;refine gr ?_;generalize hm3:m2 - c.F1.length=m3;have g3:(m2:Int) - (c.F1.length:Int)=(m3:Int):=by omega
 rw [g3];refine tb (C9 m3 c.I9.length) (fun h5=> ?_) (fun h5=> ?_)
 ·have h5' :=y9 h5
  have p1:=aj7 c hs hg (nth c.I9 m3);have e1:U3 c n=Fw c (nth c.I9 m3):=by unfold U3;rw [if_neg (by omega),NT,if_neg (by omega),hm2,if_neg (by omega),hm3,if_pos (by omega)]
  repeat' (first|refine cl (p1) ?_|refine gx ?_|fail)
  exact ⟨_,rfl,by rw [e1];rfl⟩
 have h5' :=y8 h5;refine gr ?_;generalize hm4:m3 - c.I9.length=m4;have g4:(m3:Int) - (c.I9.length:Int)=(m4:Int):=by omega
 rw [g4];refine tb (C9 m4 c.K9.length) (fun h6=> ?_) (fun h6=> ?_)
 ·have h6' :=y9 h6
  have p1:=PZ c (nth c.K9 m4).table c.j3.length hs.sm.fI (by omega);have e1:U3 c n=NC c (nth c.K9 m4):=by unfold U3;rw [if_neg (by omega),NT,if_neg (by omega),hm2,if_neg (by omega),hm3,if_neg (by omega),hm4,if_pos (by omega)]
  refine gr ?_;refine tB (C9 (dZ c (nth c.K9 m4).table c.j3.length) 0) ?_ (fun h2=> ?_) (fun h2=> ?_)
  ·repeat' (first|refine cl (p1) ?_|refine gx ?_|refine fk (h1:=fun hw=> ?_) (h2:=fun hw=> ?_)|refine L7 (h1:=fun hw=> ?_) (h2:=fun hw=> ?_)|refine ⟨rfl,rfl,_,rfl,?_⟩|refine ⟨rfl,rfl⟩|fail)
   all_goals exact cc
  ·refine gr ?_
   exact ⟨_,rfl,by rw [e1];unfold NC;rw [h2];rfl⟩
  ·refine gr ?_
   exact ⟨_,rfl,by rw [e1];unfold NC;rw [h2];rfl⟩
 have h6' :=y8 h6;have hb:=hs.bk (m4 - c.K9.length) (by omega);have p1:=aj8 c hs.sm.fI (nth c.M7 (m4 - c.K9.length)) hb;have e1:U3 c n=DZ c (nth c.M7 (m4 - c.K9.length)):=by unfold U3;rw [if_neg (by omega),NT,if_neg (by omega),hm2,if_neg (by omega),hm3,if_neg (by omega),hm4,if_neg (by omega)]
 repeat' (first|refine cl (p1) ?_|refine Xe (e:=(m4:Int) - (c.K9.length:Int)) (m4 - c.K9.length) (h2:= ?_)|refine gx ?_|fail)
 exact ⟨_,rfl,by rw [e1];rfl⟩
theorem Ex.aq6 {A:Go.y3.Prog}{l:G9}{b:Nat}{c:o8}{st:St}{Q:E4->St->Prop}(P:St->Prop)(h1:Ex A l b c st (xq (fun _ _=>False) P))(h2:∀ s,P s->Q .normal s):Ex A l b c st Q:=by
 refine h1.mono fun x s h=> ?_
 cases x with
 |normal=>exact h2 s h
 |exit i=>exact h.elim
 |ret=>exact h.elim
def AT (a b c d e f:Int):Bool:=C9 16 a||C9 16 b||C9 16 c||C9 16 d||C9 16 e||C9 16 f
def tooMany (c:m8):Bool:=C9 8 c.j3.length||C9 12 c.views.length||AT c.idxs.length c.E7.length c.F1.length c.I9.length c.K9.length c.M7.length
def max2 (x y:Int):Int:=if y>x then y else x
theorem Tw (x y:Int):C9 16 (max2 x y)=(C9 16 x||C9 16 y):=by
 unfold max2;simp only [p5];split
 ·cases h:decide ((16:Int)<x) with
  |false=>simp
  |true=>simp at h ⊢;omega
 ·cases h:decide ((16:Int)<y) with
  |false=>simp
  |true=>simp at h ⊢;omega
theorem Pw (a b c d e f:Int):C9 16 (max2 (max2 (max2 (max2 (max2 a b) c) d) e) f)=AT a b c d e f:=by
 simp only [Tw,AT]
def K7 (c:m8)(i:Nat):Int :=
 if !E3 (nth c.names i) then 3 else if (c.names.take i).any fun y=>J2 y (nth c.names i) then 4
 else if i<c.j3.length then dK c i else if i<m8.ns c then V3 c i else U3 c (i - m8.ns c)
def br (c:m8):Nat->Nat->Int×Int
 |0,_=>(0,0)
 |k+1,i=>if !o9 (K7 c i) 0 then (i,K7 c i) else br c k (i+1)
def L1 (c:m8):Int×Int:=if tooMany c then (0,8) else br c c.names.length 0
theorem kD {c:m8}{m:Nat}(h:K7 c m=0):(!E3 (nth c.names m))=false/\((c.names.take m).any fun y=>J2 y (nth c.names m))=false:=by
 unfold K7 at h;constructor
 ·cases h1:(!E3 (nth c.names m)) with
  |false=>rfl
  |true=>rw [h1] at h;simp at h
 ·cases h1:(!E3 (nth c.names m)) with
  |true=>rw [h1] at h;simp at h
  |false =>
   rw [h1] at h;cases h2:((c.names.take m).any fun y=>J2 y (nth c.names m)) with
   |false=>rfl
   |true=>rw [h2] at h;simp at h
theorem ez {c:m8}{m:Nat}(h:K7 c m=0)(hm:m<c.j3.length):dK c m=0:=by
 obtain ⟨h1,h2⟩:=kD h;unfold K7 at h;rw [h1,h2,if_neg (by simp),if_neg (by simp),if_pos hm] at h;exact h
theorem cw {c:m8}{m:Nat}(h:K7 c m=0)(hm:c.j3.length<=m)(hm2:m<m8.ns c):V3 c m=0:=by
 obtain ⟨h1,h2⟩:=kD h;unfold K7 at h;rw [h1,h2,if_neg (by simp),if_neg (by simp),if_neg (by omega),if_pos hm2] at h;exact h
theorem cU {c:m8}{m:Nat}(h:dK c m=0):0<(nth c.j3 m).m7.length/\(nth c.j3 m).m7.length<=8:=by
 unfold dK at h;split at h
 ·omega
 ·rename_i h1
  simp [n7,p4] at h1;omega
theorem cW {c:m8}{m:Nat}(h:V3 c m=0):n7 (U7 c m).kind 0 2=true/\0<=D5 c (U7 c m).left m/\(J2 (U7 c m).right []=false->0<=D5 c (U7 c m).right m)/\cH (U7 c m)=true:=by
 unfold V3 at h;split at h
 ·omega
 ·rename_i h0
  split at h
  ·omega
  ·rename_i h1
   split at h
   ·omega
   ·rename_i h2
    simp only [Bool.not_eq_true,Bool.or_eq_false_iff] at h1;refine ⟨by simpa using h0,y8 h1.1,fun h3=> ?_,by simpa using h2⟩;have:=h1.2;rw [h3] at this;exact y8 (by simpa using this)
theorem tM {v:Vw}(h:cH v=true):v.kind≠1\/0<v.C1.length:=by
 cases h1:o9 v.kind 1 with
 |false=>exact Or.inl (mz h1)
 |true =>
  right;have h2:=X2 h1;unfold cH at h;have h3:o9 v.kind 2=false:=by rw [h2];simp [j9]
  have h4:o9 v.kind 0=false:=by rw [h2];simp [j9]
  rw [h3,h4] at h;simp only [b7,if_false,b5,j5,Bool.or_eq_false_iff] at h;have:=mz h.1.1;omega
def bW (c:m8)(i:Nat):Prop:=∀ m,m<i->K7 c m=0
theorem U1 {c:m8}{i:Nat}(h:bW c i)(hi:i<=m8.ns c):oM c i:=fun k h1 h2=>by
 have:=cW (cw (h k h2) h1 (by omega));exact ⟨this.2.1,this.2.2.1⟩
theorem T6 (c:m8):c.names.length=m8.ns c+(c.idxs.length+c.E7.length+c.F1.length+c.I9.length+c.K9.length+c.M7.length):=by simp [m8.names,m8.ns];omega
set_option maxHeartbeats 16000000 in
theorem aN5 (c:m8)(hs:B6 c):Pf A 27 [cat c] (pair (L1 c)):=by
 have hnl:=T6 c;have cz:m8.ns c=c.j3.length+c.views.length:=rfl;obtain ⟨f0,f1,f2,f3,f4,f5,f6,f7⟩:=id hs.sm.fI;have Zq:=Pw c.idxs.length c.E7.length c.F1.length c.I9.length c.K9.length c.M7.length;refine Pf.run [cat c,.any,.any,.any,.any,.any,.any,.any] rfl rfl rfl rfl ?_;refine gr ?_;refine tB (tooMany c) ?_ (fun h1=> ?_) (fun h1=> ?_)
 ·repeat' (first|refine mm (d:= .int .i64 (max2 (max2 (max2 (max2 (max2 c.idxs.length c.E7.length) c.F1.length) c.I9.length) c.K9.length) c.M7.length)) ?_|refine gx ?_|refine fk (h1:=fun hw=> ?_) (h2:=fun hw=> ?_)|refine L7 (h1:=fun hw=> ?_) (h2:=fun hw=> ?_)|refine ⟨rfl,rfl,_,rfl,?_⟩|refine ⟨rfl,rfl⟩|fail)
  all_goals first|(simp [*,b8,tooMany,Zq];done)|(simp_all [b8,tooMany,Zq];done)|(simp_all [b8,tooMany,Zq,p5,p4,j9,B8];done)|(simp_all [b8,tooMany,Zq,p5,p4,j9,B8]<;>omega)
 ·refine gr ?_
  exact ⟨_,rfl,by unfold L1;rw [h1];rfl⟩
 repeat' (first|refine cl (an2 c hs.sm.fI) ?_|refine gx ?_|fail)
 refine Ex.J0 (fun k T H=>∃ (i:Nat) (w0 w2 w3 w6 w7:b6),T=[w0,.ptr 0 0,w2,w3,.d (z6 encS c.names),.d (num i),w6,w7]/\H=[.cells (c.enc.map .d)]/\i+k=c.names.length/\bW c i/\L1 c=br c k i) (by rintro _ _ _ ⟨_,_,_,_,_,_,_,rfl,_⟩;rfl) ?_ (k:=c.names.length) ⟨0,_,_,_,_,_,rfl,rfl,by simp,fun m h=>absurd h (by omega),by unfold L1;rw [h1];rfl⟩;rintro k _ _ ⟨i,w0,w2,w3,w6,w7,rfl,rfl,hk,hok,hi⟩;refine Ex.nT ?_;refine Ex.seq ?_;refine tb (C9 i c.names.length) (fun h2=> ?_) (fun h2=> ?_)
 ·have h3:=y9 h2
  obtain ⟨k,rfl⟩:∃ k',k=k' +1:=⟨k - 1,by omega⟩;rw [br] at hi;refine gr ?_;refine tB (!E3 (nth c.names i)) ?_ (fun h4=> ?_) (fun h4=> ?_)
  ·repeat' (first|refine cl (XV _) ?_|refine gx ?_|refine fk (h1:=fun hw=> ?_) (h2:=fun hw=> ?_)|refine L7 (h1:=fun hw=> ?_) (h2:=fun hw=> ?_)|refine ⟨rfl,rfl,_,rfl,?_⟩|refine ⟨rfl,rfl⟩|fail)
   all_goals exact cc
  ·refine gr ?_
   have e1:K7 c i=3:=by unfold K7;rw [h4];rfl
   exact ⟨_,rfl,by rw [hi,e1];simp [j9,pair,b8,b6.G4,num]⟩
  refine gr ?_;refine Ex.J0 (fun k T H=>∃ (j:Nat) (w0 w2 w3 w7:b6),T=[w0,.ptr 0 0,w2,w3,.d (z6 encS c.names),.d (num i),.d (num j),w7]/\H=[.cells (c.enc.map .d)]/\j+k=i/\((c.names.take i).any fun y=>J2 y (nth c.names i))=(((c.names.take i).drop j).any fun y=>J2 y (nth c.names i))) (by rintro _ _ _ ⟨_,_,_,_,_,_,rfl,_⟩;rfl) ?_ (k:=i) ⟨0,_,_,_,_,rfl,rfl,by simp,by simp⟩;rintro k2 _ _ ⟨j,w0,w2,w3,w7,rfl,rfl,hk2,hj⟩;refine Ex.nT ?_;refine Ex.seq ?_;refine tb (C9 j i) (fun h5=> ?_) (fun h5=> ?_)
  ·have h6:=y9 h5
   rw [jm (by omega) (by omega)] at hj
   repeat' (first|refine gx ?_|refine Ex.H7 ?_|refine Ex.H8 ?_|refine Ex.cond rfl (fun ht=> ?_) (fun ht=> ?_)|refine Ex.test (Rn.text ?_)|refine Ex.test (Rn.draw ?_)|refine ⟨_,rfl,fun ht=> ?_,fun ht=> ?_⟩|refine ⟨_,rfl,?_⟩|fail)
   ·have g2:((c.names.take i).any fun y=>J2 y (nth c.names i))=true:=by rw [hj];simp [ht]
    have e1:K7 c i=4:=by unfold K7;rw [h4,g2];rfl
    rw [hi,e1];simp [j9,pair,b8,b6.G4,num]
   ·exact ⟨k2 - 1,by omega,j+1,_,_,_,_,rfl,rfl,by omega,by rw [hj];simp [ht]⟩
  have h6:=y8 h5;rw [k9 (by simp;omega)] at hj;have g2:((c.names.take i).any fun y=>J2 y (nth c.names i))=false:=by rw [hj];rfl
  clear hj hk2 h5 h6;refine gr ?_;refine Ex.aq6 (fun s=>∃ (w0 w2 w3 w6:b6),s=⟨[w0,.ptr 0 0,w2,w3,.d (z6 encS c.names),.d (num i),w6,.d (num (K7 c i))],[.cells (c.enc.map .d)]⟩) ?_ ?_
  ·skip
   refine tb (C9 i c.j3.length) (fun h5=> ?_) (fun h5=> ?_)
   ·have h6:=y9 h5
    have p1:=aN9 c i hs.sm (by omega) (fun m hm=>(cU (ez (hok m hm) (by omega))).1);have e1:K7 c i=dK c i:=by unfold K7;rw [h4,g2,if_neg (by simp),if_neg (by simp),if_pos (by omega)]
    rw [e1]
    repeat' (first|refine cl (p1) ?_|refine gx ?_|fail)
    exact ⟨_,_,_,_,rfl⟩
   have h6:=y8 h5;refine tB (C9 i (m8.ns c)) ?_ (fun h7=> ?_) (fun h7=> ?_)
   ·repeat' (first|refine cl (cz) ?_|refine gx ?_|refine fk (h1:=fun hw=> ?_) (h2:=fun hw=> ?_)|refine L7 (h1:=fun hw=> ?_) (h2:=fun hw=> ?_)|refine ⟨rfl,rfl,_,rfl,?_⟩|refine ⟨rfl,rfl⟩|fail)
    all_goals exact cc
   ·have h8:=y9 h7
    have p1:=aO0 c hs i (by omega) (by omega) (U1 hok (by omega));have e1:K7 c i=V3 c i:=by unfold K7;rw [h4,g2,if_neg (by simp),if_neg (by simp),if_neg (by omega),if_pos (by omega)]
    rw [e1]
    repeat' (first|refine cl (p1) ?_|refine gx ?_|fail)
    exact ⟨_,_,_,_,rfl⟩
   ·have h8:=y8 h7
    have p1:=aO1 c hs (U1 (fun m hm=>hok m (by omega)) (n5 _)) (fun m hm=>by
     have h9:=cW (cw (hok (m+c.j3.length) (by omega)) (by omega) (by omega));have SZ:U7 c (m+c.j3.length)=nth c.views m:=by unfold U7;rw [Nat.add_sub_cancel]
     rw [SZ] at h9;exact tM h9.2.2.2) (i - m8.ns c) (by omega)
    have e1:K7 c i=U3 c (i - m8.ns c):=by unfold K7;rw [h4,g2,if_neg (by simp),if_neg (by simp),if_neg (by omega),if_neg (by omega)]
    rw [e1];refine gr ?_;refine cl p1 ?_ (ha:=by rw [show ((i - m8.ns c:Nat):Int)=(i:Int) - (c.j3.length:Int) - (c.views.length:Int) by omega];rfl);refine gr ?_;exact ⟨_,_,_,_,rfl⟩
  rintro _ ⟨w0,w2,w3,w6,rfl⟩;refine gr ?_;refine tb (!o9 (K7 c i) 0) (fun h5=> ?_) (fun h5=> ?_)
  ·refine gr ?_
   exact ⟨_,rfl,by rw [hi,h5];rfl⟩
  ·refine gr ?_
   refine ⟨k,by omega,i+1,_,_,_,_,_,rfl,rfl,by omega,fun m hm=> ?_,by rw [hi,h5];rfl⟩
   rcases u9 m i with h6|h6
   ·exact hok m h6
   ·obtain rfl:m=i:=by omega
    exact X2 (by simpa using h5)
 ·have h3:=y8 h2
  obtain rfl:k=0:=by omega
  refine gr ?_;exact ⟨_,rfl,by rw [hi];rfl⟩
end Go.Proofs.YtkmclibmmlgogaaGreat


/- Texts D17 D16 D18 D19 (made short by a program) -/
import Derived.Test.YtkmclibmmlgogaaGreatD5
set_option linter.unusedVariables false
set_option linter.unusedSimpArgs false
open Bool renaming and_eq_true → b5, false_eq_true → b7, not_eq_false' → A7, not_eq_true' → j5, or_eq_false_iff → L6
open List renaming drop_of_length_le → m6
open Nat renaming le_refl → k9, lt_or_ge → p9
namespace Go.Proofs.YtkmclibmmlgogaaGreat
open Go.z7 Go.z7.S
attribute [local irreducible] Rx Ry Rn Ex Pf
def U5 (c:n5)(k:Nat):Vw:=nth c.views (k - c.j3.length)
def lT (c:n5)(k:Nat):List Int:=nth (tu c k) (D4 c (U5 c k).left k).toNat
def rT (c:n5)(k:Nat):List Int:=if J4 (U5 c k).right [] then [] else nth (tu c k) (D4 c (U5 c k).right k).toNat
def V0 (c:n5)(k:Nat):Int :=
 if !n8 (U5 c k).kind 0 2 then 1
 else if C7 (D4 c (U5 c k).left k) 0||(!J4 (U5 c k).right []&&C7 (D4 c (U5 c k).right k) 0) then 7
 else if !ct (U5 c k) then 1
 else if o9 (U5 c k).kind 2 then (if !U3 o9 (lT c k) (rT c k) then 5 else 0)
 else if !o9 (I5 (lT c k) (rT c k) (U5 c k).on) 0 then I5 (lT c k) (rT c k) (U5 c k).on
 else if C7 0 (U5 c k).wh.length&& !o9 (F7 (U5 c k).wh (ins c k)).2 0 then (F7 (U5 c k).wh (ins c k)).2
 else if C7 0 (U5 c k).wh.length&& !o9 (F7 (U5 c k).wh (ins c k)).1 1 then 5
 else V2 (ins c k) [] (X1 (U5 c k))
set_option maxHeartbeats 16000000 in
theorem aB3 (c:n5)(hs:C0 c)(k:Nat)(hk:c.j3.length<=k)(hk2:k<n5.ns c)(ho:ot c k):Pf A 66 [cat c,.d (num k)] (.d (num (V0 c k))):=by
 have aY:n5.ns c<=2000:=by obtain ⟨f0,f1,_⟩:=hs.sm.fq;unfold n5.ns;omega
 have QZ:n5.ns c=c.j3.length+c.views.length:=rfl;have hv:k - c.j3.length<c.views.length:=by omega
 have Va:(U5 c k).items.length<=1000:=hs.items _ hv;have Re:(U5 c k).C2.length<=1000:=hs.C2 _ hv;have hv3:(U5 c k).on.length<=1000:=hs.on _ hv;have hv4:(U5 c k).wh.length<=1000:=hs.wh _ hv;have Lk:nth c.views (k - c.j3.length)=U5 c k:=rfl;have p1:=uH c (U5 c k).left k hs.sm.fq (by omega);have p2:=uH c (U5 c k).right k hs.sm.fq (by omega);have p3:=aB8 c (U5 c k) Va Re;have b1:=I7 c (U5 c k).left k;have b2:=I7 c (U5 c k).right k;refine Pf.run [cat c,.d (num k),.any,.any,.any,.any,.any,.any,.any,.any,.any,.any,.any] rfl rfl rfl rfl ?_
 repeat' (first|refine Vd (e:=(k:Int) - (c.j3.length:Int)) (k - c.j3.length) (h2:= ?_)|refine gx ?_|fail)
 rw [Lk];refine tB (!n8 (U5 c k).kind 0 2) ?_ (fun h1=> ?_) (fun h1=> ?_)
 ·repeat' (first|refine cl (pg _ _ _) ?_|refine gx ?_|refine fk (h1:=fun hw=> ?_) (h2:=fun hw=> ?_)|refine L3 (h1:=fun hw=> ?_) (h2:=fun hw=> ?_)|refine ⟨rfl,rfl,_,rfl,?_⟩|refine ⟨rfl,rfl⟩|fail)
  all_goals exact cc
 ·refine gr ?_
  exact ⟨_,rfl,by unfold V0;rw [h1];rfl⟩
 repeat' (first|refine cl (p1) ?_|refine cl (p2) ?_|refine gx ?_|fail)
 refine tb (C7 (D4 c (U5 c k).left k) 0||(!J4 (U5 c k).right []&&C7 (D4 c (U5 c k).right k) 0)) (fun h2=> ?_) (fun h2=> ?_)
 ·refine gr ?_
  exact ⟨_,rfl,by unfold V0;rw [h1,h2];rfl⟩
 have QJ :=h2;simp only [L6] at QJ;have f1:=z8 QJ.1;have f2:J4 (U5 c k).right []=false->0<=D4 c (U5 c k).right k:=fun h=>by
  have:=QJ.2;simp only [h,Bool.not_false,Bool.true_and] at this;exact z8 this
 have Ti:ot c (k+1):=fun m h h' =>by
  rcases p9 m k with h3|h3
  ·exact ho m h h3
  ·obtain rfl:m=k:=by omega
   exact ⟨f1,f2⟩
 obtain ⟨q1,e1⟩:∃ q:Nat,D4 c (U5 c k).left k=q:=⟨_,(Int.toNat_of_nonneg f1).symm⟩;have t1:=(gA c hs (k+1) q1 (by omega) (by omega) Ti).1;have ti:=(gA c hs (k+1) k (by omega) (by omega) Ti).2 hk;have l1:=P0 hs (k+1) q1 (by omega) (by omega) Ti;have eL:lT c k=Q5 c q1:=by unfold lT;rw [e1,Int.toNat_natCast,W0 c (by omega)]
 refine tB (!ct (U5 c k)) ?_ (fun h3=> ?_) (fun h3=> ?_)
 ·repeat' (first|refine cl (p3) ?_|refine gx ?_|refine fk (h1:=fun hw=> ?_) (h2:=fun hw=> ?_)|refine L3 (h1:=fun hw=> ?_) (h2:=fun hw=> ?_)|refine ⟨rfl,rfl,_,rfl,?_⟩|refine ⟨rfl,rfl⟩|fail)
  all_goals exact cc
 ·refine gr ?_
  exact ⟨_,rfl,by unfold V0;rw [h1,h2,h3];rfl⟩
 rw [e1]
 repeat' (first|refine cl (t1) ?_|refine gx ?_|fail)
 refine Ex.WD (fun s=>∃ (w6 w8:b6),s=⟨[cat c,.d (num k),.ptr 0 0,.d (num 0),.ptr 1 0,.d (num q1),w6,.d (ints (Q5 c q1)),w8,.any,.any,.any,.any],[.cells (c.enc.map .d),.cells ((U5 c k).enc.map .d)]⟩/\w8.G9= .d (ints (rT c k))/\(rT c k).length<=2000) ?_ ?_
 ·skip
  refine tb (!J4 (U5 c k).right []) (fun h4=> ?_) (fun h4=> ?_)
  ·simp only [j5] at h4
   obtain ⟨q2,e2⟩:∃ q:Nat,D4 c (U5 c k).right k=q:=⟨_,(Int.toNat_of_nonneg (f2 h4)).symm⟩;have t2:=(gA c hs (k+1) q2 (by omega) (by omega) Ti).1;have l2:=P0 hs (k+1) q2 (by omega) (by omega) Ti;have eR:rT c k=Q5 c q2:=by unfold rT;rw [h4,e2,if_neg (by simp),Int.toNat_natCast,W0 c (by omega)]
   rw [e2]
   repeat' (first|refine cl (t2) ?_|refine gx ?_|fail)
   exact ⟨_,_,rfl,by rw [eR];rfl,by rw [eR];exact l2⟩
  ·simp only [A7] at h4
   have eR:rT c k=[]:=by unfold rT;rw [h4,if_pos rfl]
   refine gr ?_;exact ⟨_,_,rfl,by rw [eR];rfl,by rw [eR];simp⟩
 rintro _ ⟨w6,w8,rfl,hw8,lR⟩;have hin:(ins c k).length<=100000:=by
  have:ins c k=lT c k++rT c k:=rfl;rw [this,eL];simp;omega
 have pS:=aB9 (Q5 c q1) (rT c k) (by omega);have pP:=aC0 (U5 c k).on (Q5 c q1) (rT c k) hv3 (by omega) (by omega);have pW:=IU (U5 c k).wh (ins c k) hv4 hin;have pC:=Zy (U5 c k) (ins c k) Va Re hin (fun i h=>hs.zP _ i hv h) (fun i h=>hs.KP _ i hv h);have eL' :=eL.symm;rw [eL'];rw [<- eL] at pS pP;clear p1 p2 p3 t1 eL' eL;refine gr ?_;refine tb (o9 (U5 c k).kind 2) (fun h5=> ?_) (fun h5=> ?_)
 ·refine gr ?_
  refine tB (!U3 o9 (lT c k) (rT c k)) ?_ (fun h6=> ?_) (fun h6=> ?_)
  ·repeat' (first|refine mvS hw8 ?_|refine cl (pS) ?_|refine gx ?_|refine fk (h1:=fun hw=> ?_) (h2:=fun hw=> ?_)|refine L3 (h1:=fun hw=> ?_) (h2:=fun hw=> ?_)|refine ⟨rfl,rfl,_,rfl,?_⟩|refine ⟨rfl,rfl⟩|fail)
   all_goals exact cc
  ·refine gr ?_
   exact ⟨_,rfl,by unfold V0;rw [h1,h2,h3,h5,h6];rfl⟩
  ·refine gr ?_
   exact ⟨_,rfl,by unfold V0;rw [h1,h2,h3,h5,h6];rfl⟩
 repeat' (first|refine mvS hw8 ?_|refine cl (pP) ?_|refine gx ?_|fail)
 refine tb (!o9 (I5 (lT c k) (rT c k) (U5 c k).on) 0) (fun h6=> ?_) (fun h6=> ?_)
 ·refine gr ?_
  exact ⟨_,rfl,by unfold V0;rw [h1,h2,h3,h5,h6];rfl⟩
 repeat' (first|refine cl (ti) ?_|refine gx ?_|fail)
 refine tb (C7 0 (U5 c k).wh.length) (fun h7=> ?_) (fun h7=> ?_)
 ·repeat' (first|refine cl (pW) ?_|refine gx ?_|fail)
  refine tb (!o9 (F7 (U5 c k).wh (ins c k)).2 0) (fun h8=> ?_) (fun h8=> ?_)
  ·refine gr ?_
   exact ⟨_,rfl,by unfold V0;rw [h1,h2,h3,h5,h6,h7,h8];rfl⟩
  refine gr ?_;refine tb (!o9 (F7 (U5 c k).wh (ins c k)).1 1) (fun h9=> ?_) (fun h9=> ?_)
  ·refine gr ?_
   exact ⟨_,rfl,by unfold V0;rw [h1,h2,h3,h5,h6,h7,h8,h9];rfl⟩
  repeat' (first|refine cl (pC) ?_|refine gx ?_|fail)
  exact ⟨_,rfl,by unfold V0;rw [h1,h2,h3,h5,h6,h7,h8,h9];rfl⟩
 ·repeat' (first|refine cl (pC) ?_|refine gx ?_|fail)
  exact ⟨_,rfl,by unfold V0;rw [h1,h2,h3,h5,h6,h7];rfl⟩
def jG (c:n5)(name:D6)(col:Int):Int×Int :=
 if C7 (D4 c name (n5.ns c)) 0 then (0,7)
 else if !n8 col 0 ((Q5 c (D4 c name (n5.ns c)).toNat).length - 1) then (0,3)
 else (nth (Q5 c (D4 c name (n5.ns c)).toNat) col.toNat,0)
theorem Hj {c:n5}(hs:C0 c):n5.ns c<=2000:=by obtain ⟨f0,f1,_⟩:=hs.sm.fq;unfold n5.ns;omega
theorem NM (c:n5)(hs:C0 c)(ho:ot c (n5.ns c))(name:D6)(col:Int):Pf A 103 [cat c,.d (.str name),.d (num col)] (.tuple [.d (num (jG c name col).1),.d (num (jG c name col).2)]):=by
 have aY:=Hj hs;have QZ:n5.ns c=c.j3.length+c.views.length:=rfl;have p1:=uH c name (n5.ns c) hs.sm.fq (by omega);have b1:=I7 c name (n5.ns c);refine Pf.run [cat c,.d (.str name),.d (num col),.any,.any,.any,.any,.any] rfl rfl rfl rfl ?_
 repeat' (first|refine cl (p1) ?_|refine gx ?_|fail)
 refine tb (C7 (D4 c name (n5.ns c)) 0) (fun h1=> ?_) (fun h1=> ?_)
 ·refine gr ?_
  exact ⟨_,rfl,by simp only [jG,h1,if_true];rfl⟩
 have h2:=z8 h1;obtain ⟨q,e1⟩:∃ q:Nat,D4 c name (n5.ns c)=q:=⟨_,(Int.toNat_of_nonneg h2).symm⟩;have t1:=(gA c hs (n5.ns c) q (by omega) (by omega) ho).1;have l1:=P0 hs (n5.ns c) q (by omega) (by omega) ho;rw [e1] at h1 ⊢
 repeat' (first|refine cl (t1) ?_|refine gx ?_|fail)
 refine tB (!n8 col 0 ((Q5 c q).length - 1)) ?_ (fun h3=> ?_) (fun h3=> ?_)
 ·repeat' (first|refine cl (pg _ _ _) ?_|refine gx ?_|refine fk (h1:=fun hw=> ?_) (h2:=fun hw=> ?_)|refine L3 (h1:=fun hw=> ?_) (h2:=fun hw=> ?_)|refine ⟨rfl,rfl,_,rfl,?_⟩|refine ⟨rfl,rfl⟩|fail)
  all_goals exact cc
 ·refine gr ?_
  exact ⟨_,rfl,by simp only [jG,e1,h1,Int.toNat_natCast,h3,b7,if_false,if_true];rfl⟩
 have h4:=h3;simp [n8,p5] at h4;refine gr ?_;exact ⟨_,rfl,by simp only [jG,e1,h1,Int.toNat_natCast,h3,b7,if_false];rfl⟩
def skt (x:iK):b6:= .agg (x.enc.map .d)
def rls (x:jV):b6:= .agg (x.enc.map .d)
def bkp (x:nj):b6:= .agg (x.enc.map .d)
def Co (x:iK):Bool:= !n8 x.kind 0 2|| !n8 x.width 1 1024|| !n8 x.depth 1 8||(o9 x.kind 2&& !o9 x.depth 1)||C7 1024 (x.width * x.depth)
def ze (c:n5)(x:iK):Int:=if !o9 (jG c x.source x.col).2 0 then (jG c x.source x.col).2 else if Co x then 1 else 0
set_option maxHeartbeats 8000000 in
theorem Zz (c:n5)(hs:C0 c)(ho:ot c (n5.ns c))(x:iK):Pf A 104 [cat c,skt x] (.d (num (ze c x))):=by
 have p1:=NM c hs ho x.source x.col;refine Pf.run [cat c,skt x,.any,.any,.any,.any] rfl rfl rfl rfl ?_
 repeat' (first|refine cl (p1) ?_|refine gx ?_|fail)
 refine tb (!o9 (jG c x.source x.col).2 0) (fun h1=> ?_) (fun h1=> ?_)
 ·refine gr ?_
  exact ⟨_,rfl,by simp only [ze,h1,if_true];rfl⟩
 refine gr ?_;cases hW:n8 x.width 1 1024 with
 |false =>
  refine tB (true) ?_ (fun h2=> ?_) (fun h2=> ?_)
  ·repeat' (first|refine cl (pg _ _ _) ?_|refine gx ?_|refine fk (h1:=fun hw=> ?_) (h2:=fun hw=> ?_)|refine L3 (h1:=fun hw=> ?_) (h2:=fun hw=> ?_)|refine ⟨rfl,rfl,_,rfl,?_⟩|refine ⟨rfl,rfl⟩|fail)
   all_goals first|(simp [*,b9,hW];done)|(simp_all [b9,hW];done)|(simp_all [b9,hW,p8,p5,j9,B7];done)|(simp_all [b9,hW,p8,p5,j9,B7]<;>omega)
  ·refine gr ?_
   exact ⟨_,rfl,by simp [ze,h1,Co,hW,b9,num]⟩
  ·cases h2
 |true =>
 cases hD:n8 x.depth 1 8 with
 |false =>
  refine tB (true) ?_ (fun h2=> ?_) (fun h2=> ?_)
  ·repeat' (first|refine cl (pg _ _ _) ?_|refine gx ?_|refine fk (h1:=fun hw=> ?_) (h2:=fun hw=> ?_)|refine L3 (h1:=fun hw=> ?_) (h2:=fun hw=> ?_)|refine ⟨rfl,rfl,_,rfl,?_⟩|refine ⟨rfl,rfl⟩|fail)
   all_goals first|(simp [*,b9,hW,hD];done)|(simp_all [b9,hW,hD];done)|(simp_all [b9,hW,hD,p8,p5,j9,B7];done)|(simp_all [b9,hW,hD,p8,p5,j9,B7]<;>omega)
  ·refine gr ?_
   exact ⟨_,rfl,by simp [ze,h1,Co,hD,b9,num]⟩
  ·cases h2
 |true =>
 have hm: -9223372036854775808<=x.width * x.depth/\x.width * x.depth<9223372036854775808:=by
  simp [n8,p5] at hW hD;have m1:=Int.mul_le_mul hW.2 hD.2 (by omega) (by omega);have m2:=Int.mul_nonneg (a:=x.width) (b:=x.depth) (by omega) (by omega);omega
 refine tB (Co x) ?_ (fun h2=> ?_) (fun h2=> ?_)
 ·repeat' (first|refine cl (pg _ _ _) ?_|refine mu (h0:=hm) ?_|refine gx ?_|refine fk (h1:=fun hw=> ?_) (h2:=fun hw=> ?_)|refine L3 (h1:=fun hw=> ?_) (h2:=fun hw=> ?_)|refine ⟨rfl,rfl,_,rfl,?_⟩|refine ⟨rfl,rfl⟩|fail)
  all_goals first|(simp [*,b9,Co,hW,hD];done)|(simp_all [b9,Co,hW,hD];done)|(simp_all [b9,Co,hW,hD,p8,p5,j9,B7];done)|(simp_all [b9,Co,hW,hD,p8,p5,j9,B7]<;>omega)
 ·refine gr ?_
  exact ⟨_,rfl,by simp only [ze,h1,h2,b7,if_false,if_true];rfl⟩
 ·refine gr ?_
  exact ⟨_,rfl,by simp only [ze,h1,h2,b7,if_false];rfl⟩
def Er (c:n5)(x:jV):Int :=
 if C7 (D4 c x.source (n5.ns c)) c.j3.length then 7
 else if !o9 (nth c.views (D4 c x.source (n5.ns c) - c.j3.length).toNat).kind 1|| !o9 (nth (nth c.views (D4 c x.source (n5.ns c) - c.j3.length).toNat).C2 0).func 0|| !n8 x.Xl 1 1024 then 1 else 0
set_option maxHeartbeats 8000000 in
theorem ZA (c:n5)(hs:C0 c)(hg:∀ k,k<c.views.length->(nth c.views k).kind≠1\/0<(nth c.views k).C2.length)(x:jV):Pf A 105 [cat c,rls x] (.d (num (Er c x))):=by
 have aY:=Hj hs;have QZ:n5.ns c=c.j3.length+c.views.length:=rfl;have p1:=uH c x.source (n5.ns c) hs.sm.fq (by omega);have b1:=I7 c x.source (n5.ns c);refine Pf.run [cat c,rls x,.any,.any,.any,.any,.any] rfl rfl rfl rfl ?_
 repeat' (first|refine cl (p1) ?_|refine gx ?_|fail)
 refine tb (C7 (D4 c x.source (n5.ns c)) c.j3.length) (fun h1=> ?_) (fun h1=> ?_)
 ·refine gr ?_
  exact ⟨_,rfl,by simp only [Er,h1,if_true];rfl⟩
 have h2:=z8 h1;have h3:=hg (D4 c x.source (n5.ns c) - c.j3.length).toNat (by omega);refine gr ?_;refine tB (!o9 (nth c.views (D4 c x.source (n5.ns c) - c.j3.length).toNat).kind 1|| !o9 (nth (nth c.views (D4 c x.source (n5.ns c) - c.j3.length).toNat).C2 0).func 0|| !n8 x.Xl 1 1024) ?_ (fun h4=> ?_) (fun h4=> ?_)
 ·repeat' (first|refine cl (pg _ _ _) ?_|refine gx ?_|refine fk (h1:=fun hw=> ?_) (h2:=fun hw=> ?_)|refine L3 (h1:=fun hw=> ?_) (h2:=fun hw=> ?_)|refine ⟨rfl,rfl,_,rfl,?_⟩|refine ⟨rfl,rfl⟩|fail)
  all_goals exact cc
 ·refine gr ?_
  exact ⟨_,rfl,by simp only [Er,h1,h4,b7,if_false,if_true];rfl⟩
 ·refine gr ?_
  exact ⟨_,rfl,by simp only [Er,h1,h4,b7,if_false];rfl⟩
def SP (c:n5):List D6->List D6->Int
 |_,[]=>0
 |seen,t::r=>if C7 (dQ c t c.j3.length) 0 then 7 else if seen.any fun y=>J4 y t then 4 else SP c (seen++[t]) r
def Da (c:n5)(x:nj):Int:=if o9 x.tables.length 0|| !n8 x.keep 1 1048576 then 1 else SP c [] x.tables
set_option maxHeartbeats 8000000 in
theorem ZB (c:n5)(hf:c.fq)(x:nj)(hx:x.tables.length<=1000):Pf A 107 [cat c,bkp x] (.d (num (Da c x))):=by
 have hn:c.j3.length<=1000:=hf.1;refine Pf.run [cat c,bkp x,.any,.any,.any,.any,.any] rfl rfl rfl rfl ?_;refine gr ?_;refine tB (o9 x.tables.length 0|| !n8 x.keep 1 1048576) ?_ (fun h1=> ?_) (fun h1=> ?_)
 ·repeat' (first|refine cl (pg _ _ _) ?_|refine gx ?_|refine fk (h1:=fun hw=> ?_) (h2:=fun hw=> ?_)|refine L3 (h1:=fun hw=> ?_) (h2:=fun hw=> ?_)|refine ⟨rfl,rfl,_,rfl,?_⟩|refine ⟨rfl,rfl⟩|fail)
  all_goals exact cc
 ·refine gr ?_
  exact ⟨_,rfl,by simp only [Da,h1,if_true];rfl⟩
 refine gr ?_;refine Ex.J1 (fun k T H=>∃ (i:Nat) (w0 w1 w4 w6:b6),T=[w0,w1,.ptr 0 0,.ptr 1 0,w4,.d (num i),w6]/\H=[.cells (c.enc.map .d),.cells (x.enc.map .d)]/\i+k=x.tables.length/\Da c x=SP c (x.tables.take i) (x.tables.drop i)) (by rintro _ _ _ ⟨_,_,_,_,_,_,rfl,_⟩;rfl) ?_ (k:=x.tables.length) ⟨0,_,_,_,_,rfl,rfl,by simp,by simp [Da,h1]⟩;rintro k _ _ ⟨i,w0,w1,w4,w6,rfl,rfl,hk,hi⟩;refine Ex.nT ?_;refine Ex.seq ?_;refine tb (C7 i x.tables.length) (fun h2=> ?_) (fun h2=> ?_)
 ·have h3:=A4 h2
  rw [A8 (by omega)] at hi;have p1:=NN c (nth x.tables i) c.j3.length hf (by omega);refine gr ?_;refine tB (C7 (dQ c (nth x.tables i) c.j3.length) 0) ?_ (fun h4=> ?_) (fun h4=> ?_)
  ·repeat' (first|refine cl (p1) ?_|refine gx ?_|refine fk (h1:=fun hw=> ?_) (h2:=fun hw=> ?_)|refine L3 (h1:=fun hw=> ?_) (h2:=fun hw=> ?_)|refine ⟨rfl,rfl,_,rfl,?_⟩|refine ⟨rfl,rfl⟩|fail)
   all_goals exact cc
  ·refine gr ?_
   exact ⟨_,rfl,by rw [hi];simp only [SP,h4,if_true];rfl⟩
  refine gr ?_;refine Ex.J1 (fun k T H=>∃ (j:Nat) (w0 w1 w4:b6),T=[w0,w1,.ptr 0 0,.ptr 1 0,w4,.d (num i),.d (num j)]/\H=[.cells (c.enc.map .d),.cells (x.enc.map .d)]/\j+k=i/\((x.tables.take i).any fun y=>J4 y (nth x.tables i))=(((x.tables.take i).drop j).any fun y=>J4 y (nth x.tables i))) (by rintro _ _ _ ⟨_,_,_,_,_,rfl,_⟩;rfl) ?_ (k:=i) ⟨0,_,_,_,rfl,rfl,by simp,by simp⟩;rintro k2 _ _ ⟨j,w0,w1,w4,rfl,rfl,hk2,hj⟩;refine Ex.nT ?_;refine Ex.seq ?_;refine tb (C7 j i) (fun h5=> ?_) (fun h5=> ?_)
  ·have h6:=A4 h5
   rw [iU (by omega) (by omega)] at hj
   repeat' (first|refine gx ?_|refine Ex.I4 ?_|refine Ex.I6 ?_|refine Ex.cond rfl (fun ht=> ?_) (fun ht=> ?_)|refine Ex.test (Rn.text ?_)|refine Ex.test (Rn.draw ?_)|refine ⟨_,rfl,fun ht=> ?_,fun ht=> ?_⟩|refine ⟨_,rfl,?_⟩|fail)
   ·have g2:((x.tables.take i).any fun y=>J4 y (nth x.tables i))=true:=by rw [hj];simp [ht]
    rw [hi];simp only [SP,h4,g2,b9,num,b7,if_true,if_false]
   ·exact ⟨k2 - 1,by omega,j+1,_,_,_,rfl,rfl,by omega,by rw [hj];simp [ht]⟩
  have h6:=z8 h5;rw [m6 (by simp;omega)] at hj;have g2:((x.tables.take i).any fun y=>J4 y (nth x.tables i))=false:=by rw [hj];rfl
  refine gr ?_;refine ⟨k - 1,by omega,i+1,_,_,_,_,rfl,rfl,by omega,?_⟩;rw [hi,F6 (by omega)];simp only [SP,h4,g2,b7,if_false]
 ·have h3:=z8 h2
  rw [m6 (by omega)] at hi;refine gr ?_;exact ⟨_,rfl,by rw [hi];rfl⟩
def Ll (c:n5)(x:iW):Int:=if o9 (jG c x.source x.col).2 0&& !o9 (jG c x.source x.col).1 2 then 5 else (jG c x.source x.col).2
def KS (c:n5)(x:kP):Int:=if o9 (jG c x.source x.col).2 0&& !n8 x.ttl 1 1048576 then 1 else (jG c x.source x.col).2
def LW (c:n5)(x:nq):Int:=if C7 (dQ c x.table c.j3.length) 0 then 7 else 0
def U2 (c:n5)(n:Nat):Int :=
 if n<c.idxs.length then Ll c (nth c.idxs n)
 else if n - c.idxs.length<c.F3.length then ze c (nth c.F3 (n - c.idxs.length))
 else if n - c.idxs.length - c.F3.length<c.F9.length then KS c (nth c.F9 (n - c.idxs.length - c.F3.length))
 else if n - c.idxs.length - c.F3.length - c.F9.length<c.J3.length then Er c (nth c.J3 (n - c.idxs.length - c.F3.length - c.F9.length))
 else if n - c.idxs.length - c.F3.length - c.F9.length - c.J3.length<c.K9.length then LW c (nth c.K9 (n - c.idxs.length - c.F3.length - c.F9.length - c.J3.length))
 else Da c (nth c.M8 (n - c.idxs.length - c.F3.length - c.F9.length - c.J3.length - c.K9.length))
set_option maxHeartbeats 16000000 in
theorem aB4 (c:n5)(hs:C0 c)(ho:ot c (n5.ns c))(hg:∀ k,k<c.views.length->(nth c.views k).kind≠1\/0<(nth c.views k).C2.length)(n:Nat)(hn:n<c.idxs.length+c.F3.length+c.F9.length+c.J3.length+c.K9.length+c.M8.length) :
  Pf A 67 [cat c,.d (num n)] (.d (num (U2 c n))):=by
 obtain ⟨f0,f1,f2,f3,f4,f5,f6,f7⟩:=hs.sm.fq;refine Pf.run [cat c,.d (num n),.any,.any,.any,.any,.any] rfl rfl rfl rfl ?_;refine gr ?_;refine tb (C7 n c.idxs.length) (fun h1=> ?_) (fun h1=> ?_)
 ·have h1' :=A4 h1
  have p1:=NM c hs ho (nth c.idxs n).source (nth c.idxs n).col;have e1:U2 c n=Ll c (nth c.idxs n):=by unfold U2;rw [if_pos (by omega)]
  repeat' (first|refine cl (p1) ?_|refine gx ?_|fail)
  refine tb (o9 (jG c (nth c.idxs n).source (nth c.idxs n).col).2 0&& !o9 (jG c (nth c.idxs n).source (nth c.idxs n).col).1 2) (fun h2=> ?_) (fun h2=> ?_)
  ·refine gr ?_
   exact ⟨_,rfl,by rw [e1];unfold Ll;rw [h2];rfl⟩
  ·refine gr ?_
   exact ⟨_,rfl,by rw [e1];unfold Ll;rw [h2];rfl⟩
 have h1' :=z8 h1;refine gr ?_;generalize GQ:n - c.idxs.length=m1;have g1:(n:Int) - (c.idxs.length:Int)=(m1:Int):=by omega
 rw [g1];refine tb (C7 m1 c.F3.length) (fun h3=> ?_) (fun h3=> ?_)
 ·have h3' :=A4 h3
  have p1:=Zz c hs ho (nth c.F3 m1);have e1:U2 c n=ze c (nth c.F3 m1):=by unfold U2;rw [if_neg (by omega),GQ,if_pos (by omega)]
  repeat' (first|refine cl (p1) ?_|refine gx ?_|fail)
  exact ⟨_,rfl,by rw [e1];rfl⟩
 have h3' :=z8 h3;refine gr ?_;generalize hm2:m1 - c.F3.length=m2;have g2:(m1:Int) - (c.F3.length:Int)=(m2:Int):=by omega
 rw [g2];refine tb (C7 m2 c.F9.length) (fun h4=> ?_) (fun h4=> ?_)
 ·have h4' :=A4 h4
  have p1:=NM c hs ho (nth c.F9 m2).source (nth c.F9 m2).col;have e1:U2 c n=KS c (nth c.F9 m2):=by unfold U2;rw [if_neg (by omega),GQ,if_neg (by omega),hm2,if_pos (by omega)]
  repeat' (first|refine cl (p1) ?_|refine gx ?_|fail)
  refine tB (o9 (jG c (nth c.F9 m2).source (nth c.F9 m2).col).2 0&& !n8 (nth c.F9 m2).ttl 1 1048576) ?_ (fun h2=> ?_) (fun h2=> ?_)
  ·repeat' (first|refine cl (pg _ _ _) ?_|refine gx ?_|refine fk (h1:=fun hw=> ?_) (h2:=fun hw=> ?_)|refine L3 (h1:=fun hw=> ?_) (h2:=fun hw=> ?_)|refine ⟨rfl,rfl,_,rfl,?_⟩|refine ⟨rfl,rfl⟩|fail)
   all_goals exact cc
  ·refine gr ?_
   exact ⟨_,rfl,by rw [e1];unfold KS;rw [h2];rfl⟩
  ·refine gr ?_
   exact ⟨_,rfl,by rw [e1];unfold KS;rw [h2];rfl⟩
 have h4' :=z8 h4;refine gr ?_;generalize hm3:m2 - c.F9.length=m3;have g3:(m2:Int) - (c.F9.length:Int)=(m3:Int):=by omega
 rw [g3];refine tb (C7 m3 c.J3.length) (fun h5=> ?_) (fun h5=> ?_)
 ·have h5' :=A4 h5
  have p1:=ZA c hs hg (nth c.J3 m3);have e1:U2 c n=Er c (nth c.J3 m3):=by unfold U2;rw [if_neg (by omega),GQ,if_neg (by omega),hm2,if_neg (by omega),hm3,if_pos (by omega)]
  repeat' (first|refine cl (p1) ?_|refine gx ?_|fail)
  exact ⟨_,rfl,by rw [e1];rfl⟩
 have h5' :=z8 h5;refine gr ?_;generalize hm4:m3 - c.J3.length=m4;have g4:(m3:Int) - (c.J3.length:Int)=(m4:Int):=by omega
 rw [g4];refine tb (C7 m4 c.K9.length) (fun h6=> ?_) (fun h6=> ?_)
 ·have h6' :=A4 h6
  have p1:=NN c (nth c.K9 m4).table c.j3.length hs.sm.fq (by omega);have e1:U2 c n=LW c (nth c.K9 m4):=by unfold U2;rw [if_neg (by omega),GQ,if_neg (by omega),hm2,if_neg (by omega),hm3,if_neg (by omega),hm4,if_pos (by omega)]
  refine gr ?_;refine tB (C7 (dQ c (nth c.K9 m4).table c.j3.length) 0) ?_ (fun h2=> ?_) (fun h2=> ?_)
  ·repeat' (first|refine cl (p1) ?_|refine gx ?_|refine fk (h1:=fun hw=> ?_) (h2:=fun hw=> ?_)|refine L3 (h1:=fun hw=> ?_) (h2:=fun hw=> ?_)|refine ⟨rfl,rfl,_,rfl,?_⟩|refine ⟨rfl,rfl⟩|fail)
   all_goals exact cc
  ·refine gr ?_
   exact ⟨_,rfl,by rw [e1];unfold LW;rw [h2];rfl⟩
  ·refine gr ?_
   exact ⟨_,rfl,by rw [e1];unfold LW;rw [h2];rfl⟩
 have h6' :=z8 h6;have hb:=hs.bk (m4 - c.K9.length) (by omega);have p1:=ZB c hs.sm.fq (nth c.M8 (m4 - c.K9.length)) hb;have e1:U2 c n=Da c (nth c.M8 (m4 - c.K9.length)):=by unfold U2;rw [if_neg (by omega),GQ,if_neg (by omega),hm2,if_neg (by omega),hm3,if_neg (by omega),hm4,if_neg (by omega)]
 repeat' (first|refine cl (p1) ?_|refine Vd (e:=(m4:Int) - (c.K9.length:Int)) (m4 - c.K9.length) (h2:= ?_)|refine gx ?_|fail)
 exact ⟨_,rfl,by rw [e1];rfl⟩
theorem Ex.ae3 {A:Go.z7.Prog}{l:H7}{b:Nat}{c:p6}{st:St}{Q:E4->St->Prop}(P:St->Prop)(h1:Ex A l b c st (sJ (fun _ _=>False) P))(h2:∀ s,P s->Q .normal s):Ex A l b c st Q:=by
 refine h1.mono fun x s h=> ?_
 cases x with
 |normal=>exact h2 s h
 |exit i=>exact h.elim
 |ret=>exact h.elim
def zU (a b c d e f:Int):Bool:=C7 16 a||C7 16 b||C7 16 c||C7 16 d||C7 16 e||C7 16 f
def tooMany (c:n5):Bool:=C7 8 c.j3.length||C7 12 c.views.length||zU c.idxs.length c.F3.length c.F9.length c.J3.length c.K9.length c.M8.length
def max2 (x y:Int):Int:=if y>x then y else x
theorem Ri (x y:Int):C7 16 (max2 x y)=(C7 16 x||C7 16 y):=by
 unfold max2;simp only [p8];split
 ·cases h:decide ((16:Int)<x) with
  |false=>simp
  |true=>simp at h ⊢;omega
 ·cases h:decide ((16:Int)<y) with
  |false=>simp
  |true=>simp at h ⊢;omega
theorem Nq (a b c d e f:Int):C7 16 (max2 (max2 (max2 (max2 (max2 a b) c) d) e) f)=zU a b c d e f:=by
 simp only [Ri,zU]
def K2 (c:n5)(i:Nat):Int :=
 if !E5 (nth c.names i) then 3 else if (c.names.take i).any fun y=>J4 y (nth c.names i) then 4
 else if i<c.j3.length then dA c i else if i<n5.ns c then V0 c i else U2 c (i - n5.ns c)
def aW (c:n5):Nat->Nat->Int×Int
 |0,_=>(0,0)
 |k+1,i=>if !o9 (K2 c i) 0 then (i,K2 c i) else aW c k (i+1)
def K6 (c:n5):Int×Int:=if tooMany c then (0,8) else aW c c.names.length 0
theorem ke {c:n5}{m:Nat}(h:K2 c m=0):(!E5 (nth c.names m))=false/\((c.names.take m).any fun y=>J4 y (nth c.names m))=false:=by
 unfold K2 at h;constructor
 ·cases h1:(!E5 (nth c.names m)) with
  |false=>rfl
  |true=>rw [h1] at h;simp at h
 ·cases h1:(!E5 (nth c.names m)) with
  |true=>rw [h1] at h;simp at h
  |false =>
   rw [h1] at h;cases h2:((c.names.take m).any fun y=>J4 y (nth c.names m)) with
   |false=>rfl
   |true=>rw [h2] at h;simp at h
theorem eo {c:n5}{m:Nat}(h:K2 c m=0)(hm:m<c.j3.length):dA c m=0:=by
 obtain ⟨h1,h2⟩:=ke h;unfold K2 at h;rw [h1,h2,if_neg (by simp),if_neg (by simp),if_pos hm] at h;exact h
theorem bX {c:n5}{m:Nat}(h:K2 c m=0)(hm:c.j3.length<=m)(hm2:m<n5.ns c):V0 c m=0:=by
 obtain ⟨h1,h2⟩:=ke h;unfold K2 at h;rw [h1,h2,if_neg (by simp),if_neg (by simp),if_neg (by omega),if_pos hm2] at h;exact h
theorem cM {c:n5}{m:Nat}(h:dA c m=0):0<(nth c.j3 m).m9.length/\(nth c.j3 m).m9.length<=8:=by
 unfold dA at h;split at h
 ·omega
 ·rename_i h1
  simp [n8,p5] at h1;omega
theorem cQ {c:n5}{m:Nat}(h:V0 c m=0):n8 (U5 c m).kind 0 2=true/\0<=D4 c (U5 c m).left m/\(J4 (U5 c m).right []=false->0<=D4 c (U5 c m).right m)/\ct (U5 c m)=true:=by
 unfold V0 at h;split at h
 ·omega
 ·rename_i h0
  split at h
  ·omega
  ·rename_i h1
   split at h
   ·omega
   ·rename_i h2
    simp only [Bool.not_eq_true,L6] at h1;refine ⟨by simpa using h0,z8 h1.1,fun h3=> ?_,by simpa using h2⟩;have:=h1.2;rw [h3] at this;exact z8 (by simpa using this)
theorem sY {v:Vw}(h:ct v=true):v.kind≠1\/0<v.C2.length:=by
 cases h1:o9 v.kind 1 with
 |false=>exact Or.inl (qp h1)
 |true =>
  right;have h2:=X2 h1;unfold ct at h;have h3:o9 v.kind 2=false:=by rw [h2];simp [j9]
  have h4:o9 v.kind 0=false:=by rw [h2];simp [j9]
  rw [h3,h4] at h;simp only [b7,if_false,b5,j5,L6] at h;have:=qp h.1.1;omega
def bJ (c:n5)(i:Nat):Prop:=∀ m,m<i->K2 c m=0
theorem U0 {c:n5}{i:Nat}(h:bJ c i)(hi:i<=n5.ns c):ot c i:=fun k h1 h2=>by
 have:=cQ (bX (h k h2) h1 (by omega));exact ⟨this.2.1,this.2.2.1⟩
theorem T1 (c:n5):c.names.length=n5.ns c+(c.idxs.length+c.F3.length+c.F9.length+c.J3.length+c.K9.length+c.M8.length):=by simp [n5.names,n5.ns];omega
set_option maxHeartbeats 16000000 in
theorem aA8 (c:n5)(hs:C0 c):Pf A 27 [cat c] (pair (K6 c)):=by
 have hnl:=T1 c;have aY:n5.ns c=c.j3.length+c.views.length:=rfl;obtain ⟨f0,f1,f2,f3,f4,f5,f6,f7⟩:=id hs.sm.fq;have WY:=Nq c.idxs.length c.F3.length c.F9.length c.J3.length c.K9.length c.M8.length;refine Pf.run [cat c,.any,.any,.any,.any,.any,.any,.any] rfl rfl rfl rfl ?_;refine gr ?_;refine tB (tooMany c) ?_ (fun h1=> ?_) (fun h1=> ?_)
 ·repeat' (first|refine mm (d:= .int .i64 (max2 (max2 (max2 (max2 (max2 c.idxs.length c.F3.length) c.F9.length) c.J3.length) c.K9.length) c.M8.length)) ?_|refine gx ?_|refine fk (h1:=fun hw=> ?_) (h2:=fun hw=> ?_)|refine L3 (h1:=fun hw=> ?_) (h2:=fun hw=> ?_)|refine ⟨rfl,rfl,_,rfl,?_⟩|refine ⟨rfl,rfl⟩|fail)
  all_goals first|(simp [*,b9,tooMany,WY];done)|(simp_all [b9,tooMany,WY];done)|(simp_all [b9,tooMany,WY,p8,p5,j9,B7];done)|(simp_all [b9,tooMany,WY,p8,p5,j9,B7]<;>omega)
 ·refine gr ?_
  exact ⟨_,rfl,by unfold K6;rw [h1];rfl⟩
 repeat' (first|refine cl (aa8 c hs.sm.fq) ?_|refine gx ?_|fail)
 refine Ex.J1 (fun k T H=>∃ (i:Nat) (w0 w2 w3 w6 w7:b6),T=[w0,.ptr 0 0,w2,w3,.d (A5 encS c.names),.d (num i),w6,w7]/\H=[.cells (c.enc.map .d)]/\i+k=c.names.length/\bJ c i/\K6 c=aW c k i) (by rintro _ _ _ ⟨_,_,_,_,_,_,_,rfl,_⟩;rfl) ?_ (k:=c.names.length) ⟨0,_,_,_,_,_,rfl,rfl,by simp,fun m h=>absurd h (by omega),by unfold K6;rw [h1];rfl⟩;rintro k _ _ ⟨i,w0,w2,w3,w6,w7,rfl,rfl,hk,hok,hi⟩;refine Ex.nT ?_;refine Ex.seq ?_;refine tb (C7 i c.names.length) (fun h2=> ?_) (fun h2=> ?_)
 ·have h3:=A4 h2
  obtain ⟨k,rfl⟩:∃ k',k=k' +1:=⟨k - 1,by omega⟩;rw [aW] at hi;refine gr ?_;refine tB (!E5 (nth c.names i)) ?_ (fun h4=> ?_) (fun h4=> ?_)
  ·repeat' (first|refine cl (VB _) ?_|refine gx ?_|refine fk (h1:=fun hw=> ?_) (h2:=fun hw=> ?_)|refine L3 (h1:=fun hw=> ?_) (h2:=fun hw=> ?_)|refine ⟨rfl,rfl,_,rfl,?_⟩|refine ⟨rfl,rfl⟩|fail)
   all_goals exact cc
  ·refine gr ?_
   have e1:K2 c i=3:=by unfold K2;rw [h4];rfl
   exact ⟨_,rfl,by rw [hi,e1];simp [j9,pair,b9,b6.G9,num]⟩
  refine gr ?_;refine Ex.J1 (fun k T H=>∃ (j:Nat) (w0 w2 w3 w7:b6),T=[w0,.ptr 0 0,w2,w3,.d (A5 encS c.names),.d (num i),.d (num j),w7]/\H=[.cells (c.enc.map .d)]/\j+k=i/\((c.names.take i).any fun y=>J4 y (nth c.names i))=(((c.names.take i).drop j).any fun y=>J4 y (nth c.names i))) (by rintro _ _ _ ⟨_,_,_,_,_,_,rfl,_⟩;rfl) ?_ (k:=i) ⟨0,_,_,_,_,rfl,rfl,by simp,by simp⟩;rintro k2 _ _ ⟨j,w0,w2,w3,w7,rfl,rfl,hk2,hj⟩;refine Ex.nT ?_;refine Ex.seq ?_;refine tb (C7 j i) (fun h5=> ?_) (fun h5=> ?_)
  ·have h6:=A4 h5
   rw [iU (by omega) (by omega)] at hj
   repeat' (first|refine gx ?_|refine Ex.I4 ?_|refine Ex.I6 ?_|refine Ex.cond rfl (fun ht=> ?_) (fun ht=> ?_)|refine Ex.test (Rn.text ?_)|refine Ex.test (Rn.draw ?_)|refine ⟨_,rfl,fun ht=> ?_,fun ht=> ?_⟩|refine ⟨_,rfl,?_⟩|fail)
   ·have g2:((c.names.take i).any fun y=>J4 y (nth c.names i))=true:=by rw [hj];simp [ht]
    have e1:K2 c i=4:=by unfold K2;rw [h4,g2];rfl
    rw [hi,e1];simp [j9,pair,b9,b6.G9,num]
   ·exact ⟨k2 - 1,by omega,j+1,_,_,_,_,rfl,rfl,by omega,by rw [hj];simp [ht]⟩
  have h6:=z8 h5;rw [m6 (by simp;omega)] at hj;have g2:((c.names.take i).any fun y=>J4 y (nth c.names i))=false:=by rw [hj];rfl
  clear hj hk2 h5 h6;refine gr ?_;refine Ex.ae3 (fun s=>∃ (w0 w2 w3 w6:b6),s=⟨[w0,.ptr 0 0,w2,w3,.d (A5 encS c.names),.d (num i),w6,.d (num (K2 c i))],[.cells (c.enc.map .d)]⟩) ?_ ?_
  ·skip
   refine tb (C7 i c.j3.length) (fun h5=> ?_) (fun h5=> ?_)
   ·have h6:=A4 h5
    have p1:=aB2 c i hs.sm (by omega) (fun m hm=>(cM (eo (hok m hm) (by omega))).1);have e1:K2 c i=dA c i:=by unfold K2;rw [h4,g2,if_neg (by simp),if_neg (by simp),if_pos (by omega)]
    rw [e1]
    repeat' (first|refine cl (p1) ?_|refine gx ?_|fail)
    exact ⟨_,_,_,_,rfl⟩
   have h6:=z8 h5;refine tB (C7 i (n5.ns c)) ?_ (fun h7=> ?_) (fun h7=> ?_)
   ·repeat' (first|refine cl (aY) ?_|refine gx ?_|refine fk (h1:=fun hw=> ?_) (h2:=fun hw=> ?_)|refine L3 (h1:=fun hw=> ?_) (h2:=fun hw=> ?_)|refine ⟨rfl,rfl,_,rfl,?_⟩|refine ⟨rfl,rfl⟩|fail)
    all_goals exact cc
   ·have h8:=A4 h7
    have p1:=aB3 c hs i (by omega) (by omega) (U0 hok (by omega));have e1:K2 c i=V0 c i:=by unfold K2;rw [h4,g2,if_neg (by simp),if_neg (by simp),if_neg (by omega),if_pos (by omega)]
    rw [e1]
    repeat' (first|refine cl (p1) ?_|refine gx ?_|fail)
    exact ⟨_,_,_,_,rfl⟩
   ·have h8:=z8 h7
    have p1:=aB4 c hs (U0 (fun m hm=>hok m (by omega)) (k9 _)) (fun m hm=>by
     have h9:=cQ (bX (hok (m+c.j3.length) (by omega)) (by omega) (by omega));have QI:U5 c (m+c.j3.length)=nth c.views m:=by unfold U5;rw [Nat.add_sub_cancel]
     rw [QI] at h9;exact sY h9.2.2.2) (i - n5.ns c) (by omega)
    have e1:K2 c i=U2 c (i - n5.ns c):=by unfold K2;rw [h4,g2,if_neg (by simp),if_neg (by simp),if_neg (by omega),if_neg (by omega)]
    rw [e1];refine gr ?_;refine cl p1 ?_ (ha:=by rw [show ((i - n5.ns c:Nat):Int)=(i:Int) - (c.j3.length:Int) - (c.views.length:Int) by omega];rfl);refine gr ?_;exact ⟨_,_,_,_,rfl⟩
  rintro _ ⟨w0,w2,w3,w6,rfl⟩;refine gr ?_;refine tb (!o9 (K2 c i) 0) (fun h5=> ?_) (fun h5=> ?_)
  ·refine gr ?_
   exact ⟨_,rfl,by rw [hi,h5];rfl⟩
  ·refine gr ?_
   refine ⟨k,by omega,i+1,_,_,_,_,_,rfl,rfl,by omega,fun m hm=> ?_,by rw [hi,h5];rfl⟩
   rcases p9 m i with h6|h6
   ·exact hok m h6
   ·obtain rfl:m=i:=by omega
    exact X2 (by simpa using h5)
 ·have h3:=z8 h2
  obtain rfl:k=0:=by omega
  refine gr ?_;exact ⟨_,rfl,by rw [hi];rfl⟩
end Go.Proofs.YtkmclibmmlgogaaGreat


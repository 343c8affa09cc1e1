/- Texts D17 D16 D18 D19 (made short by a program) -/
import Derived.Test.YtkmclibmmlgogaaGreatD5
set_option linter.unusedVariables false
set_option linter.unusedSimpArgs false
open Bool renaming and_eq_true → b5, false_eq_true → b7, not_eq_false' → B4, not_eq_true' → j9
open List renaming drop_of_length_le → m7
open Nat renaming le_refl → l5, lt_or_ge → p7
namespace Go.Proofs.YtkmclibmmlgogaaGreat
open Go.u7 Go.u7.S
attribute [local irreducible] Rx Ry Rn Ex Pf
def T8 (c:m9)(k:Nat):Vw:=nth c.views (k - c.j3.length)
def lT (c:m9)(k:Nat):List Int:=nth (sx c k) (D4 c (T8 c k).left k).toNat
def rT (c:m9)(k:Nat):List Int:=if I9 (T8 c k).right [] then [] else nth (sx c k) (D4 c (T8 c k).right k).toNat
def U3 (c:m9)(k:Nat):Int :=
 if !n7 (T8 c k).kind 0 2 then 1
 else if C2 (D4 c (T8 c k).left k) 0||(!I9 (T8 c k).right []&&C2 (D4 c (T8 c k).right k) 0) then 7
 else if !bT (T8 c k) then 1
 else if o8 (T8 c k).kind 2 then (if !cw o8 (lT c k) (rT c k) then 5 else 0)
 else if !o8 (G6 (lT c k) (rT c k) (T8 c k).on) 0 then G6 (lT c k) (rT c k) (T8 c k).on
 else if C2 0 (T8 c k).wh.length&& !o8 (E4 (T8 c k).wh (ins c k)).2 0 then (E4 (T8 c k).wh (ins c k)).2
 else if C2 0 (T8 c k).wh.length&& !o8 (E4 (T8 c k).wh (ins c k)).1 1 then 5
 else U4 (ins c k) [] (W9 (T8 c k))
set_option maxHeartbeats 16000000 in
theorem at1 (c:m9)(hs:E8 c)(k:Nat)(hk:c.j3.length<=k)(hk2:k<m9.ns c)(ho:nM c k):Pf A 66 [cat c,.d (num k)] (.d (num (U3 c k))):=by
 have aN:m9.ns c<=2000:=by obtain ⟨f0,f1,_⟩:=hs.sm.fI;unfold m9.ns;omega
 have TN:m9.ns c=c.j3.length+c.views.length:=rfl;have hv:k - c.j3.length<c.views.length:=by omega
 have TT:(T8 c k).items.length<=1000:=hs.items _ hv;have VM:(T8 c k).B3.length<=1000:=hs.B3 _ hv;have hv3:(T8 c k).on.length<=1000:=hs.on _ hv;have hv4:(T8 c k).wh.length<=1000:=hs.wh _ hv;have KB:nth c.views (k - c.j3.length)=T8 c k:=rfl;have p1:=Bo c (T8 c k).left k hs.sm.fI (by omega);have p2:=Bo c (T8 c k).right k hs.sm.fI (by omega);have p3:=at8 c (T8 c k) TT VM;have b1:=G8 c (T8 c k).left k;have b2:=G8 c (T8 c k).right k;refine Pf.run [cat c,.d (num k),.any,.any,.any,.any,.any,.any,.any,.any,.any,.any,.any] rfl rfl rfl rfl ?_
 repeat' (first|refine XX (e:=(k:Int) - (c.j3.length:Int)) (k - c.j3.length) (h2:= ?_)|refine gx ?_|fail)
 rw [KB];refine tB (!n7 (T8 c k).kind 0 2) ?_ (fun h1=> ?_) (fun h1=> ?_)
 ·repeat' (first|refine cl (oB _ _ _) ?_|refine gx ?_|refine fk (h1:=fun hw=> ?_) (h2:=fun hw=> ?_)|refine M8 (h1:=fun hw=> ?_) (h2:=fun hw=> ?_)|refine ⟨rfl,rfl,_,rfl,?_⟩|refine ⟨rfl,rfl⟩|fail)
  all_goals exact cc
 ·refine gr ?_
  exact ⟨_,rfl,by unfold U3;rw [h1];rfl⟩
 repeat' (first|refine cl (p1) ?_|refine cl (p2) ?_|refine gx ?_|fail)
 refine tb (C2 (D4 c (T8 c k).left k) 0||(!I9 (T8 c k).right []&&C2 (D4 c (T8 c k).right k) 0)) (fun h2=> ?_) (fun h2=> ?_)
 ·refine gr ?_
  exact ⟨_,rfl,by unfold U3;rw [h1,h2];rfl⟩
 have Qa :=h2;simp only [Bool.or_eq_false_iff] at Qa;have f1:=z8 Qa.1;have f2:I9 (T8 c k).right []=false->0<=D4 c (T8 c k).right k:=fun h=>by
  have:=Qa.2;simp only [h,Bool.not_false,Bool.true_and] at this;exact z8 this
 have Sb:nM c (k+1):=fun m h h' =>by
  rcases p7 m k with h3|h3
  ·exact ho m h h3
  ·obtain rfl:m=k:=by omega
   exact ⟨f1,f2⟩
 obtain ⟨q1,e1⟩:∃ q:Nat,D4 c (T8 c k).left k=q:=⟨_,(Int.toNat_of_nonneg f1).symm⟩;have t1:=(fZ c hs (k+1) q1 (by omega) (by omega) Sb).1;have ti:=(fZ c hs (k+1) k (by omega) (by omega) Sb).2 hk;have l1:=O7 hs (k+1) q1 (by omega) (by omega) Sb;have eL:lT c k=P8 c q1:=by unfold lT;rw [e1,Int.toNat_natCast,U1 c (by omega)]
 refine tB (!bT (T8 c k)) ?_ (fun h3=> ?_) (fun h3=> ?_)
 ·repeat' (first|refine cl (p3) ?_|refine gx ?_|refine fk (h1:=fun hw=> ?_) (h2:=fun hw=> ?_)|refine M8 (h1:=fun hw=> ?_) (h2:=fun hw=> ?_)|refine ⟨rfl,rfl,_,rfl,?_⟩|refine ⟨rfl,rfl⟩|fail)
  all_goals exact cc
 ·refine gr ?_
  exact ⟨_,rfl,by unfold U3;rw [h1,h2,h3];rfl⟩
 rw [e1]
 repeat' (first|refine cl (t1) ?_|refine gx ?_|fail)
 refine Ex.Vp (fun s=>∃ (w6 w8:b6),s=⟨[cat c,.d (num k),.ptr 0 0,.d (num 0),.ptr 1 0,.d (num q1),w6,.d (ints (P8 c q1)),w8,.any,.any,.any,.any],[.cells (c.enc.map .d),.cells ((T8 c k).enc.map .d)]⟩/\w8.F2= .d (ints (rT c k))/\(rT c k).length<=2000) ?_ ?_
 ·skip
  refine tb (!I9 (T8 c k).right []) (fun h4=> ?_) (fun h4=> ?_)
  ·simp only [j9] at h4
   obtain ⟨q2,e2⟩:∃ q:Nat,D4 c (T8 c k).right k=q:=⟨_,(Int.toNat_of_nonneg (f2 h4)).symm⟩;have t2:=(fZ c hs (k+1) q2 (by omega) (by omega) Sb).1;have l2:=O7 hs (k+1) q2 (by omega) (by omega) Sb;have eR:rT c k=P8 c q2:=by unfold rT;rw [h4,e2,if_neg (by simp),Int.toNat_natCast,U1 c (by omega)]
   rw [e2]
   repeat' (first|refine cl (t2) ?_|refine gx ?_|fail)
   exact ⟨_,_,rfl,by rw [eR];rfl,by rw [eR];exact l2⟩
  ·simp only [B4] at h4
   have eR:rT c k=[]:=by unfold rT;rw [h4,if_pos rfl]
   refine gr ?_;exact ⟨_,_,rfl,by rw [eR];rfl,by rw [eR];simp⟩
 rintro _ ⟨w6,w8,rfl,hw8,lR⟩;have hin:(ins c k).length<=100000:=by
  have:ins c k=lT c k++rT c k:=rfl;rw [this,eL];simp;omega
 have pS:=at9 (P8 c q1) (rT c k) (by omega);have pP:=au0 (T8 c k).on (P8 c q1) (rT c k) hv3 (by omega) (by omega);have pW:=Iq (T8 c k).wh (ins c k) hv4 hin;have pC:=Ym (T8 c k) (ins c k) TT VM hin (fun i h=>hs.yX _ i hv h) (fun i h=>hs.Kf _ i hv h);have eL' :=eL.symm;rw [eL'];rw [<- eL] at pS pP;clear p1 p2 p3 t1 eL' eL;refine gr ?_;refine tb (o8 (T8 c k).kind 2) (fun h5=> ?_) (fun h5=> ?_)
 ·refine gr ?_
  refine tB (!cw o8 (lT c k) (rT c k)) ?_ (fun h6=> ?_) (fun h6=> ?_)
  ·repeat' (first|refine mvS hw8 ?_|refine cl (pS) ?_|refine gx ?_|refine fk (h1:=fun hw=> ?_) (h2:=fun hw=> ?_)|refine M8 (h1:=fun hw=> ?_) (h2:=fun hw=> ?_)|refine ⟨rfl,rfl,_,rfl,?_⟩|refine ⟨rfl,rfl⟩|fail)
   all_goals exact cc
  ·refine gr ?_
   exact ⟨_,rfl,by unfold U3;rw [h1,h2,h3,h5,h6];rfl⟩
  ·refine gr ?_
   exact ⟨_,rfl,by unfold U3;rw [h1,h2,h3,h5,h6];rfl⟩
 repeat' (first|refine mvS hw8 ?_|refine cl (pP) ?_|refine gx ?_|fail)
 refine tb (!o8 (G6 (lT c k) (rT c k) (T8 c k).on) 0) (fun h6=> ?_) (fun h6=> ?_)
 ·refine gr ?_
  exact ⟨_,rfl,by unfold U3;rw [h1,h2,h3,h5,h6];rfl⟩
 repeat' (first|refine cl (ti) ?_|refine gx ?_|fail)
 refine tb (C2 0 (T8 c k).wh.length) (fun h7=> ?_) (fun h7=> ?_)
 ·repeat' (first|refine cl (pW) ?_|refine gx ?_|fail)
  refine tb (!o8 (E4 (T8 c k).wh (ins c k)).2 0) (fun h8=> ?_) (fun h8=> ?_)
  ·refine gr ?_
   exact ⟨_,rfl,by unfold U3;rw [h1,h2,h3,h5,h6,h7,h8];rfl⟩
  refine gr ?_;refine tb (!o8 (E4 (T8 c k).wh (ins c k)).1 1) (fun h9=> ?_) (fun h9=> ?_)
  ·refine gr ?_
   exact ⟨_,rfl,by unfold U3;rw [h1,h2,h3,h5,h6,h7,h8,h9];rfl⟩
  repeat' (first|refine cl (pC) ?_|refine gx ?_|fail)
  exact ⟨_,rfl,by unfold U3;rw [h1,h2,h3,h5,h6,h7,h8,h9];rfl⟩
 ·repeat' (first|refine cl (pC) ?_|refine gx ?_|fail)
  exact ⟨_,rfl,by unfold U3;rw [h1,h2,h3,h5,h6,h7];rfl⟩
def jk (c:m9)(name:C7)(col:Int):Int×Int :=
 if C2 (D4 c name (m9.ns c)) 0 then (0,7)
 else if !n7 col 0 ((P8 c (D4 c name (m9.ns c)).toNat).length - 1) then (0,3)
 else (nth (P8 c (D4 c name (m9.ns c)).toNat) col.toNat,0)
theorem GH {c:m9}(hs:E8 c):m9.ns c<=2000:=by obtain ⟨f0,f1,_⟩:=hs.sm.fI;unfold m9.ns;omega
theorem Nc (c:m9)(hs:E8 c)(ho:nM c (m9.ns c))(name:C7)(col:Int):Pf A 103 [cat c,.d (.str name),.d (num col)] (.tuple [.d (num (jk c name col).1),.d (num (jk c name col).2)]):=by
 have aN:=GH hs;have TN:m9.ns c=c.j3.length+c.views.length:=rfl;have p1:=Bo c name (m9.ns c) hs.sm.fI (by omega);have b1:=G8 c name (m9.ns c);refine Pf.run [cat c,.d (.str name),.d (num col),.any,.any,.any,.any,.any] rfl rfl rfl rfl ?_
 repeat' (first|refine cl (p1) ?_|refine gx ?_|fail)
 refine tb (C2 (D4 c name (m9.ns c)) 0) (fun h1=> ?_) (fun h1=> ?_)
 ·refine gr ?_
  exact ⟨_,rfl,by simp only [jk,h1,if_true];rfl⟩
 have h2:=z8 h1;obtain ⟨q,e1⟩:∃ q:Nat,D4 c name (m9.ns c)=q:=⟨_,(Int.toNat_of_nonneg h2).symm⟩;have t1:=(fZ c hs (m9.ns c) q (by omega) (by omega) ho).1;have l1:=O7 hs (m9.ns c) q (by omega) (by omega) ho;rw [e1] at h1 ⊢
 repeat' (first|refine cl (t1) ?_|refine gx ?_|fail)
 refine tB (!n7 col 0 ((P8 c q).length - 1)) ?_ (fun h3=> ?_) (fun h3=> ?_)
 ·repeat' (first|refine cl (oB _ _ _) ?_|refine gx ?_|refine fk (h1:=fun hw=> ?_) (h2:=fun hw=> ?_)|refine M8 (h1:=fun hw=> ?_) (h2:=fun hw=> ?_)|refine ⟨rfl,rfl,_,rfl,?_⟩|refine ⟨rfl,rfl⟩|fail)
  all_goals exact cc
 ·refine gr ?_
  exact ⟨_,rfl,by simp only [jk,e1,h1,Int.toNat_natCast,h3,b7,if_false,if_true];rfl⟩
 have h4:=h3;simp [n7,o5] at h4;refine gr ?_;exact ⟨_,rfl,by simp only [jk,e1,h1,Int.toNat_natCast,h3,b7,if_false];rfl⟩
def skt (x:gv):b6:= .agg (x.enc.map .d)
def rls (x:iO):b6:= .agg (x.enc.map .d)
def bkp (x:kH):b6:= .agg (x.enc.map .d)
def BE (x:gv):Bool:= !n7 x.kind 0 2|| !n7 x.width 1 1024|| !n7 x.depth 1 8||(o8 x.kind 2&& !o8 x.depth 1)||C2 1024 (x.width * x.depth)
def yp (c:m9)(x:gv):Int:=if !o8 (jk c x.source x.col).2 0 then (jk c x.source x.col).2 else if BE x then 1 else 0
set_option maxHeartbeats 8000000 in
theorem Yn (c:m9)(hs:E8 c)(ho:nM c (m9.ns c))(x:gv):Pf A 104 [cat c,skt x] (.d (num (yp c x))):=by
 have p1:=Nc c hs ho x.source x.col;refine Pf.run [cat c,skt x,.any,.any,.any,.any] rfl rfl rfl rfl ?_
 repeat' (first|refine cl (p1) ?_|refine gx ?_|fail)
 refine tb (!o8 (jk c x.source x.col).2 0) (fun h1=> ?_) (fun h1=> ?_)
 ·refine gr ?_
  exact ⟨_,rfl,by simp only [yp,h1,if_true];rfl⟩
 refine gr ?_;cases hW:n7 x.width 1 1024 with
 |false =>
  refine tB (true) ?_ (fun h2=> ?_) (fun h2=> ?_)
  ·repeat' (first|refine cl (oB _ _ _) ?_|refine gx ?_|refine fk (h1:=fun hw=> ?_) (h2:=fun hw=> ?_)|refine M8 (h1:=fun hw=> ?_) (h2:=fun hw=> ?_)|refine ⟨rfl,rfl,_,rfl,?_⟩|refine ⟨rfl,rfl⟩|fail)
   all_goals first|(simp [*,b9,hW];done)|(simp_all [b9,hW];done)|(simp_all [b9,hW,o9,o5,j5,A3];done)|(simp_all [b9,hW,o9,o5,j5,A3]<;>omega)
  ·refine gr ?_
   exact ⟨_,rfl,by simp [yp,h1,BE,hW,b9,num]⟩
  ·cases h2
 |true =>
 cases hD:n7 x.depth 1 8 with
 |false =>
  refine tB (true) ?_ (fun h2=> ?_) (fun h2=> ?_)
  ·repeat' (first|refine cl (oB _ _ _) ?_|refine gx ?_|refine fk (h1:=fun hw=> ?_) (h2:=fun hw=> ?_)|refine M8 (h1:=fun hw=> ?_) (h2:=fun hw=> ?_)|refine ⟨rfl,rfl,_,rfl,?_⟩|refine ⟨rfl,rfl⟩|fail)
   all_goals first|(simp [*,b9,hW,hD];done)|(simp_all [b9,hW,hD];done)|(simp_all [b9,hW,hD,o9,o5,j5,A3];done)|(simp_all [b9,hW,hD,o9,o5,j5,A3]<;>omega)
  ·refine gr ?_
   exact ⟨_,rfl,by simp [yp,h1,BE,hD,b9,num]⟩
  ·cases h2
 |true =>
 have hm: -9223372036854775808<=x.width * x.depth/\x.width * x.depth<9223372036854775808:=by
  simp [n7,o5] at hW hD;have m1:=Int.mul_le_mul hW.2 hD.2 (by omega) (by omega);have m2:=Int.mul_nonneg (a:=x.width) (b:=x.depth) (by omega) (by omega);omega
 refine tB (BE x) ?_ (fun h2=> ?_) (fun h2=> ?_)
 ·repeat' (first|refine cl (oB _ _ _) ?_|refine mu (h0:=hm) ?_|refine gx ?_|refine fk (h1:=fun hw=> ?_) (h2:=fun hw=> ?_)|refine M8 (h1:=fun hw=> ?_) (h2:=fun hw=> ?_)|refine ⟨rfl,rfl,_,rfl,?_⟩|refine ⟨rfl,rfl⟩|fail)
  all_goals first|(simp [*,b9,BE,hW,hD];done)|(simp_all [b9,BE,hW,hD];done)|(simp_all [b9,BE,hW,hD,o9,o5,j5,A3];done)|(simp_all [b9,BE,hW,hD,o9,o5,j5,A3]<;>omega)
 ·refine gr ?_
  exact ⟨_,rfl,by simp only [yp,h1,h2,b7,if_false,if_true];rfl⟩
 ·refine gr ?_
  exact ⟨_,rfl,by simp only [yp,h1,h2,b7,if_false];rfl⟩
def DN (c:m9)(x:iO):Int :=
 if C2 (D4 c x.source (m9.ns c)) c.j3.length then 7
 else if !o8 (nth c.views (D4 c x.source (m9.ns c) - c.j3.length).toNat).kind 1|| !o8 (nth (nth c.views (D4 c x.source (m9.ns c) - c.j3.length).toNat).B3 0).func 0|| !n7 x.SP 1 1024 then 1 else 0
set_option maxHeartbeats 8000000 in
theorem Yo (c:m9)(hs:E8 c)(hg:∀ k,k<c.views.length->(nth c.views k).kind≠1\/0<(nth c.views k).B3.length)(x:iO):Pf A 105 [cat c,rls x] (.d (num (DN c x))):=by
 have aN:=GH hs;have TN:m9.ns c=c.j3.length+c.views.length:=rfl;have p1:=Bo c x.source (m9.ns c) hs.sm.fI (by omega);have b1:=G8 c x.source (m9.ns c);refine Pf.run [cat c,rls x,.any,.any,.any,.any,.any] rfl rfl rfl rfl ?_
 repeat' (first|refine cl (p1) ?_|refine gx ?_|fail)
 refine tb (C2 (D4 c x.source (m9.ns c)) c.j3.length) (fun h1=> ?_) (fun h1=> ?_)
 ·refine gr ?_
  exact ⟨_,rfl,by simp only [DN,h1,if_true];rfl⟩
 have h2:=z8 h1;have h3:=hg (D4 c x.source (m9.ns c) - c.j3.length).toNat (by omega);refine gr ?_;refine tB (!o8 (nth c.views (D4 c x.source (m9.ns c) - c.j3.length).toNat).kind 1|| !o8 (nth (nth c.views (D4 c x.source (m9.ns c) - c.j3.length).toNat).B3 0).func 0|| !n7 x.SP 1 1024) ?_ (fun h4=> ?_) (fun h4=> ?_)
 ·repeat' (first|refine cl (oB _ _ _) ?_|refine gx ?_|refine fk (h1:=fun hw=> ?_) (h2:=fun hw=> ?_)|refine M8 (h1:=fun hw=> ?_) (h2:=fun hw=> ?_)|refine ⟨rfl,rfl,_,rfl,?_⟩|refine ⟨rfl,rfl⟩|fail)
  all_goals exact cc
 ·refine gr ?_
  exact ⟨_,rfl,by simp only [DN,h1,h4,b7,if_false,if_true];rfl⟩
 ·refine gr ?_
  exact ⟨_,rfl,by simp only [DN,h1,h4,b7,if_false];rfl⟩
def RN (c:m9):List C7->List C7->Int
 |_,[]=>0
 |seen,t::r=>if C2 (dm c t c.j3.length) 0 then 7 else if seen.any fun y=>I9 y t then 4 else RN c (seen++[t]) r
def Cp (c:m9)(x:kH):Int:=if o8 x.tables.length 0|| !n7 x.keep 1 1048576 then 1 else RN c [] x.tables
set_option maxHeartbeats 8000000 in
theorem Yp (c:m9)(hf:c.fI)(x:kH)(hx:x.tables.length<=1000):Pf A 107 [cat c,bkp x] (.d (num (Cp c x))):=by
 have hn:c.j3.length<=1000:=hf.1;refine Pf.run [cat c,bkp x,.any,.any,.any,.any,.any] rfl rfl rfl rfl ?_;refine gr ?_;refine tB (o8 x.tables.length 0|| !n7 x.keep 1 1048576) ?_ (fun h1=> ?_) (fun h1=> ?_)
 ·repeat' (first|refine cl (oB _ _ _) ?_|refine gx ?_|refine fk (h1:=fun hw=> ?_) (h2:=fun hw=> ?_)|refine M8 (h1:=fun hw=> ?_) (h2:=fun hw=> ?_)|refine ⟨rfl,rfl,_,rfl,?_⟩|refine ⟨rfl,rfl⟩|fail)
  all_goals exact cc
 ·refine gr ?_
  exact ⟨_,rfl,by simp only [Cp,h1,if_true];rfl⟩
 refine gr ?_;refine Ex.I7 (fun k T H=>∃ (i:Nat) (w0 w1 w4 w6:b6),T=[w0,w1,.ptr 0 0,.ptr 1 0,w4,.d (num i),w6]/\H=[.cells (c.enc.map .d),.cells (x.enc.map .d)]/\i+k=x.tables.length/\Cp c x=RN c (x.tables.take i) (x.tables.drop i)) (by rintro _ _ _ ⟨_,_,_,_,_,_,rfl,_⟩;rfl) ?_ (k:=x.tables.length) ⟨0,_,_,_,_,rfl,rfl,by simp,by simp [Cp,h1]⟩;rintro k _ _ ⟨i,w0,w1,w4,w6,rfl,rfl,hk,hi⟩;refine Ex.nT ?_;refine Ex.seq ?_;refine tb (C2 i x.tables.length) (fun h2=> ?_) (fun h2=> ?_)
 ·have h3:=z6 h2
  rw [A4 (by omega)] at hi;have p1:=Nd c (nth x.tables i) c.j3.length hf (by omega);refine gr ?_;refine tB (C2 (dm c (nth x.tables i) c.j3.length) 0) ?_ (fun h4=> ?_) (fun h4=> ?_)
  ·repeat' (first|refine cl (p1) ?_|refine gx ?_|refine fk (h1:=fun hw=> ?_) (h2:=fun hw=> ?_)|refine M8 (h1:=fun hw=> ?_) (h2:=fun hw=> ?_)|refine ⟨rfl,rfl,_,rfl,?_⟩|refine ⟨rfl,rfl⟩|fail)
   all_goals exact cc
  ·refine gr ?_
   exact ⟨_,rfl,by rw [hi];simp only [RN,h4,if_true];rfl⟩
  refine gr ?_;refine Ex.I7 (fun k T H=>∃ (j:Nat) (w0 w1 w4:b6),T=[w0,w1,.ptr 0 0,.ptr 1 0,w4,.d (num i),.d (num j)]/\H=[.cells (c.enc.map .d),.cells (x.enc.map .d)]/\j+k=i/\((x.tables.take i).any fun y=>I9 y (nth x.tables i))=(((x.tables.take i).drop j).any fun y=>I9 y (nth x.tables i))) (by rintro _ _ _ ⟨_,_,_,_,_,rfl,_⟩;rfl) ?_ (k:=i) ⟨0,_,_,_,rfl,rfl,by simp,by simp⟩;rintro k2 _ _ ⟨j,w0,w1,w4,rfl,rfl,hk2,hj⟩;refine Ex.nT ?_;refine Ex.seq ?_;refine tb (C2 j i) (fun h5=> ?_) (fun h5=> ?_)
  ·have h6:=z6 h5
   rw [iD (by omega) (by omega)] at hj
   repeat' (first|refine gx ?_|refine Ex.J6 ?_|refine Ex.J8 ?_|refine Ex.cond rfl (fun ht=> ?_) (fun ht=> ?_)|refine Ex.test (Rn.text ?_)|refine Ex.test (Rn.draw ?_)|refine ⟨_,rfl,fun ht=> ?_,fun ht=> ?_⟩|refine ⟨_,rfl,?_⟩|fail)
   ·have g2:((x.tables.take i).any fun y=>I9 y (nth x.tables i))=true:=by rw [hj];simp [ht]
    rw [hi];simp only [RN,h4,g2,b9,num,b7,if_true,if_false]
   ·exact ⟨k2 - 1,by omega,j+1,_,_,_,rfl,rfl,by omega,by rw [hj];simp [ht]⟩
  have h6:=z8 h5;rw [m7 (by simp;omega)] at hj;have g2:((x.tables.take i).any fun y=>I9 y (nth x.tables i))=false:=by rw [hj];rfl
  refine gr ?_;refine ⟨k - 1,by omega,i+1,_,_,_,_,rfl,rfl,by omega,?_⟩;rw [hi,I6 (by omega)];simp only [RN,h4,g2,b7,if_false]
 ·have h3:=z8 h2
  rw [m7 (by omega)] at hi;refine gr ?_;exact ⟨_,rfl,by rw [hi];rfl⟩
def KC (c:m9)(x:gD):Int:=if o8 (jk c x.source x.col).2 0&& !o8 (jk c x.source x.col).1 2 then 5 else (jk c x.source x.col).2
def Ki (c:m9)(x:jy):Int:=if o8 (jk c x.source x.col).2 0&& !n7 x.ttl 1 1048576 then 1 else (jk c x.source x.col).2
def Lj (c:m9)(x:kI):Int:=if C2 (dm c x.table c.j3.length) 0 then 7 else 0
def T4 (c:m9)(n:Nat):Int :=
 if n<c.idxs.length then KC c (nth c.idxs n)
 else if n - c.idxs.length<c.D6.length then yp c (nth c.D6 (n - c.idxs.length))
 else if n - c.idxs.length - c.D6.length<c.E3.length then Ki c (nth c.E3 (n - c.idxs.length - c.D6.length))
 else if n - c.idxs.length - c.D6.length - c.E3.length<c.G9.length then DN c (nth c.G9 (n - c.idxs.length - c.D6.length - c.E3.length))
 else if n - c.idxs.length - c.D6.length - c.E3.length - c.G9.length<c.J3.length then Lj c (nth c.J3 (n - c.idxs.length - c.D6.length - c.E3.length - c.G9.length))
 else Cp c (nth c.K8 (n - c.idxs.length - c.D6.length - c.E3.length - c.G9.length - c.J3.length))
set_option maxHeartbeats 16000000 in
theorem at2 (c:m9)(hs:E8 c)(ho:nM c (m9.ns c))(hg:∀ k,k<c.views.length->(nth c.views k).kind≠1\/0<(nth c.views k).B3.length)(n:Nat)(hn:n<c.idxs.length+c.D6.length+c.E3.length+c.G9.length+c.J3.length+c.K8.length) :
  Pf A 67 [cat c,.d (num n)] (.d (num (T4 c n))):=by
 obtain ⟨f0,f1,f2,f3,f4,f5,f6,f7⟩:=hs.sm.fI;refine Pf.run [cat c,.d (num n),.any,.any,.any,.any,.any] rfl rfl rfl rfl ?_;refine gr ?_;refine tb (C2 n c.idxs.length) (fun h1=> ?_) (fun h1=> ?_)
 ·have h1' :=z6 h1
  have p1:=Nc c hs ho (nth c.idxs n).source (nth c.idxs n).col;have e1:T4 c n=KC c (nth c.idxs n):=by unfold T4;rw [if_pos (by omega)]
  repeat' (first|refine cl (p1) ?_|refine gx ?_|fail)
  refine tb (o8 (jk c (nth c.idxs n).source (nth c.idxs n).col).2 0&& !o8 (jk c (nth c.idxs n).source (nth c.idxs n).col).1 2) (fun h2=> ?_) (fun h2=> ?_)
  ·refine gr ?_
   exact ⟨_,rfl,by rw [e1];unfold KC;rw [h2];rfl⟩
  ·refine gr ?_
   exact ⟨_,rfl,by rw [e1];unfold KC;rw [h2];rfl⟩
 have h1' :=z8 h1;refine gr ?_;generalize Gq:n - c.idxs.length=m1;have g1:(n:Int) - (c.idxs.length:Int)=(m1:Int):=by omega
 rw [g1];refine tb (C2 m1 c.D6.length) (fun h3=> ?_) (fun h3=> ?_)
 ·have ZV :=z6 h3
  have p1:=Yn c hs ho (nth c.D6 m1);have e1:T4 c n=yp c (nth c.D6 m1):=by unfold T4;rw [if_neg (by omega),Gq,if_pos (by omega)]
  repeat' (first|refine cl (p1) ?_|refine gx ?_|fail)
  exact ⟨_,rfl,by rw [e1];rfl⟩
 have ZV :=z8 h3;refine gr ?_;generalize hm2:m1 - c.D6.length=m2;have g2:(m1:Int) - (c.D6.length:Int)=(m2:Int):=by omega
 rw [g2];refine tb (C2 m2 c.E3.length) (fun h4=> ?_) (fun h4=> ?_)
 ·have h4' :=z6 h4
  have p1:=Nc c hs ho (nth c.E3 m2).source (nth c.E3 m2).col;have e1:T4 c n=Ki c (nth c.E3 m2):=by unfold T4;rw [if_neg (by omega),Gq,if_neg (by omega),hm2,if_pos (by omega)]
  repeat' (first|refine cl (p1) ?_|refine gx ?_|fail)
  refine tB (o8 (jk c (nth c.E3 m2).source (nth c.E3 m2).col).2 0&& !n7 (nth c.E3 m2).ttl 1 1048576) ?_ (fun h2=> ?_) (fun h2=> ?_)
  ·repeat' (first|refine cl (oB _ _ _) ?_|refine gx ?_|refine fk (h1:=fun hw=> ?_) (h2:=fun hw=> ?_)|refine M8 (h1:=fun hw=> ?_) (h2:=fun hw=> ?_)|refine ⟨rfl,rfl,_,rfl,?_⟩|refine ⟨rfl,rfl⟩|fail)
   all_goals exact cc
  ·refine gr ?_
   exact ⟨_,rfl,by rw [e1];unfold Ki;rw [h2];rfl⟩
  ·refine gr ?_
   exact ⟨_,rfl,by rw [e1];unfold Ki;rw [h2];rfl⟩
 have h4' :=z8 h4;refine gr ?_;generalize hm3:m2 - c.E3.length=m3;have g3:(m2:Int) - (c.E3.length:Int)=(m3:Int):=by omega
 rw [g3];refine tb (C2 m3 c.G9.length) (fun h5=> ?_) (fun h5=> ?_)
 ·have h5' :=z6 h5
  have p1:=Yo c hs hg (nth c.G9 m3);have e1:T4 c n=DN c (nth c.G9 m3):=by unfold T4;rw [if_neg (by omega),Gq,if_neg (by omega),hm2,if_neg (by omega),hm3,if_pos (by omega)]
  repeat' (first|refine cl (p1) ?_|refine gx ?_|fail)
  exact ⟨_,rfl,by rw [e1];rfl⟩
 have h5' :=z8 h5;refine gr ?_;generalize hm4:m3 - c.G9.length=m4;have g4:(m3:Int) - (c.G9.length:Int)=(m4:Int):=by omega
 rw [g4];refine tb (C2 m4 c.J3.length) (fun h6=> ?_) (fun h6=> ?_)
 ·have h6' :=z6 h6
  have p1:=Nd c (nth c.J3 m4).table c.j3.length hs.sm.fI (by omega);have e1:T4 c n=Lj c (nth c.J3 m4):=by unfold T4;rw [if_neg (by omega),Gq,if_neg (by omega),hm2,if_neg (by omega),hm3,if_neg (by omega),hm4,if_pos (by omega)]
  refine gr ?_;refine tB (C2 (dm c (nth c.J3 m4).table c.j3.length) 0) ?_ (fun h2=> ?_) (fun h2=> ?_)
  ·repeat' (first|refine cl (p1) ?_|refine gx ?_|refine fk (h1:=fun hw=> ?_) (h2:=fun hw=> ?_)|refine M8 (h1:=fun hw=> ?_) (h2:=fun hw=> ?_)|refine ⟨rfl,rfl,_,rfl,?_⟩|refine ⟨rfl,rfl⟩|fail)
   all_goals exact cc
  ·refine gr ?_
   exact ⟨_,rfl,by rw [e1];unfold Lj;rw [h2];rfl⟩
  ·refine gr ?_
   exact ⟨_,rfl,by rw [e1];unfold Lj;rw [h2];rfl⟩
 have h6' :=z8 h6;have hb:=hs.bk (m4 - c.J3.length) (by omega);have p1:=Yp c hs.sm.fI (nth c.K8 (m4 - c.J3.length)) hb;have e1:T4 c n=Cp c (nth c.K8 (m4 - c.J3.length)):=by unfold T4;rw [if_neg (by omega),Gq,if_neg (by omega),hm2,if_neg (by omega),hm3,if_neg (by omega),hm4,if_neg (by omega)]
 repeat' (first|refine cl (p1) ?_|refine XX (e:=(m4:Int) - (c.J3.length:Int)) (m4 - c.J3.length) (h2:= ?_)|refine gx ?_|fail)
 exact ⟨_,rfl,by rw [e1];rfl⟩
theorem Ex.Zu {A:Go.u7.Prog}{l:F9}{b:Nat}{c:p5}{st:St}{Q:D2->St->Prop}(P:St->Prop)(h1:Ex A l b c st (rJ (fun _ _=>False) P))(h2:∀ s,P s->Q .normal s):Ex A l b c st Q:=by
 refine h1.mono fun x s h=> ?_
 cases x with
 |normal=>exact h2 s h
 |exit i=>exact h.elim
 |ret=>exact h.elim
def zf (a b c d e f:Int):Bool:=C2 16 a||C2 16 b||C2 16 c||C2 16 d||C2 16 e||C2 16 f
def tooMany (c:m9):Bool:=C2 8 c.j3.length||C2 12 c.views.length||zf c.idxs.length c.D6.length c.E3.length c.G9.length c.J3.length c.K8.length
def max2 (x y:Int):Int:=if y>x then y else x
theorem Qs (x y:Int):C2 16 (max2 x y)=(C2 16 x||C2 16 y):=by
 unfold max2;simp only [o9];split
 ·cases h:decide ((16:Int)<x) with
  |false=>simp
  |true=>simp at h ⊢;omega
 ·cases h:decide ((16:Int)<y) with
  |false=>simp
  |true=>simp at h ⊢;omega
theorem MK (a b c d e f:Int):C2 16 (max2 (max2 (max2 (max2 (max2 a b) c) d) e) f)=zf a b c d e f:=by
 simp only [Qs,zf]
def J2 (c:m9)(i:Nat):Int :=
 if !D3 (nth c.names i) then 3 else if (c.names.take i).any fun y=>I9 y (nth c.names i) then 4
 else if i<c.j3.length then cU c i else if i<m9.ns c then U3 c i else T4 c (i - m9.ns c)
def aI (c:m9):Nat->Nat->Int×Int
 |0,_=>(0,0)
 |k+1,i=>if !o8 (J2 c i) 0 then (i,J2 c i) else aI c k (i+1)
def L1 (c:m9):Int×Int:=if tooMany c then (0,8) else aI c c.names.length 0
theorem jG {c:m9}{m:Nat}(h:J2 c m=0):(!D3 (nth c.names m))=false/\((c.names.take m).any fun y=>I9 y (nth c.names m))=false:=by
 unfold J2 at h;constructor
 ·cases h1:(!D3 (nth c.names m)) with
  |false=>rfl
  |true=>rw [h1] at h;simp at h
 ·cases h1:(!D3 (nth c.names m)) with
  |true=>rw [h1] at h;simp at h
  |false =>
   rw [h1] at h;cases h2:((c.names.take m).any fun y=>I9 y (nth c.names m)) with
   |false=>rfl
   |true=>rw [h2] at h;simp at h
theorem dU {c:m9}{m:Nat}(h:J2 c m=0)(hm:m<c.j3.length):cU c m=0:=by
 obtain ⟨h1,h2⟩:=jG h;unfold J2 at h;rw [h1,h2,if_neg (by simp),if_neg (by simp),if_pos hm] at h;exact h
theorem bH {c:m9}{m:Nat}(h:J2 c m=0)(hm:c.j3.length<=m)(hm2:m<m9.ns c):U3 c m=0:=by
 obtain ⟨h1,h2⟩:=jG h;unfold J2 at h;rw [h1,h2,if_neg (by simp),if_neg (by simp),if_neg (by omega),if_pos hm2] at h;exact h
theorem cy {c:m9}{m:Nat}(h:cU c m=0):0<(nth c.j3 m).m8.length/\(nth c.j3 m).m8.length<=8:=by
 unfold cU at h;split at h
 ·omega
 ·rename_i h1
  simp [n7,o5] at h1;omega
theorem cB {c:m9}{m:Nat}(h:U3 c m=0):n7 (T8 c m).kind 0 2=true/\0<=D4 c (T8 c m).left m/\(I9 (T8 c m).right []=false->0<=D4 c (T8 c m).right m)/\bT (T8 c m)=true:=by
 unfold U3 at h;split at h
 ·omega
 ·rename_i h0
  split at h
  ·omega
  ·rename_i h1
   split at h
   ·omega
   ·rename_i h2
    simp only [Bool.not_eq_true,Bool.or_eq_false_iff] at h1;refine ⟨by simpa using h0,z8 h1.1,fun h3=> ?_,by simpa using h2⟩;have:=h1.2;rw [h3] at this;exact z8 (by simpa using this)
theorem rX {v:Vw}(h:bT v=true):v.kind≠1\/0<v.B3.length:=by
 cases h1:o8 v.kind 1 with
 |false=>exact Or.inl (sM h1)
 |true =>
  right;have h2:=X2 h1;unfold bT at h;have h3:o8 v.kind 2=false:=by rw [h2];simp [j5]
  have h4:o8 v.kind 0=false:=by rw [h2];simp [j5]
  rw [h3,h4] at h;simp only [b7,if_false,b5,j9,Bool.or_eq_false_iff] at h;have:=sM h.1.1;omega
def br (c:m9)(i:Nat):Prop:=∀ m,m<i->J2 c m=0
theorem S8 {c:m9}{i:Nat}(h:br c i)(hi:i<=m9.ns c):nM c i:=fun k h1 h2=>by
 have:=cB (bH (h k h2) h1 (by omega));exact ⟨this.2.1,this.2.2.1⟩
theorem R7 (c:m9):c.names.length=m9.ns c+(c.idxs.length+c.D6.length+c.E3.length+c.G9.length+c.J3.length+c.K8.length):=by simp [m9.names,m9.ns];omega
set_option maxHeartbeats 16000000 in
theorem as7 (c:m9)(hs:E8 c):Pf A 27 [cat c] (pair (L1 c)):=by
 have hnl:=R7 c;have aN:m9.ns c=c.j3.length+c.views.length:=rfl;obtain ⟨f0,f1,f2,f3,f4,f5,f6,f7⟩:=id hs.sm.fI;have VK:=MK c.idxs.length c.D6.length c.E3.length c.G9.length c.J3.length c.K8.length;refine Pf.run [cat c,.any,.any,.any,.any,.any,.any,.any] rfl rfl rfl rfl ?_;refine gr ?_;refine tB (tooMany c) ?_ (fun h1=> ?_) (fun h1=> ?_)
 ·repeat' (first|refine mm (d:= .int .i64 (max2 (max2 (max2 (max2 (max2 c.idxs.length c.D6.length) c.E3.length) c.G9.length) c.J3.length) c.K8.length)) ?_|refine gx ?_|refine fk (h1:=fun hw=> ?_) (h2:=fun hw=> ?_)|refine M8 (h1:=fun hw=> ?_) (h2:=fun hw=> ?_)|refine ⟨rfl,rfl,_,rfl,?_⟩|refine ⟨rfl,rfl⟩|fail)
  all_goals first|(simp [*,b9,tooMany,VK];done)|(simp_all [b9,tooMany,VK];done)|(simp_all [b9,tooMany,VK,o9,o5,j5,A3];done)|(simp_all [b9,tooMany,VK,o9,o5,j5,A3]<;>omega)
 ·refine gr ?_
  exact ⟨_,rfl,by unfold L1;rw [h1];rfl⟩
 repeat' (first|refine cl (YP c hs.sm.fI) ?_|refine gx ?_|fail)
 refine Ex.I7 (fun k T H=>∃ (i:Nat) (w0 w2 w3 w6 w7:b6),T=[w0,.ptr 0 0,w2,w3,.d (y7 encS c.names),.d (num i),w6,w7]/\H=[.cells (c.enc.map .d)]/\i+k=c.names.length/\br c i/\L1 c=aI c k i) (by rintro _ _ _ ⟨_,_,_,_,_,_,_,rfl,_⟩;rfl) ?_ (k:=c.names.length) ⟨0,_,_,_,_,_,rfl,rfl,by simp,fun m h=>absurd h (by omega),by unfold L1;rw [h1];rfl⟩;rintro k _ _ ⟨i,w0,w2,w3,w6,w7,rfl,rfl,hk,hok,hi⟩;refine Ex.nT ?_;refine Ex.seq ?_;refine tb (C2 i c.names.length) (fun h2=> ?_) (fun h2=> ?_)
 ·have h3:=z6 h2
  obtain ⟨k,rfl⟩:∃ k',k=k' +1:=⟨k - 1,by omega⟩;rw [aI] at hi;refine gr ?_;refine tB (!D3 (nth c.names i)) ?_ (fun h4=> ?_) (fun h4=> ?_)
  ·repeat' (first|refine cl (Ut _) ?_|refine gx ?_|refine fk (h1:=fun hw=> ?_) (h2:=fun hw=> ?_)|refine M8 (h1:=fun hw=> ?_) (h2:=fun hw=> ?_)|refine ⟨rfl,rfl,_,rfl,?_⟩|refine ⟨rfl,rfl⟩|fail)
   all_goals exact cc
  ·refine gr ?_
   have e1:J2 c i=3:=by unfold J2;rw [h4];rfl
   exact ⟨_,rfl,by rw [hi,e1];simp [j5,pair,b9,b6.F2,num]⟩
  refine gr ?_;refine Ex.I7 (fun k T H=>∃ (j:Nat) (w0 w2 w3 w7:b6),T=[w0,.ptr 0 0,w2,w3,.d (y7 encS c.names),.d (num i),.d (num j),w7]/\H=[.cells (c.enc.map .d)]/\j+k=i/\((c.names.take i).any fun y=>I9 y (nth c.names i))=(((c.names.take i).drop j).any fun y=>I9 y (nth c.names i))) (by rintro _ _ _ ⟨_,_,_,_,_,_,rfl,_⟩;rfl) ?_ (k:=i) ⟨0,_,_,_,_,rfl,rfl,by simp,by simp⟩;rintro k2 _ _ ⟨j,w0,w2,w3,w7,rfl,rfl,hk2,hj⟩;refine Ex.nT ?_;refine Ex.seq ?_;refine tb (C2 j i) (fun h5=> ?_) (fun h5=> ?_)
  ·have h6:=z6 h5
   rw [iD (by omega) (by omega)] at hj
   repeat' (first|refine gx ?_|refine Ex.J6 ?_|refine Ex.J8 ?_|refine Ex.cond rfl (fun ht=> ?_) (fun ht=> ?_)|refine Ex.test (Rn.text ?_)|refine Ex.test (Rn.draw ?_)|refine ⟨_,rfl,fun ht=> ?_,fun ht=> ?_⟩|refine ⟨_,rfl,?_⟩|fail)
   ·have g2:((c.names.take i).any fun y=>I9 y (nth c.names i))=true:=by rw [hj];simp [ht]
    have e1:J2 c i=4:=by unfold J2;rw [h4,g2];rfl
    rw [hi,e1];simp [j5,pair,b9,b6.F2,num]
   ·exact ⟨k2 - 1,by omega,j+1,_,_,_,_,rfl,rfl,by omega,by rw [hj];simp [ht]⟩
  have h6:=z8 h5;rw [m7 (by simp;omega)] at hj;have g2:((c.names.take i).any fun y=>I9 y (nth c.names i))=false:=by rw [hj];rfl
  clear hj hk2 h5 h6;refine gr ?_;refine Ex.Zu (fun s=>∃ (w0 w2 w3 w6:b6),s=⟨[w0,.ptr 0 0,w2,w3,.d (y7 encS c.names),.d (num i),w6,.d (num (J2 c i))],[.cells (c.enc.map .d)]⟩) ?_ ?_
  ·skip
   refine tb (C2 i c.j3.length) (fun h5=> ?_) (fun h5=> ?_)
   ·have h6:=z6 h5
    have p1:=at0 c i hs.sm (by omega) (fun m hm=>(cy (dU (hok m hm) (by omega))).1);have e1:J2 c i=cU c i:=by unfold J2;rw [h4,g2,if_neg (by simp),if_neg (by simp),if_pos (by omega)]
    rw [e1]
    repeat' (first|refine cl (p1) ?_|refine gx ?_|fail)
    exact ⟨_,_,_,_,rfl⟩
   have h6:=z8 h5;refine tB (C2 i (m9.ns c)) ?_ (fun h7=> ?_) (fun h7=> ?_)
   ·repeat' (first|refine cl (aN) ?_|refine gx ?_|refine fk (h1:=fun hw=> ?_) (h2:=fun hw=> ?_)|refine M8 (h1:=fun hw=> ?_) (h2:=fun hw=> ?_)|refine ⟨rfl,rfl,_,rfl,?_⟩|refine ⟨rfl,rfl⟩|fail)
    all_goals exact cc
   ·have h8:=z6 h7
    have p1:=at1 c hs i (by omega) (by omega) (S8 hok (by omega));have e1:J2 c i=U3 c i:=by unfold J2;rw [h4,g2,if_neg (by simp),if_neg (by simp),if_neg (by omega),if_pos (by omega)]
    rw [e1]
    repeat' (first|refine cl (p1) ?_|refine gx ?_|fail)
    exact ⟨_,_,_,_,rfl⟩
   ·have h8:=z8 h7
    have p1:=at2 c hs (S8 (fun m hm=>hok m (by omega)) (l5 _)) (fun m hm=>by
     have h9:=cB (bH (hok (m+c.j3.length) (by omega)) (by omega) (by omega));have PZ:T8 c (m+c.j3.length)=nth c.views m:=by unfold T8;rw [Nat.add_sub_cancel]
     rw [PZ] at h9;exact rX h9.2.2.2) (i - m9.ns c) (by omega)
    have e1:J2 c i=T4 c (i - m9.ns c):=by unfold J2;rw [h4,g2,if_neg (by simp),if_neg (by simp),if_neg (by omega),if_neg (by omega)]
    rw [e1];refine gr ?_;refine cl p1 ?_ (ha:=by rw [show ((i - m9.ns c:Nat):Int)=(i:Int) - (c.j3.length:Int) - (c.views.length:Int) by omega];rfl);refine gr ?_;exact ⟨_,_,_,_,rfl⟩
  rintro _ ⟨w0,w2,w3,w6,rfl⟩;refine gr ?_;refine tb (!o8 (J2 c i) 0) (fun h5=> ?_) (fun h5=> ?_)
  ·refine gr ?_
   exact ⟨_,rfl,by rw [hi,h5];rfl⟩
  ·refine gr ?_
   refine ⟨k,by omega,i+1,_,_,_,_,_,rfl,rfl,by omega,fun m hm=> ?_,by rw [hi,h5];rfl⟩
   rcases p7 m i with h6|h6
   ·exact hok m h6
   ·obtain rfl:m=i:=by omega
    exact X2 (by simpa using h5)
 ·have h3:=z8 h2
  obtain rfl:k=0:=by omega
  refine gr ?_;exact ⟨_,rfl,by rw [hi];rfl⟩
end Go.Proofs.YtkmclibmmlgogaaGreat


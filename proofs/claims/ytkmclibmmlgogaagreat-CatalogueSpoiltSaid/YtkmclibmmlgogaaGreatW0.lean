/- Texts D20w D21w D22w D25w D26w D27w D23w (made short by a program) -/
import Derived.Test.YtkmclibmmlgogaaGreatD9
set_option linter.unusedVariables false
set_option linter.unusedSimpArgs false
open Bool renaming false_eq_true → b7
open List renaming drop_of_length_le → k9
namespace Go.Proofs.YtkmclibmmlgogaaGreat.dU
open Go.y3 Go.y3.S
attribute [local irreducible] Rx Ry Rn Ex Pf
structure XO where
 x:Int
abbrev xo [Inhabited XO]:y7:= .cells [.d (num (default:XO).x)]
variable [Inhabited XO]
def HH (c:m8)(ds:List D8)(ss:List Y4):o6 :=
 [.cells (c.enc.map .d),xo,.cells (c.enc.map .d),.map (dmap ds),.map (T3 (ss.map (·.1)) 0),.cells (c.enc.map .d++[.map 3,.map 4,B3 2 F9 ss])]
def lW:G9:=⟨0,0,6,6⟩
def lR:G9:=⟨0,6,6,6⟩
theorem lN (c:m8)(ds:List D8)(ss:List Y4)(s:D8):Pm A 61 [.ptr 5 0,.d (.str s)] (HH c ds ss) lR (.d (num (C0 s (ss.map (·.1)) 0))) (HH c ds ss):=by
 have hf:=tE s (ss.map (·.1)) 0
 suffices h:Pq A 61 [.ptr 5 0,.d (.str s)] (HH c ds ss) lR fun v H1=>v= .d (num (C0 s (ss.map (·.1)) 0))/\H1=HH c ds ss by
  obtain ⟨v,H1,⟨rfl,rfl⟩,h⟩:=h;exact h
 unfold HH;refine Pq.run (b:=6) [.ptr 5 0,.d (.str s),.any,.any,.any] rfl rfl rfl rfl rfl ?_;cases h1:C9 (C0 s (ss.map (·.1)) 0) 0 with
 |true =>
  rw [h1,if_pos rfl] at hf;have h2:=y9 h1;have h3:C0 s (ss.map (·.1)) 0= -1:=by rcases cA s (ss.map (·.1)) 0 with h|h<;>omega
  repeat' (first|refine lk2 hf rfl rfl ?_|refine gx ?_|fail)
  refine tb (false) (fun h4=> ?_) (fun h4=> ?_)
  ·cases h4
  refine gr ?_;exact ⟨_,_,rfl,by rw [h3];rfl,rfl⟩
 |false =>
  rw [h1,if_neg (by simp)] at hf
  repeat' (first|refine lk2 hf rfl rfl ?_|refine gx ?_|fail)
  refine tb (true) (fun h4=> ?_) (fun h4=> ?_)
  ·refine gr ?_
   exact ⟨_,_,rfl,rfl,rfl⟩
  ·cases h4
theorem CZ (c:m8)(ds:List D8)(ss:List Y4)(n:Int):Pm A 38 [.ptr 5 0,.d (num n)] (HH c ds ss) lR (.d (.bool (W8 0 n&&C9 n ss.length))) (HH c ds ss):=by
 suffices h:Pq A 38 [.ptr 5 0,.d (num n)] (HH c ds ss) lR fun v H1=>v= .d (.bool (W8 0 n&&C9 n ss.length))/\H1=HH c ds ss by
  obtain ⟨v,H1,⟨rfl,rfl⟩,h⟩:=h;exact h
 unfold HH;refine Pq.run (b:=6) [.ptr 5 0,.d (num n),.any] rfl rfl rfl rfl rfl ?_
 repeat' (first|refine gx ?_|refine fk (h1:=fun hw=> ?_) (h2:=fun hw=> ?_)|refine L7 (h1:=fun hw=> ?_) (h2:=fun hw=> ?_)|refine Ex.H7 ?_|refine Ex.H8 ?_|refine Ex.cond rfl (fun ht=> ?_) (fun ht=> ?_)|refine Ex.test (Rn.text ?_)|refine Ex.test (Rn.draw ?_)|refine ⟨_,rfl,fun ht=> ?_,fun ht=> ?_⟩|refine ⟨_,rfl,?_⟩|fail)
 all_goals exact ⟨_,_,rfl,by simp [*,b8],rfl⟩
theorem Fg (c:m8)(ds:List D8)(ss:List Y4)(s:D8)(hc:c.j3.length<=1000):Pm A 122 [.ptr 5 0,.d (.str s)] (HH c ds ss) lR (.d (.bool (dx c ss s))) (HH c ds ss):=by
 have p1:=lN c ds ss s
 suffices h:Pq A 122 [.ptr 5 0,.d (.str s)] (HH c ds ss) lR fun v H1=>v= .d (.bool (dx c ss s))/\H1=HH c ds ss by
  obtain ⟨v,H1,⟨rfl,rfl⟩,h⟩:=h;exact h
 unfold HH at p1 ⊢;refine Pq.run (b:=6) [.ptr 5 0,.d (.str s),.any] rfl rfl rfl rfl rfl ?_
 repeat' (first|refine c1 p1 rfl ?_|refine cl (bX _ _ _) ?_|refine gx ?_|fail)
 exact ⟨_,_,rfl,rfl,rfl⟩
end Go.Proofs.YtkmclibmmlgogaaGreat.dU
namespace Go.Proofs.YtkmclibmmlgogaaGreat.dU
open Go.y3 Go.y3.S
attribute [local irreducible] Rx Ry Rn Ex Pf
variable [Inhabited XO]
theorem fu (c:m8)(ds:List D8)(ss:List Y4)(s:D8):Pm A 108 [.ptr 5 0,.d (.str s)] (HH c ds ss) lW (.d (num (E8 ds s))) (HH c (B4 ds s) ss):=by
 have hf:=th s ds
 suffices h:Pq A 108 [.ptr 5 0,.d (.str s)] (HH c ds ss) lW fun v H1=>v= .d (num (E8 ds s))/\H1=HH c (B4 ds s) ss by
  obtain ⟨v,H1,⟨rfl,rfl⟩,h⟩:=h;exact h
 unfold HH;refine Pq.run (b:=6) [.ptr 5 0,.d (.str s),.any] rfl rfl rfl rfl rfl ?_;have SZ:o9 3 0=false:=by simp [j9]
 have h11:o9 4 0=false:=by simp [j9]
 have h12:o9 0 0=true:=by simp [j9]
 refine gr ?_;refine tB (!E3 s) ?_ (fun h1=> ?_) (fun h1=> ?_)
 ·repeat' (first|refine cl (AW _) ?_|refine gx ?_|refine fk (h1:=fun hw=> ?_) (h2:=fun hw=> ?_)|refine L7 (h1:=fun hw=> ?_) (h2:=fun hw=> ?_)|refine ⟨rfl,rfl,_,rfl,?_⟩|refine ⟨rfl,rfl⟩|fail)
  all_goals exact cc
 ·refine gr ?_
  have e1:E8 ds s=3:=by unfold E8;rw [h1];rfl
  exact ⟨_,_,rfl,by rw [e1];rfl,by unfold B4;rw [e1,SZ];rfl⟩
 cases h2:ds.any fun y=>J2 y s with
 |true =>
  rw [h2,if_pos rfl] at hf;have e1:E8 ds s=4:=by unfold E8;rw [h1,h2];rfl
  refine tB (true) ?_ (fun h3=> ?_) (fun h3=> ?_)
  ·repeat' (first|refine lk1 hf rfl ?_|refine gx ?_|refine fk (h1:=fun hw=> ?_) (h2:=fun hw=> ?_)|refine L7 (h1:=fun hw=> ?_) (h2:=fun hw=> ?_)|refine ⟨rfl,rfl,_,rfl,?_⟩|refine ⟨rfl,rfl⟩|fail)
   all_goals exact cc
  ·refine gr ?_
   exact ⟨_,_,rfl,by rw [e1];rfl,by unfold B4;rw [e1,h11];rfl⟩
  ·cases h3
 |false =>
  rw [h2,if_neg (by simp)] at hf;have e1:E8 ds s=0:=by unfold E8;rw [h1,h2];rfl
  have hk:Data.aW .s (.str s) (.str s)=some true:=by simp [Data.aW]
  refine tB (false) ?_ (fun h3=> ?_) (fun h3=> ?_)
  ·repeat' (first|refine lk1 hf rfl ?_|refine gx ?_|refine fk (h1:=fun hw=> ?_) (h2:=fun hw=> ?_)|refine L7 (h1:=fun hw=> ?_) (h2:=fun hw=> ?_)|refine ⟨rfl,rfl,_,rfl,?_⟩|refine ⟨rfl,rfl⟩|fail)
   all_goals exact cc
  ·cases h3
  repeat' (first|refine mp (xb s ds h2) hk (h2:= ?_)|refine gx ?_|fail)
  exact ⟨_,_,rfl,by rw [e1];rfl,by unfold B4;rw [e1,h12];rfl⟩
theorem yb (c:m8)(ds:List D8)(ss:List Y4)(s:D8)(nm:List D8)(ty:List Int)(hs:((ss.map (·.1)).any fun y=>J2 y s)=false)(hl:ss.length<=1000) :
  Pm A 111 [.ptr 5 0,.d (.str s),oD nm ty] (HH c ds ss) lW (.tuple []) (HH c ds (ss++[(s,nm,ty)])):=by
 have hput:=xM s (ss.map (·.1)) 0 hs;rw [List.length_map,Nat.zero_add] at hput;have hk:Data.aW .s (.str s) (.str s)=some true:=by simp [Data.aW]
 have hr:roomFor (ss.length+1) 48=true:=by simp only [roomFor,decide_eq_true_eq];omega
 suffices h:Pq A 111 [.ptr 5 0,.d (.str s),oD nm ty] (HH c ds ss) lW fun v H1=>v= .tuple []/\H1=HH c ds (ss++[(s,nm,ty)]) by
  obtain ⟨v,H1,⟨rfl,rfl⟩,h⟩:=h;exact h
 unfold HH;refine Pq.run (b:=6) [.ptr 5 0,.d (.str s),oD nm ty,.any] rfl rfl rfl rfl rfl ?_
 repeat' (first|refine mp hput hk (h2:= ?_)|refine o2 ?_|refine ac2 (a:=(s,nm,ty)) (xs:=ss) (enc:=F9) hr rfl (h2:= ?_)|refine soO (h2:= ?_)|refine gx ?_|fail)
 refine ⟨_,_,rfl,rfl,?_⟩;have e:((ss++[(s,nm,ty)]).map (·.1))=ss.map (·.1)++[s]:=by simp
 rw [e];rfl
theorem yc (c:m8)(ds:List D8)(ss:List Y4)(s:D8)(col:Int)(eg:∀ k,k<ss.length->(nth ss k).2.2.length<=100000):Pm A 121 [.ptr 5 0,.d (.str s),.d (num col)] (HH c ds ss) lR (.tuple [.d (num (cI ss s col).1),.d (num (cI ss s col).2)]) (HH c ds ss):=by
 have p1:=lN c ds ss s;have b1:=jh ss s
 suffices h:Pq A 121 [.ptr 5 0,.d (.str s),.d (num col)] (HH c ds ss) lR fun v H1=>v= .tuple [.d (num (cI ss s col).1),.d (num (cI ss s col).2)]/\H1=HH c ds ss by
  obtain ⟨v,H1,⟨rfl,rfl⟩,h⟩:=h;exact h
 unfold HH at p1 ⊢;refine Pq.run (b:=6) [.ptr 5 0,.d (.str s),.d (num col),.any,.any,.any,.any] rfl rfl rfl rfl rfl ?_
 repeat' (first|refine c1 p1 rfl ?_|refine gx ?_|fail)
 refine tb (C9 (C0 s (ss.map (·.1)) 0) 0) (fun h1=> ?_) (fun h1=> ?_)
 ·refine gr ?_
  exact ⟨_,_,rfl,by unfold cI;rw [h1];rfl,rfl⟩
 have h2:=y8 h1;have h3:=eg (C0 s (ss.map (·.1)) 0).toNat (by omega);refine gr ?_;refine tB (!n7 col 0 ((nth ss (C0 s (ss.map (·.1)) 0).toNat).2.2.length - 1)) ?_ (fun h4=> ?_) (fun h4=> ?_)
 ·repeat' (first|refine cl (bX _ _ _) ?_|refine gx ?_|refine fk (h1:=fun hw=> ?_) (h2:=fun hw=> ?_)|refine L7 (h1:=fun hw=> ?_) (h2:=fun hw=> ?_)|refine ⟨rfl,rfl,_,rfl,?_⟩|refine ⟨rfl,rfl⟩|fail)
  all_goals exact cc
 ·refine gr ?_
  exact ⟨_,_,rfl,by unfold cI;rw [h1,h4];rfl,rfl⟩
 have h5:=h4;simp [n7,p4] at h5;refine gr ?_;exact ⟨_,_,rfl,by unfold cI;rw [h1,h4];rfl,rfl⟩
end Go.Proofs.YtkmclibmmlgogaaGreat.dU
namespace Go.Proofs.YtkmclibmmlgogaaGreat.dU
open Go.y3 Go.y3.S
attribute [local irreducible] Rx Ry Rn Ex Pf
variable [Inhabited XO]
set_option maxHeartbeats 4000000 in
theorem Ya (c:m8)(ds:List D8)(ss:List Y4)(i:Nat)(hi:i<c.idxs.length)(eg:∀ k,k<ss.length->(nth ss k).2.2.length<=100000):Pm A 70 [.ptr 5 0,.d (num i)] (HH c ds ss) lW (.d (num (qT ss ds (nth c.idxs i)))) (HH c (B4 ds (nth c.idxs i).name) ss):=by
 have cF:=fu c ds ss (nth c.idxs i).name;have xV:=yc c (B4 ds (nth c.idxs i).name) ss (nth c.idxs i).source (nth c.idxs i).col eg
 suffices h:Pq A 70 [.ptr 5 0,.d (num i)] (HH c ds ss) lW fun v H1=>v= .d (num (qT ss ds (nth c.idxs i)))/\H1=HH c (B4 ds (nth c.idxs i).name) ss by
  obtain ⟨v,H1,⟨rfl,rfl⟩,h⟩:=h;exact h
 generalize hx:nth c.idxs i=x at *
 unfold HH at *
 refine Pq.run (b:=6) [.ptr 5 0,.d (num i),.any,.any,.any,.any,.any] rfl rfl rfl rfl rfl ?_;refine gr ?_;rw [hx]
 repeat' (first|refine c0 cF rfl (h2:= ?_)|refine gx ?_|fail)
 refine tb (!o9 (E8 ds x.name) 0) (fun h1=> ?_) (fun h1=> ?_)
 ·refine gr ?_
  exact ⟨_,_,rfl,by unfold qT;rw [h1];rfl,rfl⟩
 repeat' (first|refine c1 xV rfl ?_|refine gx ?_|fail)
 refine tb (!o9 (cI ss x.source x.col).2 0) (fun h2=> ?_) (fun h2=> ?_)
 ·refine gr ?_
  exact ⟨_,_,rfl,by unfold qT;rw [h1,h2];rfl,rfl⟩
 refine gr ?_;refine tb (!o9 (cI ss x.source x.col).1 2) (fun h3=> ?_) (fun h3=> ?_)
 ·refine gr ?_
  exact ⟨_,_,rfl,by unfold qT;rw [h1,h2,h3];rfl,rfl⟩
 ·refine gr ?_
  exact ⟨_,_,rfl,by unfold qT;rw [h1,h2,h3];rfl,rfl⟩
set_option maxHeartbeats 4000000 in
theorem Yc (c:m8)(ds:List D8)(ss:List Y4)(i:Nat)(hi:i<c.F1.length)(eg:∀ k,k<ss.length->(nth ss k).2.2.length<=100000):Pm A 72 [.ptr 5 0,.d (num i)] (HH c ds ss) lW (.d (num (qD ss ds (nth c.F1 i)))) (HH c (B4 ds (nth c.F1 i).name) ss):=by
 have cF:=fu c ds ss (nth c.F1 i).name;have xV:=yc c (B4 ds (nth c.F1 i).name) ss (nth c.F1 i).source (nth c.F1 i).col eg
 suffices h:Pq A 72 [.ptr 5 0,.d (num i)] (HH c ds ss) lW fun v H1=>v= .d (num (qD ss ds (nth c.F1 i)))/\H1=HH c (B4 ds (nth c.F1 i).name) ss by
  obtain ⟨v,H1,⟨rfl,rfl⟩,h⟩:=h;exact h
 generalize hx:nth c.F1 i=x at *
 unfold HH at *
 refine Pq.run (b:=6) [.ptr 5 0,.d (num i),.any,.any,.any,.any] rfl rfl rfl rfl rfl ?_;refine gr ?_;rw [hx]
 repeat' (first|refine c0 cF rfl (h2:= ?_)|refine gx ?_|fail)
 refine tb (!o9 (E8 ds x.name) 0) (fun h1=> ?_) (fun h1=> ?_)
 ·refine gr ?_
  exact ⟨_,_,rfl,by unfold qD;rw [h1];rfl,rfl⟩
 repeat' (first|refine c1 xV rfl ?_|refine gx ?_|fail)
 refine tb (!o9 (cI ss x.source x.col).2 0) (fun h2=> ?_) (fun h2=> ?_)
 ·refine gr ?_
  exact ⟨_,_,rfl,by unfold qD;rw [h1,h2];rfl,rfl⟩
 refine gr ?_;refine tB (!n7 x.ttl 1 1048576) ?_ (fun h3=> ?_) (fun h3=> ?_)
 ·repeat' (first|refine cl (bX _ _ _) ?_|refine gx ?_|refine fk (h1:=fun hw=> ?_) (h2:=fun hw=> ?_)|refine L7 (h1:=fun hw=> ?_) (h2:=fun hw=> ?_)|refine ⟨rfl,rfl,_,rfl,?_⟩|refine ⟨rfl,rfl⟩|fail)
  all_goals exact cc
 ·refine gr ?_
  exact ⟨_,_,rfl,by unfold qD;rw [h1,h2,h3];rfl,rfl⟩
 ·refine gr ?_
  exact ⟨_,_,rfl,by unfold qD;rw [h1,h2,h3];rfl,rfl⟩
set_option maxHeartbeats 4000000 in
theorem Ye (c:m8)(ds:List D8)(ss:List Y4)(i:Nat)(hi:i<c.K9.length)(hc:c.j3.length<=1000):Pm A 74 [.ptr 5 0,.d (num i)] (HH c ds ss) lW (.d (num (vA c ss ds (nth c.K9 i)))) (HH c (B4 ds (nth c.K9 i).name) ss):=by
 have cF:=fu c ds ss (nth c.K9 i).name;have IB:=Fg c (B4 ds (nth c.K9 i).name) ss (nth c.K9 i).table hc
 suffices h:Pq A 74 [.ptr 5 0,.d (num i)] (HH c ds ss) lW fun v H1=>v= .d (num (vA c ss ds (nth c.K9 i)))/\H1=HH c (B4 ds (nth c.K9 i).name) ss by
  obtain ⟨v,H1,⟨rfl,rfl⟩,h⟩:=h;exact h
 generalize hx:nth c.K9 i=x at *
 unfold HH at *
 refine Pq.run (b:=6) [.ptr 5 0,.d (num i),.any,.any,.any] rfl rfl rfl rfl rfl ?_;refine gr ?_;rw [hx]
 repeat' (first|refine c0 cF rfl (h2:= ?_)|refine gx ?_|fail)
 refine tb (!o9 (E8 ds x.name) 0) (fun h1=> ?_) (fun h1=> ?_)
 ·refine gr ?_
  exact ⟨_,_,rfl,by unfold vA;rw [h1];rfl,rfl⟩
 refine gr ?_;refine tB (!dx c ss x.table) ?_ (fun h2=> ?_) (fun h2=> ?_)
 ·repeat' (first|refine c1 IB rfl ?_|refine gx ?_|refine fk (h1:=fun hw=> ?_) (h2:=fun hw=> ?_)|refine L7 (h1:=fun hw=> ?_) (h2:=fun hw=> ?_)|refine ⟨rfl,rfl,_,rfl,?_⟩|refine ⟨rfl,rfl⟩|fail)
  all_goals exact cc
 ·refine gr ?_
  exact ⟨_,_,rfl,by unfold vA;rw [h1,h2];rfl,rfl⟩
 ·refine gr ?_
  exact ⟨_,_,rfl,by unfold vA;rw [h1,h2];rfl,rfl⟩
set_option maxHeartbeats 4000000 in
theorem Yb (c:m8)(ds:List D8)(ss:List Y4)(i:Nat)(hi:i<c.E7.length)(eg:∀ k,k<ss.length->(nth ss k).2.2.length<=100000):Pm A 71 [.ptr 5 0,.d (num i)] (HH c ds ss) lW (.d (num (jR ss ds (nth c.E7 i)))) (HH c (B4 ds (nth c.E7 i).name) ss):=by
 have cF:=fu c ds ss (nth c.E7 i).name;have xV:=yc c (B4 ds (nth c.E7 i).name) ss (nth c.E7 i).source (nth c.E7 i).col eg
 suffices h:Pq A 71 [.ptr 5 0,.d (num i)] (HH c ds ss) lW fun v H1=>v= .d (num (jR ss ds (nth c.E7 i)))/\H1=HH c (B4 ds (nth c.E7 i).name) ss by
  obtain ⟨v,H1,⟨rfl,rfl⟩,h⟩:=h;exact h
 generalize hx:nth c.E7 i=x at *
 unfold HH at *
 refine Pq.run (b:=6) [.ptr 5 0,.d (num i),.any,.any,.any,.any] rfl rfl rfl rfl rfl ?_;refine gr ?_;rw [hx]
 repeat' (first|refine c0 cF rfl (h2:= ?_)|refine gx ?_|fail)
 refine tb (!o9 (E8 ds x.name) 0) (fun h1=> ?_) (fun h1=> ?_)
 ·refine gr ?_
  exact ⟨_,_,rfl,by unfold jR;rw [h1];rfl,rfl⟩
 repeat' (first|refine c1 xV rfl ?_|refine gx ?_|fail)
 refine tb (!o9 (cI ss x.source x.col).2 0) (fun h2=> ?_) (fun h2=> ?_)
 ·refine gr ?_
  exact ⟨_,_,rfl,by unfold jR;rw [h1,h2];rfl,rfl⟩
 refine gr ?_;refine tb (!o9 x.kind 0&& !o9 x.kind 1&& !o9 x.kind 2) (fun h3=> ?_) (fun h3=> ?_)
 ·refine gr ?_
  exact ⟨_,_,rfl,by unfold jR;rw [h1,h2,h3];rfl,rfl⟩
 refine gr ?_;cases hW:n7 x.width 1 1024 with
 |false =>
  refine tB (true) ?_ (fun h4=> ?_) (fun h4=> ?_)
  ·repeat' (first|refine cl (bX _ _ _) ?_|refine gx ?_|refine fk (h1:=fun hw=> ?_) (h2:=fun hw=> ?_)|refine L7 (h1:=fun hw=> ?_) (h2:=fun hw=> ?_)|refine ⟨rfl,rfl,_,rfl,?_⟩|refine ⟨rfl,rfl⟩|fail)
   all_goals first|(simp [*,b8,hW];done)|(simp_all [b8,hW];done)|(simp_all [b8,hW,p5,p4,j9,B8];done)|(simp_all [b8,hW,p5,p4,j9,B8]<;>omega)
  ·refine gr ?_
   exact ⟨_,_,rfl,by unfold jR;rw [h1,h2,h3,hW];rfl,rfl⟩
  ·cases h4
 |true =>
 cases hD:n7 x.depth 1 8 with
 |false =>
  refine tB (true) ?_ (fun h4=> ?_) (fun h4=> ?_)
  ·repeat' (first|refine cl (bX _ _ _) ?_|refine gx ?_|refine fk (h1:=fun hw=> ?_) (h2:=fun hw=> ?_)|refine L7 (h1:=fun hw=> ?_) (h2:=fun hw=> ?_)|refine ⟨rfl,rfl,_,rfl,?_⟩|refine ⟨rfl,rfl⟩|fail)
   all_goals first|(simp [*,b8,hW,hD];done)|(simp_all [b8,hW,hD];done)|(simp_all [b8,hW,hD,p5,p4,j9,B8];done)|(simp_all [b8,hW,hD,p5,p4,j9,B8]<;>omega)
  ·refine gr ?_
   exact ⟨_,_,rfl,by unfold jR;rw [h1,h2,h3,hW,hD];rfl,rfl⟩
  ·cases h4
 |true =>
 have hm: -9223372036854775808<=x.width * x.depth/\x.width * x.depth<9223372036854775808:=by
  simp [n7,p4] at hW hD;have m1:=Int.mul_le_mul hW.2 hD.2 (by omega) (by omega);have m2:=Int.mul_nonneg (a:=x.width) (b:=x.depth) (by omega) (by omega);omega
 refine tB (!n7 x.width 1 1024|| !n7 x.depth 1 8||(o9 x.kind 2&& !o9 x.depth 1)||C9 1024 (x.width * x.depth)) ?_ (fun h4=> ?_) (fun h4=> ?_)
 ·repeat' (first|refine cl (bX _ _ _) ?_|refine mu (h0:=hm) ?_|refine gx ?_|refine fk (h1:=fun hw=> ?_) (h2:=fun hw=> ?_)|refine L7 (h1:=fun hw=> ?_) (h2:=fun hw=> ?_)|refine ⟨rfl,rfl,_,rfl,?_⟩|refine ⟨rfl,rfl⟩|fail)
  all_goals first|(simp [*,b8,hW,hD];done)|(simp_all [b8,hW,hD];done)|(simp_all [b8,hW,hD,p5,p4,j9,B8];done)|(simp_all [b8,hW,hD,p5,p4,j9,B8]<;>omega)
 ·refine gr ?_
  exact ⟨_,_,rfl,by unfold jR;rw [h1,h2,h3,h4];rfl,rfl⟩
 ·refine gr ?_
  exact ⟨_,_,rfl,by unfold jR;rw [h1,h2,h3,h4];rfl,rfl⟩
end Go.Proofs.YtkmclibmmlgogaaGreat.dU
namespace Go.Proofs.YtkmclibmmlgogaaGreat.dU
open Go.y3 Go.y3.S
attribute [local irreducible] Rx Ry Rn Ex Pf
variable [Inhabited XO]
def l7:G9:=⟨0,8,8,8⟩
theorem Qh (a0 ax a1 a2 a3 a4 a5:y7)(x y:Y5):Pm A 148 [vh y,.ptr 7 0] [a0,ax,a1,a2,a3,a4,a5,.cells (x.enc.map .d)] l7 (.d (.bool (J2 y.name x.name))) [a0,ax,a1,a2,a3,a4,a5,.cells (x.enc.map .d)]:=by
 have _x:=(default:XO)
 suffices h:Pq A 148 [vh y,.ptr 7 0] [a0,ax,a1,a2,a3,a4,a5,.cells (x.enc.map .d)] l7 fun v H1=>v= .d (.bool (J2 y.name x.name))/\H1=[a0,ax,a1,a2,a3,a4,a5,.cells (x.enc.map .d)] by
  obtain ⟨v,H1,⟨rfl,rfl⟩,h⟩:=h;exact h
 refine Pq.run (b:=8) [vh y,.ptr 7 0,.any,.any] rfl rfl rfl rfl rfl ?_;refine gr ?_;exact ⟨_,_,rfl,rfl,rfl⟩
set_option maxHeartbeats 2000000 in
theorem Qk (a0 ax a1 a2 a3 a4 a5:y7)(x:Y5)(ys:List Y5)(hy:ys.length<=1000):Pm A 171 [.d (z6 Y5.enc ys),.func 148 [] [.ptr 7 0]] [a0,ax,a1,a2,a3,a4,a5,.cells (x.enc.map .d)] l7 (.d (num (DJ x ys 0))) [a0,ax,a1,a2,a3,a4,a5,.cells (x.enc.map .d)]:=by
 suffices h:Pq A 171 [.d (z6 Y5.enc ys),.func 148 [] [.ptr 7 0]] [a0,ax,a1,a2,a3,a4,a5,.cells (x.enc.map .d)] l7 fun v H1=>v= .d (num (DJ x ys 0))/\H1=[a0,ax,a1,a2,a3,a4,a5,.cells (x.enc.map .d)] by
  obtain ⟨v,H1,⟨rfl,rfl⟩,h⟩:=h;exact h
 refine Pq.run (b:=8) [.d (z6 Y5.enc ys),.func 148 [] [.ptr 7 0],.any,.any,.any,.any] rfl rfl rfl rfl rfl ?_;refine gr ?_;refine Ex.J0 (fun k T H=>∃ (i:Nat) (v w:b6),T=[.d (z6 Y5.enc ys),.func 148 [] [.ptr 7 0],v,w,.d (num ys.length),.d (num i)]/\H=[a0,ax,a1,a2,a3,a4,a5,.cells (x.enc.map .d)]/\i+k=ys.length/\DJ x ys 0=DJ x (ys.drop i) i) (by rintro _ _ _ ⟨_,_,_,_,rfl,_⟩;rfl) ?_ (k:=ys.length) ⟨0,_,_,rfl,rfl,by simp,by simp⟩;rintro k _ _ ⟨i,v,w,rfl,rfl,hk,hi⟩;refine Ex.nT ?_;refine Ex.seq ?_;refine tb (C9 i ys.length) (fun h1=> ?_) (fun h1=> ?_)
 ·have h2:=y9 h1
  rw [A2 (by omega)] at hi;have p1:=Qh a0 ax a1 a2 a3 a4 a5 x (nth ys i);refine gr ?_;refine tB (J2 (nth ys i).name x.name) ?_ (fun h3=> ?_) (fun h3=> ?_)
  ·repeat' (first|refine cv1 p1 rfl ?_|refine gx ?_|refine fk (h1:=fun hw=> ?_) (h2:=fun hw=> ?_)|refine L7 (h1:=fun hw=> ?_) (h2:=fun hw=> ?_)|refine ⟨rfl,rfl,_,rfl,?_⟩|refine ⟨rfl,rfl⟩|fail)
   all_goals exact cc
  ·refine gr ?_
   exact ⟨_,_,rfl,by rw [hi,DJ,h3];rfl,rfl⟩
  ·refine gr ?_
   exact ⟨k - 1,by omega,i+1,_,_,rfl,rfl,by omega,by rw [hi,DJ,h3];rfl⟩
 ·have h2:=y8 h1
  rw [k9 (by omega)] at hi;refine gr ?_;exact ⟨_,_,rfl,by rw [hi];rfl,rfl⟩
theorem Qg (a0 ax a1 a2 a3 a4 a5:y7)(x:Y5)(ys:List Y5)(hy:ys.length<=1000):Pm A 147 [.d (z6 Y5.enc ys),.func 148 [] [.ptr 7 0]] [a0,ax,a1,a2,a3,a4,a5,.cells (x.enc.map .d)] l7 (.d (.bool (ys.any fun y=>J2 y.name x.name))) [a0,ax,a1,a2,a3,a4,a5,.cells (x.enc.map .d)]:=by
 have p1:=Qk a0 ax a1 a2 a3 a4 a5 x ys hy;rw [<- CC x ys 0]
 suffices h:Pq A 147 [.d (z6 Y5.enc ys),.func 148 [] [.ptr 7 0]] [a0,ax,a1,a2,a3,a4,a5,.cells (x.enc.map .d)] l7 fun v H1=>v= .d (.bool (W8 0 (DJ x ys 0)))/\H1=[a0,ax,a1,a2,a3,a4,a5,.cells (x.enc.map .d)] by
  obtain ⟨v,H1,⟨rfl,rfl⟩,h⟩:=h;exact h
 refine Pq.run (b:=8) [.d (z6 Y5.enc ys),.func 148 [] [.ptr 7 0],.any] rfl rfl rfl rfl rfl ?_
 repeat' (first|refine c1 p1 rfl ?_|refine gx ?_|fail)
 exact ⟨_,_,rfl,rfl,rfl⟩
end Go.Proofs.YtkmclibmmlgogaaGreat.dU
namespace Go.Proofs.YtkmclibmmlgogaaGreat.dU
open Go.y3 Go.y3.S
attribute [local irreducible] Rx Ry Rn Ex Pf
variable [Inhabited XO]
set_option maxHeartbeats 8000000 in
theorem Qe (c:m8)(ds:List D8)(ss:List Y4)(t:eZ)(i:Nat)(hi:i<t.m7.length)(hc:t.m7.length<=1000)(ho:(nth t.m7 i).C5.length<=1000)(EF:ss.length<=c.j3.length)(ht:∀ k,k<ss.length->0<(nth ss k).2.2.length/\0<(nth c.j3 k).m7.length) :
  Pm A 110 [.ptr 5 0,iT t,.d (num i)] (HH c ds ss) lR (.d (num (dW c ss t i))) (HH c ds ss):=by
 have TJ:=lN c ds ss (nth t.m7 i).refs;have b1:=jh ss (nth t.m7 i).refs;have b2:(C0 (nth t.m7 i).refs (ss.map (·.1)) 0)= -1\/(0<=(C0 (nth t.m7 i).refs (ss.map (·.1)) 0)/\(C0 (nth t.m7 i).refs (ss.map (·.1)) 0)<ss.length/\0<(nth ss (C0 (nth t.m7 i).refs (ss.map (·.1)) 0).toNat).2.2.length/\0<(nth c.j3 (C0 (nth t.m7 i).refs (ss.map (·.1)) 0).toNat).m7.length):=by
  rcases b1 with h|h
  ·exact Or.inl h
  ·have:=ht (C0 (nth t.m7 i).refs (ss.map (·.1)) 0).toNat (by omega)
   exact Or.inr ⟨h.1,h.2,this.1,this.2⟩
 have Yv:=Vu t (nth t.m7 i).C5 ho hc;have Yw:=Vv t (nth t.m7 i);have q49:=XU (nth t.m7 i).C5 i (by omega)
 suffices h:Pq A 110 [.ptr 5 0,iT t,.d (num i)] (HH c ds ss) lR fun v H1=>v= .d (num (dW c ss t i))/\H1=HH c ds ss by
  obtain ⟨v,H1,⟨rfl,rfl⟩,h⟩:=h;exact h
 unfold HH at *
 have Yu:=Qg (.cells (c.enc.map .d)) xo (.cells (c.enc.map .d)) (.map (dmap ds)) (.map (T3 (ss.map (·.1)) 0)) (.cells (c.enc.map .d++[.map 3,.map 4,B3 2 F9 ss])) (.cells (t.enc.map .d)) (nth t.m7 i) (t.m7.take i) (by simp;omega);refine Pq.run (b:=6) [.ptr 5 0,iT t,.d (num i),.any,.any,.any,.any,.any] rfl rfl rfl rfl rfl ?_;refine gr ?_;refine tB (!E3 (nth t.m7 i).name||(!J2 (nth t.m7 i).space []&& !E3 (nth t.m7 i).space)) ?_ (fun h1=> ?_) (fun h1=> ?_)
 ·repeat' (first|refine cl (AW _) ?_|refine gx ?_|refine fk (h1:=fun hw=> ?_) (h2:=fun hw=> ?_)|refine L7 (h1:=fun hw=> ?_) (h2:=fun hw=> ?_)|refine ⟨rfl,rfl,_,rfl,?_⟩|refine ⟨rfl,rfl⟩|fail)
  all_goals exact cc
 ·refine gr ?_
  exact ⟨_,_,rfl,by unfold dW;rw [h1];rfl,rfl⟩
 refine gr ?_;refine tB ((t.m7.take i).any fun y=>J2 y.name (nth t.m7 i).name) ?_ (fun h2=> ?_) (fun h2=> ?_)
 ·repeat' (first|refine c1 Yu rfl ?_|refine gx ?_|refine fk (h1:=fun hw=> ?_) (h2:=fun hw=> ?_)|refine L7 (h1:=fun hw=> ?_) (h2:=fun hw=> ?_)|refine ⟨rfl,rfl,_,rfl,?_⟩|refine ⟨rfl,rfl⟩|fail)
  all_goals exact cc
 ·refine gr ?_
  exact ⟨_,_,rfl,by unfold dW;rw [h1,h2];rfl,rfl⟩
 repeat' (first|refine c1 TJ rfl ?_|refine gx ?_|fail)
 refine tb (!J2 (nth t.m7 i).refs []&&C9 (C0 (nth t.m7 i).refs (ss.map (·.1)) 0) 0) (fun h3=> ?_) (fun h3=> ?_)
 ·refine gr ?_
  exact ⟨_,_,rfl,by unfold dW;rw [h1,h2,h3];rfl,rfl⟩
 refine gr ?_;refine tB (!(o9 (nth t.m7 i).type 1||o9 (nth t.m7 i).type 2)||(W8 0 (C0 (nth t.m7 i).refs (ss.map (·.1)) 0)&& !o9 (nth t.m7 i).type (nth (nth ss (C0 (nth t.m7 i).refs (ss.map (·.1)) 0).toNat).2.2 0))) ?_ (fun h4=> ?_) (fun h4=> ?_)
 ·repeat' (first|refine cl (Vr _) ?_|refine gx ?_|refine fk (h1:=fun hw=> ?_) (h2:=fun hw=> ?_)|refine L7 (h1:=fun hw=> ?_) (h2:=fun hw=> ?_)|refine ⟨rfl,rfl,_,rfl,?_⟩|refine ⟨rfl,rfl⟩|fail)
  all_goals exact cc
 ·refine gr ?_
  exact ⟨_,_,rfl,by unfold dW;rw [h1,h2,h3,h4];rfl,rfl⟩
 refine gr ?_;refine tB ((!J2 (nth t.m7 i).space []&& !J2 (nth t.m7 i).refs [])|| !T1 t (-1) (nth t.m7 i).C5|| !jk t (nth t.m7 i)) ?_ (fun h5=> ?_) (fun h5=> ?_)
 ·repeat' (first|refine cl (Yv) ?_|refine cl (Yw) ?_|refine gx ?_|refine fk (h1:=fun hw=> ?_) (h2:=fun hw=> ?_)|refine L7 (h1:=fun hw=> ?_) (h2:=fun hw=> ?_)|refine ⟨rfl,rfl,_,rfl,?_⟩|refine ⟨rfl,rfl⟩|fail)
  all_goals exact cc
 ·refine gr ?_
  exact ⟨_,_,rfl,by unfold dW;rw [h1,h2,h3,h4,h5];rfl,rfl⟩
 refine gr ?_;refine tb (o9 i 0&&C9 0 (nth t.m7 i).C5.length&& !o9 t.erase 1) (fun h6=> ?_) (fun h6=> ?_)
 ·refine gr ?_
  exact ⟨_,_,rfl,by unfold dW;rw [h1,h2,h3,h4,h5,h6];rfl,rfl⟩
 refine gr ?_;refine tB (W8 0 (C0 (nth t.m7 i).refs (ss.map (·.1)) 0)&&C9 0 (nth (nth c.j3 (C0 (nth t.m7 i).refs (ss.map (·.1)) 0).toNat).m7 0).C5.length&& !((nth t.m7 i).C5.any fun y=>o9 y i)) ?_ (fun h7=> ?_) (fun h7=> ?_)
 ·repeat' (first|refine cl (q49) ?_|refine gx ?_|refine fk (h1:=fun hw=> ?_) (h2:=fun hw=> ?_)|refine L7 (h1:=fun hw=> ?_) (h2:=fun hw=> ?_)|refine ⟨rfl,rfl,_,rfl,?_⟩|refine ⟨rfl,rfl⟩|fail)
  all_goals exact cc
 ·refine gr ?_
  exact ⟨_,_,rfl,by unfold dW;rw [h1,h2,h3,h4,h5,h6,h7];rfl,rfl⟩
 refine gr ?_;exact ⟨_,_,rfl,by unfold dW;rw [h1,h2,h3,h4,h5,h6,h7];rfl,rfl⟩
end Go.Proofs.YtkmclibmmlgogaaGreat.dU
namespace Go.Proofs.YtkmclibmmlgogaaGreat.dU
open Go.y3 Go.y3.S
attribute [local irreducible] Rx Ry Rn Ex Pf
variable [Inhabited XO]
set_option maxHeartbeats 8000000 in
theorem XY (c:m8)(ds:List D8)(ss:List Y4)(i:Nat)(hi:i<c.j3.length)(hc:(nth c.j3 i).m7.length<=1000)(ho:∀ j,j<(nth c.j3 i).m7.length->(nth (nth c.j3 i).m7 j).C5.length<=1000)(EF:ss.length<=c.j3.length)(WX:ss.length<=1000)(hi2:c.j3.length<=1000)
  (ht:∀ k,k<ss.length->0<(nth ss k).2.2.length/\0<(nth c.j3 k).m7.length) (hsub:∀ s,(ds.any fun y=>J2 y s)=false->((ss.map (·.1)).any fun y=>J2 y s)=false) :
  Pm A 68 [.ptr 5 0,.d (num i)] (HH c ds ss) lW (.d (num (gY c ss ds (nth c.j3 i)))) (HH c (B4 ds (nth c.j3 i).name) (rW c ss ds (nth c.j3 i))):=by
 generalize hx:nth c.j3 i=t at *
 have cF:=fu c ds ss t.name;have XP:∀ j,j<t.m7.length->Pm A 110 [.ptr 5 0,iT t,.d (num j)] (HH c (B4 ds t.name) ss) lR (.d (num (dW c ss t j))) (HH c (B4 ds t.name) ss):=fun j hj=>Qe c (B4 ds t.name) ss t j hj hc (ho j hj) EF ht
 have Ym:=Vl t.m7 hc;have Yn:=Vm t.m7 hc;have xU:E8 ds t.name=0->Pm A 111 [.ptr 5 0,.d (.str t.name),oD (t.m7.map Y5.name) (t.m7.map Y5.type)] (HH c (B4 ds t.name) ss) lW (.tuple []) (HH c (B4 ds t.name) (ss++[(t.name,t.m7.map Y5.name,t.m7.map Y5.type)])):=fun h=>by
  refine yb c (B4 ds t.name) ss t.name _ _ (hsub _ ?_) WX;unfold E8 at h;cases h1:(!E3 t.name) with
  |true=>rw [h1] at h;simp at h
  |false =>
   rw [h1] at h;cases h2:ds.any fun y=>J2 y t.name with
   |false=>rfl
   |true=>rw [h2] at h;simp at h
 suffices h:Pq A 68 [.ptr 5 0,.d (num i)] (HH c ds ss) lW fun v H1=>v= .d (num (gY c ss ds t))/\H1=HH c (B4 ds t.name) (rW c ss ds t) by
  obtain ⟨v,H1,⟨rfl,rfl⟩,h⟩:=h;exact h
 have fin:∀ e:Int,o9 e 0=false->gY c ss ds t=e->rW c ss ds t=ss:=fun e h1 h2=>by unfold rW;rw [h2,h1];rfl
 unfold HH at *
 refine Pq.run (b:=6) [.ptr 5 0,.d (num i),.any,.any,.any,.any,.any,.any,.any] rfl rfl rfl rfl rfl ?_;refine gr ?_;rw [hx]
 repeat' (first|refine c0 cF rfl (h2:= ?_)|refine gx ?_|fail)
 refine tb (!o9 (E8 ds t.name) 0) (fun h1=> ?_) (fun h1=> ?_)
 ·have e1:gY c ss ds t=E8 ds t.name:=by unfold gY;rw [h1];rfl
  refine gr ?_;exact ⟨_,_,rfl,by rw [e1];rfl,by rw [fin _ (by simpa using h1) e1];rfl⟩
 refine gr ?_;refine tB (eG t) ?_ (fun h2=> ?_) (fun h2=> ?_)
 ·repeat' (first|refine cl (bX _ _ _) ?_|refine gx ?_|refine fk (h1:=fun hw=> ?_) (h2:=fun hw=> ?_)|refine L7 (h1:=fun hw=> ?_) (h2:=fun hw=> ?_)|refine ⟨rfl,rfl,_,rfl,?_⟩|refine ⟨rfl,rfl⟩|fail)
  all_goals first|(simp [*,b8,eG];done)|(simp_all [b8,eG];done)|(simp_all [b8,eG,p5,p4,j9,B8];done)|(simp_all [b8,eG,p5,p4,j9,B8]<;>omega)
 ·have e1:gY c ss ds t=1:=by unfold gY;rw [h1,h2];rfl
  refine gr ?_;exact ⟨_,_,rfl,by rw [e1];rfl,by rw [fin 1 (by simp [j9]) e1];rfl⟩
 refine gr ?_;refine Ex.J0 (fun k T H=>∃ (j:Nat) (w1 w2 w4 w5 w6:b6),T=[.ptr 5 0,w1,w2,.ptr 6 0,w4,w5,w6,.d (num t.m7.length),.d (num j)]/\H=[.cells (c.enc.map .d),xo,.cells (c.enc.map .d),.map (dmap (B4 ds t.name)),.map (T3 (ss.map (·.1)) 0),.cells (c.enc.map .d++[.map 3,.map 4,B3 2 F9 ss]),.cells (t.enc.map .d)]/\j+k=t.m7.length/\gY c ss ds t=uf c ss t k j) (by rintro _ _ _ ⟨_,_,_,_,_,_,_,rfl,_⟩;rfl) ?_ (k:=t.m7.length) ⟨0,_,_,_,_,_,rfl,rfl,by simp,by unfold gY;rw [h1,h2];rfl⟩;rintro k _ _ ⟨j,w1,w2,w4,w5,w6,rfl,rfl,hk,hj⟩;refine Ex.nT ?_;refine Ex.seq ?_;refine tb (C9 j t.m7.length) (fun h3=> ?_) (fun h3=> ?_)
 ·have h4:=y9 h3
  obtain ⟨k,rfl⟩:∃ k',k=k' +1:=⟨k - 1,by omega⟩;have Yl:=XP j (by omega);rw [uf] at hj
  repeat' (first|refine c1 Yl rfl ?_|refine gx ?_|fail)
  refine tb (!o9 (dW c ss t j) 0) (fun h5=> ?_) (fun h5=> ?_)
  ·rw [h5,if_pos rfl] at hj
   refine gr ?_;exact ⟨_,_,rfl,by rw [hj];rfl,by rw [fin _ (by simpa using h5) hj];rfl⟩
  ·rw [h5,if_neg (by simp)] at hj
   refine gr ?_;exact ⟨k,by omega,j+1,_,_,_,_,_,rfl,rfl,by omega,hj⟩
 ·have h4:=y8 h3
  obtain rfl:k=0:=by omega
  have II:=xU (X2 (by simpa using h1));have e1:gY c ss ds t=0:=hj;have e2:rW c ss ds t=ss++[(t.name,t.m7.map Y5.name,t.m7.map Y5.type)]:=by unfold rW;rw [e1];simp [j9]
  rw [e2]
  repeat' (first|refine cl (Ym) ?_|refine cl (Yn) ?_|refine c0 II rfl (h2:= ?_)|refine gx ?_|fail)
  exact ⟨_,_,rfl,by rw [e1];rfl,rfl⟩
end Go.Proofs.YtkmclibmmlgogaaGreat.dU
namespace Go.Proofs.YtkmclibmmlgogaaGreat.dU
open Go.y3 Go.y3.S
attribute [local irreducible] Rx Ry Rn Ex Pf
variable [Inhabited XO]
set_option maxHeartbeats 4000000 in
theorem Yd (c:m8)(ds:List D8)(ss:List Y4)(i:Nat)(hi:i<c.I9.length)(hc:c.j3.length<=1000)(EF:ss.length<=c.j3.length+c.views.length)(hsv:c.views.length<=1000)(hg:∀ k,k<c.views.length->(nth c.views k).kind≠1\/0<(nth c.views k).C1.length):Pm A 73 [.ptr 5 0,.d (num i)] (HH c ds ss) lW (.d (num (rJ c ss ds (nth c.I9 i)))) (HH c (B4 ds (nth c.I9 i).name) ss):=by
 have cF:=fu c ds ss (nth c.I9 i).name;have TJ:=lN c (B4 ds (nth c.I9 i).name) ss (nth c.I9 i).source;have b1:=jh ss (nth c.I9 i).source
 suffices h:Pq A 73 [.ptr 5 0,.d (num i)] (HH c ds ss) lW fun v H1=>v= .d (num (rJ c ss ds (nth c.I9 i)))/\H1=HH c (B4 ds (nth c.I9 i).name) ss by
  obtain ⟨v,H1,⟨rfl,rfl⟩,h⟩:=h;exact h
 generalize hx:nth c.I9 i=x at *
 unfold HH at *
 refine Pq.run (b:=6) [.ptr 5 0,.d (num i),.any,.any,.any,.any,.any] rfl rfl rfl rfl rfl ?_;refine gr ?_;rw [hx]
 repeat' (first|refine c0 cF rfl (h2:= ?_)|refine gx ?_|fail)
 refine tb (!o9 (E8 ds x.name) 0) (fun h1=> ?_) (fun h1=> ?_)
 ·refine gr ?_
  exact ⟨_,_,rfl,by unfold rJ;rw [h1];rfl,rfl⟩
 repeat' (first|refine c1 TJ rfl ?_|refine gx ?_|fail)
 refine tb (C9 (C0 x.source (ss.map (·.1)) 0 - c.j3.length) 0) (fun h2=> ?_) (fun h2=> ?_)
 ·refine gr ?_
  exact ⟨_,_,rfl,by unfold rJ;rw [h1,h2];rfl,rfl⟩
 have h3:=y8 h2;have h4:=hg (C0 x.source (ss.map (·.1)) 0 - c.j3.length).toNat (by omega);have hrv:nth c.views (C0 x.source (ss.map (·.1)) 0 - c.j3.length).toNat=TZ c ss x:=rfl;refine gr ?_;rw [hrv] at h4 ⊢;refine gr ?_;refine tB (!o9 (TZ c ss x).kind 1|| !o9 (nth (TZ c ss x).C1 0).func 0|| !n7 x.VX 1 1024) ?_ (fun h5=> ?_) (fun h5=> ?_)
 ·repeat' (first|refine cl (bX _ _ _) ?_|refine gx ?_|refine fk (h1:=fun hw=> ?_) (h2:=fun hw=> ?_)|refine L7 (h1:=fun hw=> ?_) (h2:=fun hw=> ?_)|refine ⟨rfl,rfl,_,rfl,?_⟩|refine ⟨rfl,rfl⟩|fail)
  all_goals exact cc
 ·refine gr ?_
  exact ⟨_,_,rfl,by unfold rJ;rw [h1,h2,h5];rfl,rfl⟩
 ·refine gr ?_
  exact ⟨_,_,rfl,by unfold rJ;rw [h1,h2,h5];rfl,rfl⟩
set_option maxHeartbeats 4000000 in
theorem Yf (c:m8)(ds:List D8)(ss:List Y4)(i:Nat)(hi:i<c.M7.length)(hc:c.j3.length<=1000)(hx1:(nth c.M7 i).tables.length<=1000):Pm A 75 [.ptr 5 0,.d (num i)] (HH c ds ss) lW (.d (num (Jv c ss ds (nth c.M7 i)))) (HH c (B4 ds (nth c.M7 i).name) ss):=by
 have cF:=fu c ds ss (nth c.M7 i).name;have IB:∀ s,Pm A 122 [.ptr 5 0,.d (.str s)] (HH c (B4 ds (nth c.M7 i).name) ss) lR (.d (.bool (dx c ss s))) (HH c (B4 ds (nth c.M7 i).name) ss):=fun s=>Fg c (B4 ds (nth c.M7 i).name) ss s hc
 suffices h:Pq A 75 [.ptr 5 0,.d (num i)] (HH c ds ss) lW fun v H1=>v= .d (num (Jv c ss ds (nth c.M7 i)))/\H1=HH c (B4 ds (nth c.M7 i).name) ss by
  obtain ⟨v,H1,⟨rfl,rfl⟩,h⟩:=h;exact h
 generalize hx:nth c.M7 i=x at *
 unfold HH at *
 refine Pq.run (b:=6) [.ptr 5 0,.d (num i),.any,.any,.any,.any,.any,.any,.any,.any] rfl rfl rfl rfl rfl ?_;refine gr ?_;rw [hx]
 repeat' (first|refine c0 cF rfl (h2:= ?_)|refine gx ?_|fail)
 refine tb (!o9 (E8 ds x.name) 0) (fun h1=> ?_) (fun h1=> ?_)
 ·refine gr ?_
  exact ⟨_,_,rfl,by unfold Jv;rw [h1];rfl,rfl⟩
 refine gr ?_;refine tB (o9 x.tables.length 0|| !n7 x.keep 1 1048576) ?_ (fun h2=> ?_) (fun h2=> ?_)
 ·repeat' (first|refine cl (bX _ _ _) ?_|refine gx ?_|refine fk (h1:=fun hw=> ?_) (h2:=fun hw=> ?_)|refine L7 (h1:=fun hw=> ?_) (h2:=fun hw=> ?_)|refine ⟨rfl,rfl,_,rfl,?_⟩|refine ⟨rfl,rfl⟩|fail)
  all_goals exact cc
 ·refine gr ?_
  exact ⟨_,_,rfl,by unfold Jv;rw [h1,h2];rfl,rfl⟩
 refine gr ?_;refine Ex.J0 (fun k T H=>∃ (j:Nat) (w1 w2 w4 w5 w6:b6),T=[.ptr 5 0,w1,w2,.ptr 6 0,w4,w5,w6,.d (z6 (fun s=>[.str s]) x.tables),.d (num x.tables.length),.d (num j)]/\H=[.cells (c.enc.map .d),xo,.cells (c.enc.map .d),.map (dmap (B4 ds x.name)),.map (T3 (ss.map (·.1)) 0),.cells (c.enc.map .d++[.map 3,.map 4,B3 2 F9 ss]),.cells (x.enc.map .d)]/\j+k=x.tables.length/\Jv c ss ds x=NN c ss (x.tables.take j) (x.tables.drop j)) (by rintro _ _ _ ⟨_,_,_,_,_,_,_,rfl,_⟩;rfl) ?_ (k:=x.tables.length) ⟨0,_,_,_,_,_,rfl,rfl,by simp,by simp [Jv,h1,h2]⟩;rintro k _ _ ⟨j,w1,w2,w4,w5,w6,rfl,rfl,hk,hj⟩;refine Ex.nT ?_;refine Ex.seq ?_;refine tb (C9 j x.tables.length) (fun h3=> ?_) (fun h3=> ?_)
 ·have h4:=y9 h3
  rw [A2 (by omega)] at hj;have Ys:=IB (nth x.tables j);have Yt:=Kd (x.tables.take j) (nth x.tables j) (by simp;omega);refine gr ?_;refine tB (!dx c ss (nth x.tables j)) ?_ (fun h5=> ?_) (fun h5=> ?_)
  ·repeat' (first|refine c1 Ys rfl ?_|refine gx ?_|refine fk (h1:=fun hw=> ?_) (h2:=fun hw=> ?_)|refine L7 (h1:=fun hw=> ?_) (h2:=fun hw=> ?_)|refine ⟨rfl,rfl,_,rfl,?_⟩|refine ⟨rfl,rfl⟩|fail)
   all_goals exact cc
  ·refine gr ?_
   exact ⟨_,_,rfl,by rw [hj];unfold NN;rw [h5];rfl,rfl⟩
  refine gr ?_;refine tB ((x.tables.take j).any fun y=>J2 y (nth x.tables j)) ?_ (fun h6=> ?_) (fun h6=> ?_)
  ·repeat' (first|refine cl (Yt) ?_|refine gx ?_|refine fk (h1:=fun hw=> ?_) (h2:=fun hw=> ?_)|refine L7 (h1:=fun hw=> ?_) (h2:=fun hw=> ?_)|refine ⟨rfl,rfl,_,rfl,?_⟩|refine ⟨rfl,rfl⟩|fail)
   all_goals exact cc
  ·refine gr ?_
   exact ⟨_,_,rfl,by rw [hj];unfold NN;rw [h5,h6];rfl,rfl⟩
  ·refine gr ?_
   refine ⟨k - 1,by omega,j+1,_,_,_,_,_,rfl,rfl,by omega,?_⟩;rw [hj,F7 (by omega)];simp only [NN,h5,h6,b7,if_false]
 ·have h4:=y8 h3
  rw [k9 (by omega)] at hj;refine gr ?_;exact ⟨_,_,rfl,by rw [hj];rfl,rfl⟩
end Go.Proofs.YtkmclibmmlgogaaGreat.dU


/- Texts D20 D21 D24 D25 (made short by a program) -/
import Derived.Test.YtkmclibmmlgogaaGreatD1
import Derived.Test.YtkmclibmmlgogaaGreatD4
set_option linter.unusedVariables false
set_option linter.unusedSimpArgs false
open Bool renaming false_eq_true → b7
open List renaming drop_of_length_le → m6, take_of_length_le → q7
namespace Go.Proofs.YtkmclibmmlgogaaGreat
open Go.z7 Go.z7.S
attribute [local irreducible] Rx Ry Rn Ex Pf
abbrev Y0:=D6×List D6×List Int
def G5 (s:Y0):List z7.Data:=[A5 encS s.2.1,ints s.2.2]
def HH (c:n5)(ds:List D6)(ss:List Y0):o6 :=
 [.cells (c.enc.map .d),.cells (c.enc.map .d),.map (dmap ds),.map (S6 (ss.map (·.1)) 0),.cells (c.enc.map .d++[.map 2,.map 3,B4 2 G5 ss])]
def lW:H7:=⟨0,0,5,5⟩
def lR:H7:=⟨0,5,5,5⟩
theorem sP (s:D6):∀ (l:List D6) (i:Nat),bf .s (.str s) (S6 l i)=some (if C7 (B8 s l i) 0 then none else some (.d (num (B8 s l i))))
 |[],i=>by simp [S6,bf,B8,p8]
 |d::l,i=>by
  have h1:=sP s l (i+1);have h2:(s==d)=J4 d s:=by
   rw [B7,Bool.eq_iff_iff];simp only [beq_iff_eq];exact eq_comm
  simp only [S6,bf,Data.Z0,B8,h2]
  by_cases hb:J4 d s=true
  ·simp [hb,p8,num]
  ·have hb' :J4 d s=false:=by simpa using hb
   simp only [hb',b7,if_false];exact h1
theorem lD (c:n5)(ds:List D6)(ss:List Y0)(s:D6):Pm A 61 [.ptr 4 0,.d (.str s)] (HH c ds ss) lR (.d (num (B8 s (ss.map (·.1)) 0))) (HH c ds ss):=by
 have hf:=sP s (ss.map (·.1)) 0
 suffices h:Pq A 61 [.ptr 4 0,.d (.str s)] (HH c ds ss) lR fun v H1=>v= .d (num (B8 s (ss.map (·.1)) 0))/\H1=HH c ds ss by
  obtain ⟨v,H1,⟨rfl,rfl⟩,h⟩:=h;exact h
 unfold HH;refine Pq.run (b:=5) [.ptr 4 0,.d (.str s),.any,.any,.any] rfl rfl rfl rfl rfl ?_;cases h1:C7 (B8 s (ss.map (·.1)) 0) 0 with
 |true =>
  rw [h1,if_pos rfl] at hf;have h2:=A4 h1;have h3:B8 s (ss.map (·.1)) 0= -1:=by rcases bZ s (ss.map (·.1)) 0 with h|h<;>omega
  repeat' (first|refine lk2 hf rfl rfl ?_|refine gx ?_|fail)
  refine tb (false) (fun h4=> ?_) (fun h4=> ?_)
  ·cases h4
  refine gr ?_;exact ⟨_,_,rfl,by rw [h3];rfl,rfl⟩
 |false =>
  rw [h1,if_neg (by simp)] at hf
  repeat' (first|refine lk2 hf rfl rfl ?_|refine gx ?_|fail)
  refine tb (true) (fun h4=> ?_) (fun h4=> ?_)
  ·refine gr ?_
   exact ⟨_,_,rfl,rfl,rfl⟩
  ·cases h4
theorem BY (c:n5)(ds:List D6)(ss:List Y0)(n:Int):Pm A 38 [.ptr 4 0,.d (num n)] (HH c ds ss) lR (.d (.bool (W6 0 n&&C7 n ss.length))) (HH c ds ss):=by
 suffices h:Pq A 38 [.ptr 4 0,.d (num n)] (HH c ds ss) lR fun v H1=>v= .d (.bool (W6 0 n&&C7 n ss.length))/\H1=HH c ds ss by
  obtain ⟨v,H1,⟨rfl,rfl⟩,h⟩:=h;exact h
 unfold HH;refine Pq.run (b:=5) [.ptr 4 0,.d (num n),.any] rfl rfl rfl rfl rfl ?_
 repeat' (first|refine gx ?_|refine fk (h1:=fun hw=> ?_) (h2:=fun hw=> ?_)|refine L3 (h1:=fun hw=> ?_) (h2:=fun hw=> ?_)|refine Ex.I4 ?_|refine Ex.I6 ?_|refine Ex.cond rfl (fun ht=> ?_) (fun ht=> ?_)|refine Ex.test (Rn.text ?_)|refine Ex.test (Rn.draw ?_)|refine ⟨_,rfl,fun ht=> ?_,fun ht=> ?_⟩|refine ⟨_,rfl,?_⟩|fail)
 all_goals exact ⟨_,_,rfl,by simp [*,b9],rfl⟩
def dg (c:n5)(ss:List Y0)(s:D6):Bool:=n8 (B8 s (ss.map (·.1)) 0) 0 (c.j3.length - 1)
theorem Ed (c:n5)(ds:List D6)(ss:List Y0)(s:D6)(hc:c.j3.length<=1000):Pm A 122 [.ptr 4 0,.d (.str s)] (HH c ds ss) lR (.d (.bool (dg c ss s))) (HH c ds ss):=by
 have p1:=lD c ds ss s
 suffices h:Pq A 122 [.ptr 4 0,.d (.str s)] (HH c ds ss) lR fun v H1=>v= .d (.bool (dg c ss s))/\H1=HH c ds ss by
  obtain ⟨v,H1,⟨rfl,rfl⟩,h⟩:=h;exact h
 unfold HH at p1 ⊢;refine Pq.run (b:=5) [.ptr 4 0,.d (.str s),.any] rfl rfl rfl rfl rfl ?_
 repeat' (first|refine c1 p1 rfl ?_|refine cl (bM _ _ _) ?_|refine gx ?_|fail)
 exact ⟨_,_,rfl,rfl,rfl⟩
def E8 (ds:List D6)(s:D6):Int:=if !E5 s then 3 else if ds.any fun y=>J4 y s then 4 else 0
def B5 (ds:List D6)(s:D6):List D6:=if o9 (E8 ds s) 0 then ds++[s] else ds
theorem eY (c:n5)(ds:List D6)(ss:List Y0)(s:D6):Pm A 108 [.ptr 4 0,.d (.str s)] (HH c ds ss) lW (.d (num (E8 ds s))) (HH c (B5 ds s) ss):=by
 have hf:=sE s ds
 suffices h:Pq A 108 [.ptr 4 0,.d (.str s)] (HH c ds ss) lW fun v H1=>v= .d (num (E8 ds s))/\H1=HH c (B5 ds s) ss by
  obtain ⟨v,H1,⟨rfl,rfl⟩,h⟩:=h;exact h
 unfold HH;refine Pq.run (b:=5) [.ptr 4 0,.d (.str s),.any] rfl rfl rfl rfl rfl ?_;have QI:o9 3 0=false:=by simp [j9]
 have h11:o9 4 0=false:=by simp [j9]
 have h12:o9 0 0=true:=by simp [j9]
 refine gr ?_;refine tB (!E5 s) ?_ (fun h1=> ?_) (fun h1=> ?_)
 ·repeat' (first|refine cl (zZ _) ?_|refine gx ?_|refine fk (h1:=fun hw=> ?_) (h2:=fun hw=> ?_)|refine L3 (h1:=fun hw=> ?_) (h2:=fun hw=> ?_)|refine ⟨rfl,rfl,_,rfl,?_⟩|refine ⟨rfl,rfl⟩|fail)
  all_goals exact cc
 ·refine gr ?_
  have e1:E8 ds s=3:=by unfold E8;rw [h1];rfl
  exact ⟨_,_,rfl,by rw [e1];rfl,by unfold B5;rw [e1,QI];rfl⟩
 cases h2:ds.any fun y=>J4 y s with
 |true =>
  rw [h2,if_pos rfl] at hf;have e1:E8 ds s=4:=by unfold E8;rw [h1,h2];rfl
  refine tB (true) ?_ (fun h3=> ?_) (fun h3=> ?_)
  ·repeat' (first|refine lk1 hf rfl ?_|refine gx ?_|refine fk (h1:=fun hw=> ?_) (h2:=fun hw=> ?_)|refine L3 (h1:=fun hw=> ?_) (h2:=fun hw=> ?_)|refine ⟨rfl,rfl,_,rfl,?_⟩|refine ⟨rfl,rfl⟩|fail)
   all_goals exact cc
  ·refine gr ?_
   exact ⟨_,_,rfl,by rw [e1];rfl,by unfold B5;rw [e1,h11];rfl⟩
  ·cases h3
 |false =>
  rw [h2,if_neg (by simp)] at hf;have e1:E8 ds s=0:=by unfold E8;rw [h1,h2];rfl
  have hk:Data.Z0 .s (.str s) (.str s)=some true:=by simp [Data.Z0]
  refine tB (false) ?_ (fun h3=> ?_) (fun h3=> ?_)
  ·repeat' (first|refine lk1 hf rfl ?_|refine gx ?_|refine fk (h1:=fun hw=> ?_) (h2:=fun hw=> ?_)|refine L3 (h1:=fun hw=> ?_) (h2:=fun hw=> ?_)|refine ⟨rfl,rfl,_,rfl,?_⟩|refine ⟨rfl,rfl⟩|fail)
   all_goals exact cc
  ·cases h3
  repeat' (first|refine mp (vS s ds h2) hk (h2:= ?_)|refine gx ?_|fail)
  exact ⟨_,_,rfl,by rw [e1];rfl,by unfold B5;rw [e1,h12];rfl⟩
def nV (nm:List D6)(ty:List Int):b6:= .agg [.d (A5 encS nm),.d (ints ty)]
theorem xd (c:n5)(ds:List D6)(ss:List Y0)(s:D6)(nm:List D6)(ty:List Int)(hs:((ss.map (·.1)).any fun y=>J4 y s)=false)(hl:ss.length<=1000) :
  Pm A 111 [.ptr 4 0,.d (.str s),nV nm ty] (HH c ds ss) lW (.tuple []) (HH c ds (ss++[(s,nm,ty)])):=by
 have hput:=wM s (ss.map (·.1)) 0 hs;rw [List.length_map,Nat.zero_add] at hput;have hk:Data.Z0 .s (.str s) (.str s)=some true:=by simp [Data.Z0]
 have hr:roomFor (ss.length+1) 48=true:=by simp only [roomFor,decide_eq_true_eq];omega
 suffices h:Pq A 111 [.ptr 4 0,.d (.str s),nV nm ty] (HH c ds ss) lW fun v H1=>v= .tuple []/\H1=HH c ds (ss++[(s,nm,ty)]) by
  obtain ⟨v,H1,⟨rfl,rfl⟩,h⟩:=h;exact h
 unfold HH;refine Pq.run (b:=5) [.ptr 4 0,.d (.str s),nV nm ty,.any] rfl rfl rfl rfl rfl ?_
 repeat' (first|refine mp hput hk (h2:= ?_)|refine o2 ?_|refine ac2 (a:=(s,nm,ty)) (xs:=ss) (enc:=G5) hr rfl (h2:= ?_)|refine soO (h2:= ?_)|refine gx ?_|fail)
 refine ⟨_,_,rfl,rfl,?_⟩;have e:((ss++[(s,nm,ty)]).map (·.1))=ss.map (·.1)++[s]:=by simp
 rw [e];rfl
def cw (ss:List Y0)(s:D6)(col:Int):Int×Int :=
 if C7 (B8 s (ss.map (·.1)) 0) 0 then (0,7)
 else if !n8 col 0 ((nth ss (B8 s (ss.map (·.1)) 0).toNat).2.2.length - 1) then (0,3)
 else (nth (nth ss (B8 s (ss.map (·.1)) 0).toNat).2.2 col.toNat,0)
theorem iO (ss:List Y0)(s:D6):B8 s (ss.map (·.1)) 0= -1\/(0<=B8 s (ss.map (·.1)) 0/\B8 s (ss.map (·.1)) 0<ss.length):=by
 rcases bZ s (ss.map (·.1)) 0 with h|h
 ·exact Or.inl h
 ·right;simp at h;omega
theorem xe (c:n5)(ds:List D6)(ss:List Y0)(s:D6)(col:Int)(dV:∀ k,k<ss.length->(nth ss k).2.2.length<=100000):Pm A 121 [.ptr 4 0,.d (.str s),.d (num col)] (HH c ds ss) lR (.tuple [.d (num (cw ss s col).1),.d (num (cw ss s col).2)]) (HH c ds ss):=by
 have p1:=lD c ds ss s;have b1:=iO ss s
 suffices h:Pq A 121 [.ptr 4 0,.d (.str s),.d (num col)] (HH c ds ss) lR fun v H1=>v= .tuple [.d (num (cw ss s col).1),.d (num (cw ss s col).2)]/\H1=HH c ds ss by
  obtain ⟨v,H1,⟨rfl,rfl⟩,h⟩:=h;exact h
 unfold HH at p1 ⊢;refine Pq.run (b:=5) [.ptr 4 0,.d (.str s),.d (num col),.any,.any,.any,.any] rfl rfl rfl rfl rfl ?_
 repeat' (first|refine c1 p1 rfl ?_|refine gx ?_|fail)
 refine tb (C7 (B8 s (ss.map (·.1)) 0) 0) (fun h1=> ?_) (fun h1=> ?_)
 ·refine gr ?_
  exact ⟨_,_,rfl,by unfold cw;rw [h1];rfl,rfl⟩
 have h2:=z8 h1;have h3:=dV (B8 s (ss.map (·.1)) 0).toNat (by omega);refine gr ?_;refine tB (!n8 col 0 ((nth ss (B8 s (ss.map (·.1)) 0).toNat).2.2.length - 1)) ?_ (fun h4=> ?_) (fun h4=> ?_)
 ·repeat' (first|refine cl (bM _ _ _) ?_|refine gx ?_|refine fk (h1:=fun hw=> ?_) (h2:=fun hw=> ?_)|refine L3 (h1:=fun hw=> ?_) (h2:=fun hw=> ?_)|refine ⟨rfl,rfl,_,rfl,?_⟩|refine ⟨rfl,rfl⟩|fail)
  all_goals exact cc
 ·refine gr ?_
  exact ⟨_,_,rfl,by unfold cw;rw [h1,h4];rfl,rfl⟩
 have h5:=h4;simp [n8,p5] at h5;refine gr ?_;exact ⟨_,_,rfl,by unfold cw;rw [h1,h4];rfl,rfl⟩
set_option maxHeartbeats 4000000 in
theorem TA (t:fu)(xs:List Int)(hx:xs.length<=1000)(hc:t.m9.length<=1000):Pf A 150 [iC t,.d (ints xs)] (.d (.bool (S3 t (-1) xs))):=by
 refine Pf.run [iC t,.d (ints xs),.any,.any,.any,.any,.any,.any,.any,.any] rfl rfl rfl rfl ?_;refine gr ?_;refine Ex.fG (fun k T H=>∃ (i:Nat) (p:Int),T=[.any,.any,.ptr 0 0,.any,.d (num p),.any,.any,.d (ints xs),.d (num xs.length),.d (num i)]/\H=[.cells (t.enc.map .d)]/\i+k=xs.length/\ -1<=p/\S3 t (-1) xs=S3 t p (xs.drop i)) ?_ (k:=xs.length) ⟨0, -1,rfl,rfl,by simp,by omega,by simp⟩;rintro k _ _ ⟨i,p,rfl,rfl,hk,hp,hi⟩;refine Ex.seq ?_;refine tb (C7 i xs.length) (fun h1=> ?_) (fun h1=> ?_)
 ·have h2:=A4 h1
  rw [A8 (by omega)] at hi;refine gr ?_;refine tb (W6 (nth xs i) p||W6 t.m9.length (nth xs i)) (fun h3=> ?_) (fun h3=> ?_)
  ·refine gr ?_
   have h4:(C7 p (nth xs i)&&C7 (nth xs i) t.m9.length)=false:=by simp [p5,p8] at h3 ⊢;omega
   exact ⟨_,rfl,by rw [hi,S3,h4];rfl⟩
  have h4:C7 p (nth xs i)=true/\C7 (nth xs i) t.m9.length=true:=by simp [p5,p8] at h3 ⊢;omega
  have h5:=A4 h4.1;have h6:=A4 h4.2;refine gr ?_;refine tb (J4 (nth t.m9 (nth xs i).toNat).space []&&J4 (nth t.m9 (nth xs i).toNat).refs []) (fun h7=> ?_) (fun h7=> ?_)
  ·refine gr ?_
   exact ⟨_,rfl,by rw [hi,S3,h4.1,h4.2,h7];rfl⟩
  ·refine gr ?_
   exact ⟨k - 1,by omega,_,_,rfl,i+1,nth xs i,rfl,rfl,by omega,by omega,by rw [hi,S3,h4.1,h4.2,h7];rfl⟩
 ·refine gr ?_
  have h2:=z8 h1;rw [m6 (by omega)] at hi;exact ⟨_,rfl,by rw [hi];rfl⟩
def uy (x:Y6):b6:= .agg (x.enc.map .d)
def iS (t:fu)(x:Y6):Bool :=
 if !o9 x.fF 0&&(!o9 x.fF 1|| !C7 0 x.C9.length) then false
 else if !n8 x.jj 0 1048576 then false
 else if !o9 x.jj 0&& !C7 0 x.C9.length then false
 else o9 t.aI 0||W6 x.jj t.aI
set_option maxHeartbeats 4000000 in
theorem TB (t:fu)(x:Y6):Pf A 151 [iC t,uy x] (.d (.bool (iS t x))):=by
 refine Pf.run [iC t,uy x,.any,.any,.any,.any] rfl rfl rfl rfl ?_;refine gr ?_;refine tb (!o9 x.fF 0&&(!o9 x.fF 1|| !C7 0 x.C9.length)) (fun h1=> ?_) (fun h1=> ?_)
 ·refine gr ?_
  exact ⟨_,rfl,by unfold iS;rw [h1];rfl⟩
 refine tB (!n8 x.jj 0 1048576) ?_ (fun h2=> ?_) (fun h2=> ?_)
 ·repeat' (first|refine cl (bM _ _ _) ?_|refine gx ?_|refine fk (h1:=fun hw=> ?_) (h2:=fun hw=> ?_)|refine L3 (h1:=fun hw=> ?_) (h2:=fun hw=> ?_)|refine ⟨rfl,rfl,_,rfl,?_⟩|refine ⟨rfl,rfl⟩|fail)
  all_goals exact cc
 ·refine gr ?_
  exact ⟨_,rfl,by unfold iS;rw [h1,h2];rfl⟩
 refine tb (!o9 x.jj 0&& !C7 0 x.C9.length) (fun h3=> ?_) (fun h3=> ?_)
 ·refine gr ?_
  exact ⟨_,rfl,by unfold iS;rw [h1,h2,h3];rfl⟩
 repeat' (first|refine gx ?_|refine fk (h1:=fun hw=> ?_) (h2:=fun hw=> ?_)|refine L3 (h1:=fun hw=> ?_) (h2:=fun hw=> ?_)|refine Ex.I4 ?_|refine Ex.I6 ?_|refine Ex.cond rfl (fun ht=> ?_) (fun ht=> ?_)|refine Ex.test (Rn.text ?_)|refine Ex.test (Rn.draw ?_)|refine ⟨_,rfl,fun ht=> ?_,fun ht=> ?_⟩|refine ⟨_,rfl,?_⟩|fail)
 all_goals unfold iS
 all_goals rw [h1,h2,h3]
 all_goals simp [*,b9]
def l7:H7:=⟨0,7,7,7⟩
theorem NU (a0 a1 a2 a3 a4 a5:z6)(x y:Y6):Pm A 148 [uy y,.ptr 6 0] [a0,a1,a2,a3,a4,a5,.cells (x.enc.map .d)] l7 (.d (.bool (J4 y.name x.name))) [a0,a1,a2,a3,a4,a5,.cells (x.enc.map .d)]:=by
 suffices h:Pq A 148 [uy y,.ptr 6 0] [a0,a1,a2,a3,a4,a5,.cells (x.enc.map .d)] l7 fun v H1=>v= .d (.bool (J4 y.name x.name))/\H1=[a0,a1,a2,a3,a4,a5,.cells (x.enc.map .d)] by
  obtain ⟨v,H1,⟨rfl,rfl⟩,h⟩:=h;exact h
 refine Pq.run (b:=7) [uy y,.ptr 6 0,.any,.any] rfl rfl rfl rfl rfl ?_;refine gr ?_;exact ⟨_,_,rfl,rfl,rfl⟩
def CO (x:Y6):List Y6->Nat->Int
 |[],_=> -1
 |y::r,i=>if J4 y.name x.name then i else CO x r (i+1)
theorem BC (x:Y6):∀ (l:List Y6) (i:Nat),W6 0 (CO x l i)=l.any fun y=>J4 y.name x.name
 |[],i=>by simp [CO,p5]
 |y::r,i=>by
  have h1:=BC x r (i+1);simp only [CO,List.any_cons];cases h3:J4 y.name x.name with
  |true=>simp [p5]
  |false=>simpa using h1
set_option maxHeartbeats 2000000 in
theorem NX (a0 a1 a2 a3 a4 a5:z6)(x:Y6)(ys:List Y6)(hy:ys.length<=1000):Pm A 171 [.d (A5 Y6.enc ys),.func 148 [] [.ptr 6 0]] [a0,a1,a2,a3,a4,a5,.cells (x.enc.map .d)] l7 (.d (num (CO x ys 0))) [a0,a1,a2,a3,a4,a5,.cells (x.enc.map .d)]:=by
 suffices h:Pq A 171 [.d (A5 Y6.enc ys),.func 148 [] [.ptr 6 0]] [a0,a1,a2,a3,a4,a5,.cells (x.enc.map .d)] l7 fun v H1=>v= .d (num (CO x ys 0))/\H1=[a0,a1,a2,a3,a4,a5,.cells (x.enc.map .d)] by
  obtain ⟨v,H1,⟨rfl,rfl⟩,h⟩:=h;exact h
 refine Pq.run (b:=7) [.d (A5 Y6.enc ys),.func 148 [] [.ptr 6 0],.any,.any,.any,.any] rfl rfl rfl rfl rfl ?_;refine gr ?_;refine Ex.J1 (fun k T H=>∃ (i:Nat) (v w:b6),T=[.d (A5 Y6.enc ys),.func 148 [] [.ptr 6 0],v,w,.d (num ys.length),.d (num i)]/\H=[a0,a1,a2,a3,a4,a5,.cells (x.enc.map .d)]/\i+k=ys.length/\CO x ys 0=CO x (ys.drop i) i) (by rintro _ _ _ ⟨_,_,_,_,rfl,_⟩;rfl) ?_ (k:=ys.length) ⟨0,_,_,rfl,rfl,by simp,by simp⟩;rintro k _ _ ⟨i,v,w,rfl,rfl,hk,hi⟩;refine Ex.nT ?_;refine Ex.seq ?_;refine tb (C7 i ys.length) (fun h1=> ?_) (fun h1=> ?_)
 ·have h2:=A4 h1
  rw [A8 (by omega)] at hi;have p1:=NU a0 a1 a2 a3 a4 a5 x (nth ys i);refine gr ?_;refine tB (J4 (nth ys i).name x.name) ?_ (fun h3=> ?_) (fun h3=> ?_)
  ·repeat' (first|refine Yp p1 rfl ?_|refine gx ?_|refine fk (h1:=fun hw=> ?_) (h2:=fun hw=> ?_)|refine L3 (h1:=fun hw=> ?_) (h2:=fun hw=> ?_)|refine ⟨rfl,rfl,_,rfl,?_⟩|refine ⟨rfl,rfl⟩|fail)
   all_goals exact cc
  ·refine gr ?_
   exact ⟨_,_,rfl,by rw [hi,CO,h3];rfl,rfl⟩
  ·refine gr ?_
   exact ⟨k - 1,by omega,i+1,_,_,rfl,rfl,by omega,by rw [hi,CO,h3];rfl⟩
 ·have h2:=z8 h1
  rw [m6 (by omega)] at hi;refine gr ?_;exact ⟨_,_,rfl,by rw [hi];rfl,rfl⟩
theorem NT (a0 a1 a2 a3 a4 a5:z6)(x:Y6)(ys:List Y6)(hy:ys.length<=1000):Pm A 147 [.d (A5 Y6.enc ys),.func 148 [] [.ptr 6 0]] [a0,a1,a2,a3,a4,a5,.cells (x.enc.map .d)] l7 (.d (.bool (ys.any fun y=>J4 y.name x.name))) [a0,a1,a2,a3,a4,a5,.cells (x.enc.map .d)]:=by
 have p1:=NX a0 a1 a2 a3 a4 a5 x ys hy;rw [<- BC x ys 0]
 suffices h:Pq A 147 [.d (A5 Y6.enc ys),.func 148 [] [.ptr 6 0]] [a0,a1,a2,a3,a4,a5,.cells (x.enc.map .d)] l7 fun v H1=>v= .d (.bool (W6 0 (CO x ys 0)))/\H1=[a0,a1,a2,a3,a4,a5,.cells (x.enc.map .d)] by
  obtain ⟨v,H1,⟨rfl,rfl⟩,h⟩:=h;exact h
 refine Pq.run (b:=7) [.d (A5 Y6.enc ys),.func 148 [] [.ptr 6 0],.any] rfl rfl rfl rfl rfl ?_
 repeat' (first|refine c1 p1 rfl ?_|refine gx ?_|fail)
 exact ⟨_,_,rfl,rfl,rfl⟩
theorem ZC (x:Y6):Pf A 113 [uy x] (.d (.str x.name)):=by
 refine Pf.run [uy x,.any,.any] rfl rfl rfl rfl ?_;refine gr ?_;exact ⟨_,rfl,rfl⟩
theorem ZD (x:Y6):Pf A 115 [uy x] (.d (num x.type)):=by
 refine Pf.run [uy x,.any,.any] rfl rfl rfl rfl ?_;refine gr ?_;exact ⟨_,rfl,rfl⟩
set_option maxHeartbeats 2000000 in
theorem Ts (xs:List Y6)(hx:xs.length<=1000):Pf A 112 [.d (A5 Y6.enc xs),.func 113 [] []] (.d (A5 encS (xs.map Y6.name))):=by
 refine Pf.run [.d (A5 Y6.enc xs),.func 113 [] [],.any,.any,.any,.any,.any,.any] rfl rfl rfl rfl ?_;refine gr ?_;refine Ex.fG (fun k T H=>∃ (i:Nat) (acc:List D6),T=[.any,.func 113 [] [],.any,B4 1 encS acc,.any,.d (A5 Y6.enc xs),.d (num xs.length),.d (num i)]/\H=[]/\i+k=xs.length/\acc=(xs.take i).map Y6.name) ?_ (k:=xs.length) ⟨0,[],rfl,rfl,by simp,by simp⟩;rintro k _ _ ⟨i,acc,rfl,rfl,hk,hacc⟩;have hl:acc.length=i:=by rw [hacc];simp;omega
 refine Ex.seq ?_;refine tb (C7 i xs.length) (fun h1=> ?_) (fun h1=> ?_)
 ·have h2:=A4 h1
  have p1:=ZC (nth xs i)
  repeat' (first|refine cv p1 ?_|refine gx ?_|fail)
  exact ⟨k - 1,by omega,_,_,rfl,i+1,acc++[(nth xs i).name],rfl,rfl,by omega,by rw [F6 (by omega),hacc];simp⟩
 ·have h2:=z8 h1
  rw [q7 (by omega)] at hacc;refine gr ?_;exact ⟨_,rfl,by rw [<- hacc];rfl⟩
set_option maxHeartbeats 2000000 in
theorem Tt (xs:List Y6)(hx:xs.length<=1000):Pf A 114 [.d (A5 Y6.enc xs),.func 115 [] []] (.d (ints (xs.map Y6.type))):=by
 refine Pf.run [.d (A5 Y6.enc xs),.func 115 [] [],.any,.any,.any,.any,.any,.any] rfl rfl rfl rfl ?_;refine gr ?_;refine Ex.fG (fun k T H=>∃ (i:Nat) (acc:List Int),T=[.any,.func 115 [] [],.any,B4 1 (fun n=>[num n]) acc,.any,.d (A5 Y6.enc xs),.d (num xs.length),.d (num i)]/\H=[]/\i+k=xs.length/\acc=(xs.take i).map Y6.type) ?_ (k:=xs.length) ⟨0,[],rfl,rfl,by simp,by simp⟩;rintro k _ _ ⟨i,acc,rfl,rfl,hk,hacc⟩;have hl:acc.length=i:=by rw [hacc];simp;omega
 refine Ex.seq ?_;refine tb (C7 i xs.length) (fun h1=> ?_) (fun h1=> ?_)
 ·have h2:=A4 h1
  have p1:=ZD (nth xs i)
  repeat' (first|refine cv p1 ?_|refine gx ?_|fail)
  exact ⟨k - 1,by omega,_,_,rfl,i+1,acc++[(nth xs i).type],rfl,rfl,by omega,by rw [F6 (by omega),hacc];simp⟩
 ·have h2:=z8 h1
  rw [q7 (by omega)] at hacc;refine gr ?_;exact ⟨_,rfl,by rw [<- hacc];rfl⟩
end Go.Proofs.YtkmclibmmlgogaaGreat


/- Texts D20 D21 D24 D25 (made short by a program) -/
import Derived.Test.YtkmclibmmlgogaaGreatD1
import Derived.Test.YtkmclibmmlgogaaGreatD4
set_option linter.unusedVariables false
set_option linter.unusedSimpArgs false
open Bool renaming false_eq_true → b7
open List renaming drop_of_length_le → m7, take_of_length_le → s6
namespace Go.Proofs.YtkmclibmmlgogaaGreat
open Go.u7 Go.u7.S
attribute [local irreducible] Rx Ry Rn Ex Pf
abbrev W5:=C7×List C7×List Int
def E9 (s:W5):List u7.Data:=[y7 encS s.2.1,ints s.2.2]
def HH (c:m9)(ds:List C7)(ss:List W5):o6 :=
 [.cells (c.enc.map .d),.cells (c.enc.map .d),.map (dmap ds),.map (R1 (ss.map (·.1)) 0),.cells (c.enc.map .d++[.map 2,.map 3,A5 2 E9 ss])]
def lW:F9:=⟨0,0,5,5⟩
def lR:F9:=⟨0,5,5,5⟩
theorem rO (s:C7):∀ (l:List C7) (i:Nat),aK .s (.str s) (R1 l i)=some (if C2 (A8 s l i) 0 then none else some (.d (num (A8 s l i))))
 |[],i=>by simp [R1,aK,A8,o9]
 |d::l,i=>by
  have h1:=rO s l (i+1);have h2:(s==d)=I9 d s:=by
   rw [A3,Bool.eq_iff_iff];simp only [beq_iff_eq];exact eq_comm
  simp only [R1,aK,Data.X7,A8,h2]
  by_cases hb:I9 d s=true
  ·simp [hb,o9,num]
  ·have hb' :I9 d s=false:=by simpa using hb
   simp only [hb',b7,if_false];exact h1
theorem lK (c:m9)(ds:List C7)(ss:List W5)(s:C7):Pm A 61 [.ptr 4 0,.d (.str s)] (HH c ds ss) lR (.d (num (A8 s (ss.map (·.1)) 0))) (HH c ds ss):=by
 have hf:=rO s (ss.map (·.1)) 0
 suffices h:Pq A 61 [.ptr 4 0,.d (.str s)] (HH c ds ss) lR fun v H1=>v= .d (num (A8 s (ss.map (·.1)) 0))/\H1=HH c ds ss by
  obtain ⟨v,H1,⟨rfl,rfl⟩,h⟩:=h;exact h
 unfold HH;refine Pq.run (b:=5) [.ptr 4 0,.d (.str s),.any,.any,.any] rfl rfl rfl rfl rfl ?_;cases h1:C2 (A8 s (ss.map (·.1)) 0) 0 with
 |true =>
  rw [h1,if_pos rfl] at hf;have h2:=z6 h1;have h3:A8 s (ss.map (·.1)) 0= -1:=by rcases bJ s (ss.map (·.1)) 0 with h|h<;>omega
  repeat' (first|refine lk2 hf rfl rfl ?_|refine gx ?_|fail)
  refine tb (false) (fun h4=> ?_) (fun h4=> ?_)
  ·cases h4
  refine gr ?_;exact ⟨_,_,rfl,by rw [h3];rfl,rfl⟩
 |false =>
  rw [h1,if_neg (by simp)] at hf
  repeat' (first|refine lk2 hf rfl rfl ?_|refine gx ?_|fail)
  refine tb (true) (fun h4=> ?_) (fun h4=> ?_)
  ·refine gr ?_
   exact ⟨_,_,rfl,rfl,rfl⟩
  ·cases h4
theorem Np (c:m9)(ds:List C7)(ss:List W5)(n:Int):Pm A 38 [.ptr 4 0,.d (num n)] (HH c ds ss) lR (.d (.bool (X4 0 n&&C2 n ss.length))) (HH c ds ss):=by
 suffices h:Pq A 38 [.ptr 4 0,.d (num n)] (HH c ds ss) lR fun v H1=>v= .d (.bool (X4 0 n&&C2 n ss.length))/\H1=HH c ds ss by
  obtain ⟨v,H1,⟨rfl,rfl⟩,h⟩:=h;exact h
 unfold HH;refine Pq.run (b:=5) [.ptr 4 0,.d (num n),.any] rfl rfl rfl rfl rfl ?_
 repeat' (first|refine gx ?_|refine fk (h1:=fun hw=> ?_) (h2:=fun hw=> ?_)|refine M8 (h1:=fun hw=> ?_) (h2:=fun hw=> ?_)|refine Ex.J6 ?_|refine Ex.J8 ?_|refine Ex.cond rfl (fun ht=> ?_) (fun ht=> ?_)|refine Ex.test (Rn.text ?_)|refine Ex.test (Rn.draw ?_)|refine ⟨_,rfl,fun ht=> ?_,fun ht=> ?_⟩|refine ⟨_,rfl,?_⟩|fail)
 all_goals exact ⟨_,_,rfl,by simp [*,b9],rfl⟩
def cN (c:m9)(ss:List W5)(s:C7):Bool:=n7 (A8 s (ss.map (·.1)) 0) 0 (c.j3.length - 1)
theorem DB (c:m9)(ds:List C7)(ss:List W5)(s:C7)(hc:c.j3.length<=1000):Pm A 122 [.ptr 4 0,.d (.str s)] (HH c ds ss) lR (.d (.bool (cN c ss s))) (HH c ds ss):=by
 have p1:=lK c ds ss s
 suffices h:Pq A 122 [.ptr 4 0,.d (.str s)] (HH c ds ss) lR fun v H1=>v= .d (.bool (cN c ss s))/\H1=HH c ds ss by
  obtain ⟨v,H1,⟨rfl,rfl⟩,h⟩:=h;exact h
 unfold HH at p1 ⊢;refine Pq.run (b:=5) [.ptr 4 0,.d (.str s),.any] rfl rfl rfl rfl rfl ?_
 repeat' (first|refine c1 p1 rfl ?_|refine cl (bu _ _ _) ?_|refine gx ?_|fail)
 exact ⟨_,_,rfl,rfl,rfl⟩
def E0 (ds:List C7)(s:C7):Int:=if !D3 s then 3 else if ds.any fun y=>I9 y s then 4 else 0
def A1 (ds:List C7)(s:C7):List C7:=if o8 (E0 ds s) 0 then ds++[s] else ds
theorem eH (c:m9)(ds:List C7)(ss:List W5)(s:C7):Pm A 108 [.ptr 4 0,.d (.str s)] (HH c ds ss) lW (.d (num (E0 ds s))) (HH c (A1 ds s) ss):=by
 have hf:=rE s ds
 suffices h:Pq A 108 [.ptr 4 0,.d (.str s)] (HH c ds ss) lW fun v H1=>v= .d (num (E0 ds s))/\H1=HH c (A1 ds s) ss by
  obtain ⟨v,H1,⟨rfl,rfl⟩,h⟩:=h;exact h
 unfold HH;refine Pq.run (b:=5) [.ptr 4 0,.d (.str s),.any] rfl rfl rfl rfl rfl ?_;have PZ:o8 3 0=false:=by simp [j5]
 have h11:o8 4 0=false:=by simp [j5]
 have h12:o8 0 0=true:=by simp [j5]
 refine gr ?_;refine tB (!D3 s) ?_ (fun h1=> ?_) (fun h1=> ?_)
 ·repeat' (first|refine cl (zj _) ?_|refine gx ?_|refine fk (h1:=fun hw=> ?_) (h2:=fun hw=> ?_)|refine M8 (h1:=fun hw=> ?_) (h2:=fun hw=> ?_)|refine ⟨rfl,rfl,_,rfl,?_⟩|refine ⟨rfl,rfl⟩|fail)
  all_goals exact cc
 ·refine gr ?_
  have e1:E0 ds s=3:=by unfold E0;rw [h1];rfl
  exact ⟨_,_,rfl,by rw [e1];rfl,by unfold A1;rw [e1,PZ];rfl⟩
 cases h2:ds.any fun y=>I9 y s with
 |true =>
  rw [h2,if_pos rfl] at hf;have e1:E0 ds s=4:=by unfold E0;rw [h1,h2];rfl
  refine tB (true) ?_ (fun h3=> ?_) (fun h3=> ?_)
  ·repeat' (first|refine lk1 hf rfl ?_|refine gx ?_|refine fk (h1:=fun hw=> ?_) (h2:=fun hw=> ?_)|refine M8 (h1:=fun hw=> ?_) (h2:=fun hw=> ?_)|refine ⟨rfl,rfl,_,rfl,?_⟩|refine ⟨rfl,rfl⟩|fail)
   all_goals exact cc
  ·refine gr ?_
   exact ⟨_,_,rfl,by rw [e1];rfl,by unfold A1;rw [e1,h11];rfl⟩
  ·cases h3
 |false =>
  rw [h2,if_neg (by simp)] at hf;have e1:E0 ds s=0:=by unfold E0;rw [h1,h2];rfl
  have hk:Data.X7 .s (.str s) (.str s)=some true:=by simp [Data.X7]
  refine tB (false) ?_ (fun h3=> ?_) (fun h3=> ?_)
  ·repeat' (first|refine lk1 hf rfl ?_|refine gx ?_|refine fk (h1:=fun hw=> ?_) (h2:=fun hw=> ?_)|refine M8 (h1:=fun hw=> ?_) (h2:=fun hw=> ?_)|refine ⟨rfl,rfl,_,rfl,?_⟩|refine ⟨rfl,rfl⟩|fail)
   all_goals exact cc
  ·cases h3
  repeat' (first|refine mp (uZ s ds h2) hk (h2:= ?_)|refine gx ?_|fail)
  exact ⟨_,_,rfl,by rw [e1];rfl,by unfold A1;rw [e1,h12];rfl⟩
def nA (nm:List C7)(ty:List Int):b6:= .agg [.d (y7 encS nm),.d (ints ty)]
theorem wm (c:m9)(ds:List C7)(ss:List W5)(s:C7)(nm:List C7)(ty:List Int)(hs:((ss.map (·.1)).any fun y=>I9 y s)=false)(hl:ss.length<=1000) :
  Pm A 111 [.ptr 4 0,.d (.str s),nA nm ty] (HH c ds ss) lW (.tuple []) (HH c ds (ss++[(s,nm,ty)])):=by
 have hput:=vN s (ss.map (·.1)) 0 hs;rw [List.length_map,Nat.zero_add] at hput;have hk:Data.X7 .s (.str s) (.str s)=some true:=by simp [Data.X7]
 have hr:roomFor (ss.length+1) 48=true:=by simp only [roomFor,decide_eq_true_eq];omega
 suffices h:Pq A 111 [.ptr 4 0,.d (.str s),nA nm ty] (HH c ds ss) lW fun v H1=>v= .tuple []/\H1=HH c ds (ss++[(s,nm,ty)]) by
  obtain ⟨v,H1,⟨rfl,rfl⟩,h⟩:=h;exact h
 unfold HH;refine Pq.run (b:=5) [.ptr 4 0,.d (.str s),nA nm ty,.any] rfl rfl rfl rfl rfl ?_
 repeat' (first|refine mp hput hk (h2:= ?_)|refine o2 ?_|refine ac2 (a:=(s,nm,ty)) (xs:=ss) (enc:=E9) hr rfl (h2:= ?_)|refine Zq (h2:= ?_)|refine gx ?_|fail)
 refine ⟨_,_,rfl,rfl,?_⟩;have e:((ss++[(s,nm,ty)]).map (·.1))=ss.map (·.1)++[s]:=by simp
 rw [e];rfl
def bV (ss:List W5)(s:C7)(col:Int):Int×Int :=
 if C2 (A8 s (ss.map (·.1)) 0) 0 then (0,7)
 else if !n7 col 0 ((nth ss (A8 s (ss.map (·.1)) 0).toNat).2.2.length - 1) then (0,3)
 else (nth (nth ss (A8 s (ss.map (·.1)) 0).toNat).2.2 col.toNat,0)
theorem iu (ss:List W5)(s:C7):A8 s (ss.map (·.1)) 0= -1\/(0<=A8 s (ss.map (·.1)) 0/\A8 s (ss.map (·.1)) 0<ss.length):=by
 rcases bJ s (ss.map (·.1)) 0 with h|h
 ·exact Or.inl h
 ·right;simp at h;omega
theorem wo (c:m9)(ds:List C7)(ss:List W5)(s:C7)(col:Int)(dy:∀ k,k<ss.length->(nth ss k).2.2.length<=100000):Pm A 121 [.ptr 4 0,.d (.str s),.d (num col)] (HH c ds ss) lR (.tuple [.d (num (bV ss s col).1),.d (num (bV ss s col).2)]) (HH c ds ss):=by
 have p1:=lK c ds ss s;have b1:=iu ss s
 suffices h:Pq A 121 [.ptr 4 0,.d (.str s),.d (num col)] (HH c ds ss) lR fun v H1=>v= .tuple [.d (num (bV ss s col).1),.d (num (bV ss s col).2)]/\H1=HH c ds ss by
  obtain ⟨v,H1,⟨rfl,rfl⟩,h⟩:=h;exact h
 unfold HH at p1 ⊢;refine Pq.run (b:=5) [.ptr 4 0,.d (.str s),.d (num col),.any,.any,.any,.any] rfl rfl rfl rfl rfl ?_
 repeat' (first|refine c1 p1 rfl ?_|refine gx ?_|fail)
 refine tb (C2 (A8 s (ss.map (·.1)) 0) 0) (fun h1=> ?_) (fun h1=> ?_)
 ·refine gr ?_
  exact ⟨_,_,rfl,by unfold bV;rw [h1];rfl,rfl⟩
 have h2:=z8 h1;have h3:=dy (A8 s (ss.map (·.1)) 0).toNat (by omega);refine gr ?_;refine tB (!n7 col 0 ((nth ss (A8 s (ss.map (·.1)) 0).toNat).2.2.length - 1)) ?_ (fun h4=> ?_) (fun h4=> ?_)
 ·repeat' (first|refine cl (bu _ _ _) ?_|refine gx ?_|refine fk (h1:=fun hw=> ?_) (h2:=fun hw=> ?_)|refine M8 (h1:=fun hw=> ?_) (h2:=fun hw=> ?_)|refine ⟨rfl,rfl,_,rfl,?_⟩|refine ⟨rfl,rfl⟩|fail)
  all_goals exact cc
 ·refine gr ?_
  exact ⟨_,_,rfl,by unfold bV;rw [h1,h4];rfl,rfl⟩
 have h5:=h4;simp [n7,o5] at h5;refine gr ?_;exact ⟨_,_,rfl,by unfold bV;rw [h1,h4];rfl,rfl⟩
set_option maxHeartbeats 4000000 in
theorem Su (t:er)(xs:List Int)(hx:xs.length<=1000)(hc:t.m8.length<=1000):Pf A 150 [gT t,.d (ints xs)] (.d (.bool (Q8 t (-1) xs))):=by
 refine Pf.run [gT t,.d (ints xs),.any,.any,.any,.any,.any,.any,.any,.any] rfl rfl rfl rfl ?_;refine gr ?_;refine Ex.ff (fun k T H=>∃ (i:Nat) (p:Int),T=[.any,.any,.ptr 0 0,.any,.d (num p),.any,.any,.d (ints xs),.d (num xs.length),.d (num i)]/\H=[.cells (t.enc.map .d)]/\i+k=xs.length/\ -1<=p/\Q8 t (-1) xs=Q8 t p (xs.drop i)) ?_ (k:=xs.length) ⟨0, -1,rfl,rfl,by simp,by omega,by simp⟩;rintro k _ _ ⟨i,p,rfl,rfl,hk,hp,hi⟩;refine Ex.seq ?_;refine tb (C2 i xs.length) (fun h1=> ?_) (fun h1=> ?_)
 ·have h2:=z6 h1
  rw [A4 (by omega)] at hi;refine gr ?_;refine tb (X4 (nth xs i) p||X4 t.m8.length (nth xs i)) (fun h3=> ?_) (fun h3=> ?_)
  ·refine gr ?_
   have h4:(C2 p (nth xs i)&&C2 (nth xs i) t.m8.length)=false:=by simp [o5,o9] at h3 ⊢;omega
   exact ⟨_,rfl,by rw [hi,Q8,h4];rfl⟩
  have h4:C2 p (nth xs i)=true/\C2 (nth xs i) t.m8.length=true:=by simp [o5,o9] at h3 ⊢;omega
  have h5:=z6 h4.1;have h6:=z6 h4.2;refine gr ?_;refine tb (I9 (nth t.m8 (nth xs i).toNat).space []&&I9 (nth t.m8 (nth xs i).toNat).refs []) (fun h7=> ?_) (fun h7=> ?_)
  ·refine gr ?_
   exact ⟨_,rfl,by rw [hi,Q8,h4.1,h4.2,h7];rfl⟩
  ·refine gr ?_
   exact ⟨k - 1,by omega,_,_,rfl,i+1,nth xs i,rfl,rfl,by omega,by omega,by rw [hi,Q8,h4.1,h4.2,h7];rfl⟩
 ·refine gr ?_
  have h2:=z8 h1;rw [m7 (by omega)] at hi;exact ⟨_,rfl,by rw [hi];rfl⟩
def tP (x:W6):b6:= .agg (x.enc.map .d)
def iB (t:er)(x:W6):Bool :=
 if !o8 x.dD 0&&(!o8 x.dD 1|| !C2 0 x.A7.length) then false
 else if !n7 x.gw 0 1048576 then false
 else if !o8 x.gw 0&& !C2 0 x.A7.length then false
 else o8 t.X9 0||X4 x.gw t.X9
set_option maxHeartbeats 4000000 in
theorem Sv (t:er)(x:W6):Pf A 151 [gT t,tP x] (.d (.bool (iB t x))):=by
 refine Pf.run [gT t,tP x,.any,.any,.any,.any] rfl rfl rfl rfl ?_;refine gr ?_;refine tb (!o8 x.dD 0&&(!o8 x.dD 1|| !C2 0 x.A7.length)) (fun h1=> ?_) (fun h1=> ?_)
 ·refine gr ?_
  exact ⟨_,rfl,by unfold iB;rw [h1];rfl⟩
 refine tB (!n7 x.gw 0 1048576) ?_ (fun h2=> ?_) (fun h2=> ?_)
 ·repeat' (first|refine cl (bu _ _ _) ?_|refine gx ?_|refine fk (h1:=fun hw=> ?_) (h2:=fun hw=> ?_)|refine M8 (h1:=fun hw=> ?_) (h2:=fun hw=> ?_)|refine ⟨rfl,rfl,_,rfl,?_⟩|refine ⟨rfl,rfl⟩|fail)
  all_goals exact cc
 ·refine gr ?_
  exact ⟨_,rfl,by unfold iB;rw [h1,h2];rfl⟩
 refine tb (!o8 x.gw 0&& !C2 0 x.A7.length) (fun h3=> ?_) (fun h3=> ?_)
 ·refine gr ?_
  exact ⟨_,rfl,by unfold iB;rw [h1,h2,h3];rfl⟩
 repeat' (first|refine gx ?_|refine fk (h1:=fun hw=> ?_) (h2:=fun hw=> ?_)|refine M8 (h1:=fun hw=> ?_) (h2:=fun hw=> ?_)|refine Ex.J6 ?_|refine Ex.J8 ?_|refine Ex.cond rfl (fun ht=> ?_) (fun ht=> ?_)|refine Ex.test (Rn.text ?_)|refine Ex.test (Rn.draw ?_)|refine ⟨_,rfl,fun ht=> ?_,fun ht=> ?_⟩|refine ⟨_,rfl,?_⟩|fail)
 all_goals unfold iB
 all_goals rw [h1,h2,h3]
 all_goals simp [*,b9]
def l7:F9:=⟨0,7,7,7⟩
theorem Nk (a0 a1 a2 a3 a4 a5:u5)(x y:W6):Pm A 148 [tP y,.ptr 6 0] [a0,a1,a2,a3,a4,a5,.cells (x.enc.map .d)] l7 (.d (.bool (I9 y.name x.name))) [a0,a1,a2,a3,a4,a5,.cells (x.enc.map .d)]:=by
 suffices h:Pq A 148 [tP y,.ptr 6 0] [a0,a1,a2,a3,a4,a5,.cells (x.enc.map .d)] l7 fun v H1=>v= .d (.bool (I9 y.name x.name))/\H1=[a0,a1,a2,a3,a4,a5,.cells (x.enc.map .d)] by
  obtain ⟨v,H1,⟨rfl,rfl⟩,h⟩:=h;exact h
 refine Pq.run (b:=7) [tP y,.ptr 6 0,.any,.any] rfl rfl rfl rfl rfl ?_;refine gr ?_;exact ⟨_,_,rfl,rfl,rfl⟩
def Cj (x:W6):List W6->Nat->Int
 |[],_=> -1
 |y::r,i=>if I9 y.name x.name then i else Cj x r (i+1)
theorem AU (x:W6):∀ (l:List W6) (i:Nat),X4 0 (Cj x l i)=l.any fun y=>I9 y.name x.name
 |[],i=>by simp [Cj,o5]
 |y::r,i=>by
  have h1:=AU x r (i+1);simp only [Cj,List.any_cons];cases h3:I9 y.name x.name with
  |true=>simp [o5]
  |false=>simpa using h1
set_option maxHeartbeats 2000000 in
theorem No (a0 a1 a2 a3 a4 a5:u5)(x:W6)(ys:List W6)(hy:ys.length<=1000):Pm A 171 [.d (y7 W6.enc ys),.func 148 [] [.ptr 6 0]] [a0,a1,a2,a3,a4,a5,.cells (x.enc.map .d)] l7 (.d (num (Cj x ys 0))) [a0,a1,a2,a3,a4,a5,.cells (x.enc.map .d)]:=by
 suffices h:Pq A 171 [.d (y7 W6.enc ys),.func 148 [] [.ptr 6 0]] [a0,a1,a2,a3,a4,a5,.cells (x.enc.map .d)] l7 fun v H1=>v= .d (num (Cj x ys 0))/\H1=[a0,a1,a2,a3,a4,a5,.cells (x.enc.map .d)] by
  obtain ⟨v,H1,⟨rfl,rfl⟩,h⟩:=h;exact h
 refine Pq.run (b:=7) [.d (y7 W6.enc ys),.func 148 [] [.ptr 6 0],.any,.any,.any,.any] rfl rfl rfl rfl rfl ?_;refine gr ?_;refine Ex.I7 (fun k T H=>∃ (i:Nat) (v w:b6),T=[.d (y7 W6.enc ys),.func 148 [] [.ptr 6 0],v,w,.d (num ys.length),.d (num i)]/\H=[a0,a1,a2,a3,a4,a5,.cells (x.enc.map .d)]/\i+k=ys.length/\Cj x ys 0=Cj x (ys.drop i) i) (by rintro _ _ _ ⟨_,_,_,_,rfl,_⟩;rfl) ?_ (k:=ys.length) ⟨0,_,_,rfl,rfl,by simp,by simp⟩;rintro k _ _ ⟨i,v,w,rfl,rfl,hk,hi⟩;refine Ex.nT ?_;refine Ex.seq ?_;refine tb (C2 i ys.length) (fun h1=> ?_) (fun h1=> ?_)
 ·have h2:=z6 h1
  rw [A4 (by omega)] at hi;have p1:=Nk a0 a1 a2 a3 a4 a5 x (nth ys i);refine gr ?_;refine tB (I9 (nth ys i).name x.name) ?_ (fun h3=> ?_) (fun h3=> ?_)
  ·repeat' (first|refine WY p1 rfl ?_|refine gx ?_|refine fk (h1:=fun hw=> ?_) (h2:=fun hw=> ?_)|refine M8 (h1:=fun hw=> ?_) (h2:=fun hw=> ?_)|refine ⟨rfl,rfl,_,rfl,?_⟩|refine ⟨rfl,rfl⟩|fail)
   all_goals exact cc
  ·refine gr ?_
   exact ⟨_,_,rfl,by rw [hi,Cj,h3];rfl,rfl⟩
  ·refine gr ?_
   exact ⟨k - 1,by omega,i+1,_,_,rfl,rfl,by omega,by rw [hi,Cj,h3];rfl⟩
 ·have h2:=z8 h1
  rw [m7 (by omega)] at hi;refine gr ?_;exact ⟨_,_,rfl,by rw [hi];rfl,rfl⟩
theorem Nj (a0 a1 a2 a3 a4 a5:u5)(x:W6)(ys:List W6)(hy:ys.length<=1000):Pm A 147 [.d (y7 W6.enc ys),.func 148 [] [.ptr 6 0]] [a0,a1,a2,a3,a4,a5,.cells (x.enc.map .d)] l7 (.d (.bool (ys.any fun y=>I9 y.name x.name))) [a0,a1,a2,a3,a4,a5,.cells (x.enc.map .d)]:=by
 have p1:=No a0 a1 a2 a3 a4 a5 x ys hy;rw [<- AU x ys 0]
 suffices h:Pq A 147 [.d (y7 W6.enc ys),.func 148 [] [.ptr 6 0]] [a0,a1,a2,a3,a4,a5,.cells (x.enc.map .d)] l7 fun v H1=>v= .d (.bool (X4 0 (Cj x ys 0)))/\H1=[a0,a1,a2,a3,a4,a5,.cells (x.enc.map .d)] by
  obtain ⟨v,H1,⟨rfl,rfl⟩,h⟩:=h;exact h
 refine Pq.run (b:=7) [.d (y7 W6.enc ys),.func 148 [] [.ptr 6 0],.any] rfl rfl rfl rfl rfl ?_
 repeat' (first|refine c1 p1 rfl ?_|refine gx ?_|fail)
 exact ⟨_,_,rfl,rfl,rfl⟩
theorem Yr (x:W6):Pf A 113 [tP x] (.d (.str x.name)):=by
 refine Pf.run [tP x,.any,.any] rfl rfl rfl rfl ?_;refine gr ?_;exact ⟨_,rfl,rfl⟩
theorem Ys (x:W6):Pf A 115 [tP x] (.d (num x.type)):=by
 refine Pf.run [tP x,.any,.any] rfl rfl rfl rfl ?_;refine gr ?_;exact ⟨_,rfl,rfl⟩
set_option maxHeartbeats 2000000 in
theorem Sl (xs:List W6)(hx:xs.length<=1000):Pf A 112 [.d (y7 W6.enc xs),.func 113 [] []] (.d (y7 encS (xs.map W6.name))):=by
 refine Pf.run [.d (y7 W6.enc xs),.func 113 [] [],.any,.any,.any,.any,.any,.any] rfl rfl rfl rfl ?_;refine gr ?_;refine Ex.ff (fun k T H=>∃ (i:Nat) (acc:List C7),T=[.any,.func 113 [] [],.any,A5 1 encS acc,.any,.d (y7 W6.enc xs),.d (num xs.length),.d (num i)]/\H=[]/\i+k=xs.length/\acc=(xs.take i).map W6.name) ?_ (k:=xs.length) ⟨0,[],rfl,rfl,by simp,by simp⟩;rintro k _ _ ⟨i,acc,rfl,rfl,hk,hacc⟩;have hl:acc.length=i:=by rw [hacc];simp;omega
 refine Ex.seq ?_;refine tb (C2 i xs.length) (fun h1=> ?_) (fun h1=> ?_)
 ·have h2:=z6 h1
  have p1:=Yr (nth xs i)
  repeat' (first|refine cv p1 ?_|refine gx ?_|fail)
  exact ⟨k - 1,by omega,_,_,rfl,i+1,acc++[(nth xs i).name],rfl,rfl,by omega,by rw [I6 (by omega),hacc];simp⟩
 ·have h2:=z8 h1
  rw [s6 (by omega)] at hacc;refine gr ?_;exact ⟨_,rfl,by rw [<- hacc];rfl⟩
set_option maxHeartbeats 2000000 in
theorem Sm (xs:List W6)(hx:xs.length<=1000):Pf A 114 [.d (y7 W6.enc xs),.func 115 [] []] (.d (ints (xs.map W6.type))):=by
 refine Pf.run [.d (y7 W6.enc xs),.func 115 [] [],.any,.any,.any,.any,.any,.any] rfl rfl rfl rfl ?_;refine gr ?_;refine Ex.ff (fun k T H=>∃ (i:Nat) (acc:List Int),T=[.any,.func 115 [] [],.any,A5 1 (fun n=>[num n]) acc,.any,.d (y7 W6.enc xs),.d (num xs.length),.d (num i)]/\H=[]/\i+k=xs.length/\acc=(xs.take i).map W6.type) ?_ (k:=xs.length) ⟨0,[],rfl,rfl,by simp,by simp⟩;rintro k _ _ ⟨i,acc,rfl,rfl,hk,hacc⟩;have hl:acc.length=i:=by rw [hacc];simp;omega
 refine Ex.seq ?_;refine tb (C2 i xs.length) (fun h1=> ?_) (fun h1=> ?_)
 ·have h2:=z6 h1
  have p1:=Ys (nth xs i)
  repeat' (first|refine cv p1 ?_|refine gx ?_|fail)
  exact ⟨k - 1,by omega,_,_,rfl,i+1,acc++[(nth xs i).type],rfl,rfl,by omega,by rw [I6 (by omega),hacc];simp⟩
 ·have h2:=z8 h1
  rw [s6 (by omega)] at hacc;refine gr ?_;exact ⟨_,rfl,by rw [<- hacc];rfl⟩
end Go.Proofs.YtkmclibmmlgogaaGreat


/- Texts D20 D21 D24 D25 (made short by a program) -/
import Derived.Test.YtkmclibmmlgogaaGreatD1
import Derived.Test.YtkmclibmmlgogaaGreatD4
set_option linter.unusedVariables false
set_option linter.unusedSimpArgs false
open Bool renaming false_eq_true → b7
open List renaming drop_of_length_le → k9, take_of_length_le → q5
namespace Go.Proofs.YtkmclibmmlgogaaGreat
open Go.y3 Go.y3.S
attribute [local irreducible] Rx Ry Rn Ex Pf
abbrev Y4:=D8×List D8×List Int
def F9 (s:Y4):List y3.Data:=[z6 encS s.2.1,ints s.2.2]
def HH (c:m8)(ds:List D8)(ss:List Y4):o6 :=
 [.cells (c.enc.map .d),.cells (c.enc.map .d),.map (dmap ds),.map (T3 (ss.map (·.1)) 0),.cells (c.enc.map .d++[.map 2,.map 3,B3 2 F9 ss])]
def lW:G9:=⟨0,0,5,5⟩
def lR:G9:=⟨0,5,5,5⟩
theorem tE (s:D8):∀ (l:List D8) (i:Nat),bA .s (.str s) (T3 l i)=some (if C9 (C0 s l i) 0 then none else some (.d (num (C0 s l i))))
 |[],i=>by simp [T3,bA,C0,p5]
 |d::l,i=>by
  have h1:=tE s l (i+1);have h2:(s==d)=J2 d s:=by
   rw [B8,Bool.eq_iff_iff];simp only [beq_iff_eq];exact eq_comm
  simp only [T3,bA,Data.aW,C0,h2]
  by_cases hb:J2 d s=true
  ·simp [hb,p5,num]
  ·have hb' :J2 d s=false:=by simpa using hb
   simp only [hb',b7,if_false];exact h1
theorem lN (c:m8)(ds:List D8)(ss:List Y4)(s:D8):Pm A 61 [.ptr 4 0,.d (.str s)] (HH c ds ss) lR (.d (num (C0 s (ss.map (·.1)) 0))) (HH c ds ss):=by
 have hf:=tE s (ss.map (·.1)) 0
 suffices h:Pq A 61 [.ptr 4 0,.d (.str s)] (HH c ds ss) lR fun v H1=>v= .d (num (C0 s (ss.map (·.1)) 0))/\H1=HH c ds ss by
  obtain ⟨v,H1,⟨rfl,rfl⟩,h⟩:=h;exact h
 unfold HH;refine Pq.run (b:=5) [.ptr 4 0,.d (.str s),.any,.any,.any] rfl rfl rfl rfl rfl ?_;cases h1:C9 (C0 s (ss.map (·.1)) 0) 0 with
 |true =>
  rw [h1,if_pos rfl] at hf;have h2:=y9 h1;have h3:C0 s (ss.map (·.1)) 0= -1:=by rcases cA s (ss.map (·.1)) 0 with h|h<;>omega
  repeat' (first|refine lk2 hf rfl rfl ?_|refine gx ?_|fail)
  refine tb (false) (fun h4=> ?_) (fun h4=> ?_)
  ·cases h4
  refine gr ?_;exact ⟨_,_,rfl,by rw [h3];rfl,rfl⟩
 |false =>
  rw [h1,if_neg (by simp)] at hf
  repeat' (first|refine lk2 hf rfl rfl ?_|refine gx ?_|fail)
  refine tb (true) (fun h4=> ?_) (fun h4=> ?_)
  ·refine gr ?_
   exact ⟨_,_,rfl,rfl,rfl⟩
  ·cases h4
theorem CZ (c:m8)(ds:List D8)(ss:List Y4)(n:Int):Pm A 38 [.ptr 4 0,.d (num n)] (HH c ds ss) lR (.d (.bool (W8 0 n&&C9 n ss.length))) (HH c ds ss):=by
 suffices h:Pq A 38 [.ptr 4 0,.d (num n)] (HH c ds ss) lR fun v H1=>v= .d (.bool (W8 0 n&&C9 n ss.length))/\H1=HH c ds ss by
  obtain ⟨v,H1,⟨rfl,rfl⟩,h⟩:=h;exact h
 unfold HH;refine Pq.run (b:=5) [.ptr 4 0,.d (num n),.any] rfl rfl rfl rfl rfl ?_
 repeat' (first|refine gx ?_|refine fk (h1:=fun hw=> ?_) (h2:=fun hw=> ?_)|refine L7 (h1:=fun hw=> ?_) (h2:=fun hw=> ?_)|refine Ex.H7 ?_|refine Ex.H8 ?_|refine Ex.cond rfl (fun ht=> ?_) (fun ht=> ?_)|refine Ex.test (Rn.text ?_)|refine Ex.test (Rn.draw ?_)|refine ⟨_,rfl,fun ht=> ?_,fun ht=> ?_⟩|refine ⟨_,rfl,?_⟩|fail)
 all_goals exact ⟨_,_,rfl,by simp [*,b8],rfl⟩
def dx (c:m8)(ss:List Y4)(s:D8):Bool:=n7 (C0 s (ss.map (·.1)) 0) 0 (c.j3.length - 1)
theorem Fg (c:m8)(ds:List D8)(ss:List Y4)(s:D8)(hc:c.j3.length<=1000):Pm A 122 [.ptr 4 0,.d (.str s)] (HH c ds ss) lR (.d (.bool (dx c ss s))) (HH c ds ss):=by
 have p1:=lN c ds ss s
 suffices h:Pq A 122 [.ptr 4 0,.d (.str s)] (HH c ds ss) lR fun v H1=>v= .d (.bool (dx c ss s))/\H1=HH c ds ss by
  obtain ⟨v,H1,⟨rfl,rfl⟩,h⟩:=h;exact h
 unfold HH at p1 ⊢;refine Pq.run (b:=5) [.ptr 4 0,.d (.str s),.any] rfl rfl rfl rfl rfl ?_
 repeat' (first|refine c1 p1 rfl ?_|refine cl (bX _ _ _) ?_|refine gx ?_|fail)
 exact ⟨_,_,rfl,rfl,rfl⟩
def E8 (ds:List D8)(s:D8):Int:=if !E3 s then 3 else if ds.any fun y=>J2 y s then 4 else 0
def B4 (ds:List D8)(s:D8):List D8:=if o9 (E8 ds s) 0 then ds++[s] else ds
theorem fu (c:m8)(ds:List D8)(ss:List Y4)(s:D8):Pm A 108 [.ptr 4 0,.d (.str s)] (HH c ds ss) lW (.d (num (E8 ds s))) (HH c (B4 ds s) ss):=by
 have hf:=th s ds
 suffices h:Pq A 108 [.ptr 4 0,.d (.str s)] (HH c ds ss) lW fun v H1=>v= .d (num (E8 ds s))/\H1=HH c (B4 ds s) ss by
  obtain ⟨v,H1,⟨rfl,rfl⟩,h⟩:=h;exact h
 unfold HH;refine Pq.run (b:=5) [.ptr 4 0,.d (.str s),.any] rfl rfl rfl rfl rfl ?_;have SZ:o9 3 0=false:=by simp [j9]
 have h11:o9 4 0=false:=by simp [j9]
 have h12:o9 0 0=true:=by simp [j9]
 refine gr ?_;refine tB (!E3 s) ?_ (fun h1=> ?_) (fun h1=> ?_)
 ·repeat' (first|refine cl (AW _) ?_|refine gx ?_|refine fk (h1:=fun hw=> ?_) (h2:=fun hw=> ?_)|refine L7 (h1:=fun hw=> ?_) (h2:=fun hw=> ?_)|refine ⟨rfl,rfl,_,rfl,?_⟩|refine ⟨rfl,rfl⟩|fail)
  all_goals exact cc
 ·refine gr ?_
  have e1:E8 ds s=3:=by unfold E8;rw [h1];rfl
  exact ⟨_,_,rfl,by rw [e1];rfl,by unfold B4;rw [e1,SZ];rfl⟩
 cases h2:ds.any fun y=>J2 y s with
 |true =>
  rw [h2,if_pos rfl] at hf;have e1:E8 ds s=4:=by unfold E8;rw [h1,h2];rfl
  refine tB (true) ?_ (fun h3=> ?_) (fun h3=> ?_)
  ·repeat' (first|refine lk1 hf rfl ?_|refine gx ?_|refine fk (h1:=fun hw=> ?_) (h2:=fun hw=> ?_)|refine L7 (h1:=fun hw=> ?_) (h2:=fun hw=> ?_)|refine ⟨rfl,rfl,_,rfl,?_⟩|refine ⟨rfl,rfl⟩|fail)
   all_goals exact cc
  ·refine gr ?_
   exact ⟨_,_,rfl,by rw [e1];rfl,by unfold B4;rw [e1,h11];rfl⟩
  ·cases h3
 |false =>
  rw [h2,if_neg (by simp)] at hf;have e1:E8 ds s=0:=by unfold E8;rw [h1,h2];rfl
  have hk:Data.aW .s (.str s) (.str s)=some true:=by simp [Data.aW]
  refine tB (false) ?_ (fun h3=> ?_) (fun h3=> ?_)
  ·repeat' (first|refine lk1 hf rfl ?_|refine gx ?_|refine fk (h1:=fun hw=> ?_) (h2:=fun hw=> ?_)|refine L7 (h1:=fun hw=> ?_) (h2:=fun hw=> ?_)|refine ⟨rfl,rfl,_,rfl,?_⟩|refine ⟨rfl,rfl⟩|fail)
   all_goals exact cc
  ·cases h3
  repeat' (first|refine mp (xb s ds h2) hk (h2:= ?_)|refine gx ?_|fail)
  exact ⟨_,_,rfl,by rw [e1];rfl,by unfold B4;rw [e1,h12];rfl⟩
def oD (nm:List D8)(ty:List Int):b6:= .agg [.d (z6 encS nm),.d (ints ty)]
theorem yb (c:m8)(ds:List D8)(ss:List Y4)(s:D8)(nm:List D8)(ty:List Int)(hs:((ss.map (·.1)).any fun y=>J2 y s)=false)(hl:ss.length<=1000) :
  Pm A 111 [.ptr 4 0,.d (.str s),oD nm ty] (HH c ds ss) lW (.tuple []) (HH c ds (ss++[(s,nm,ty)])):=by
 have hput:=xM s (ss.map (·.1)) 0 hs;rw [List.length_map,Nat.zero_add] at hput;have hk:Data.aW .s (.str s) (.str s)=some true:=by simp [Data.aW]
 have hr:roomFor (ss.length+1) 48=true:=by simp only [roomFor,decide_eq_true_eq];omega
 suffices h:Pq A 111 [.ptr 4 0,.d (.str s),oD nm ty] (HH c ds ss) lW fun v H1=>v= .tuple []/\H1=HH c ds (ss++[(s,nm,ty)]) by
  obtain ⟨v,H1,⟨rfl,rfl⟩,h⟩:=h;exact h
 unfold HH;refine Pq.run (b:=5) [.ptr 4 0,.d (.str s),oD nm ty,.any] rfl rfl rfl rfl rfl ?_
 repeat' (first|refine mp hput hk (h2:= ?_)|refine o2 ?_|refine ac2 (a:=(s,nm,ty)) (xs:=ss) (enc:=F9) hr rfl (h2:= ?_)|refine soO (h2:= ?_)|refine gx ?_|fail)
 refine ⟨_,_,rfl,rfl,?_⟩;have e:((ss++[(s,nm,ty)]).map (·.1))=ss.map (·.1)++[s]:=by simp
 rw [e];rfl
def cI (ss:List Y4)(s:D8)(col:Int):Int×Int :=
 if C9 (C0 s (ss.map (·.1)) 0) 0 then (0,7)
 else if !n7 col 0 ((nth ss (C0 s (ss.map (·.1)) 0).toNat).2.2.length - 1) then (0,3)
 else (nth (nth ss (C0 s (ss.map (·.1)) 0).toNat).2.2 col.toNat,0)
theorem jh (ss:List Y4)(s:D8):C0 s (ss.map (·.1)) 0= -1\/(0<=C0 s (ss.map (·.1)) 0/\C0 s (ss.map (·.1)) 0<ss.length):=by
 rcases cA s (ss.map (·.1)) 0 with h|h
 ·exact Or.inl h
 ·right;simp at h;omega
theorem yc (c:m8)(ds:List D8)(ss:List Y4)(s:D8)(col:Int)(eg:∀ k,k<ss.length->(nth ss k).2.2.length<=100000):Pm A 121 [.ptr 4 0,.d (.str s),.d (num col)] (HH c ds ss) lR (.tuple [.d (num (cI ss s col).1),.d (num (cI ss s col).2)]) (HH c ds ss):=by
 have p1:=lN c ds ss s;have b1:=jh ss s
 suffices h:Pq A 121 [.ptr 4 0,.d (.str s),.d (num col)] (HH c ds ss) lR fun v H1=>v= .tuple [.d (num (cI ss s col).1),.d (num (cI ss s col).2)]/\H1=HH c ds ss by
  obtain ⟨v,H1,⟨rfl,rfl⟩,h⟩:=h;exact h
 unfold HH at p1 ⊢;refine Pq.run (b:=5) [.ptr 4 0,.d (.str s),.d (num col),.any,.any,.any,.any] rfl rfl rfl rfl rfl ?_
 repeat' (first|refine c1 p1 rfl ?_|refine gx ?_|fail)
 refine tb (C9 (C0 s (ss.map (·.1)) 0) 0) (fun h1=> ?_) (fun h1=> ?_)
 ·refine gr ?_
  exact ⟨_,_,rfl,by unfold cI;rw [h1];rfl,rfl⟩
 have h2:=y8 h1;have h3:=eg (C0 s (ss.map (·.1)) 0).toNat (by omega);refine gr ?_;refine tB (!n7 col 0 ((nth ss (C0 s (ss.map (·.1)) 0).toNat).2.2.length - 1)) ?_ (fun h4=> ?_) (fun h4=> ?_)
 ·repeat' (first|refine cl (bX _ _ _) ?_|refine gx ?_|refine fk (h1:=fun hw=> ?_) (h2:=fun hw=> ?_)|refine L7 (h1:=fun hw=> ?_) (h2:=fun hw=> ?_)|refine ⟨rfl,rfl,_,rfl,?_⟩|refine ⟨rfl,rfl⟩|fail)
  all_goals exact cc
 ·refine gr ?_
  exact ⟨_,_,rfl,by unfold cI;rw [h1,h4];rfl,rfl⟩
 have h5:=h4;simp [n7,p4] at h5;refine gr ?_;exact ⟨_,_,rfl,by unfold cI;rw [h1,h4];rfl,rfl⟩
set_option maxHeartbeats 4000000 in
theorem Vu (t:eZ)(xs:List Int)(hx:xs.length<=1000)(hc:t.m7.length<=1000):Pf A 150 [iT t,.d (ints xs)] (.d (.bool (T1 t (-1) xs))):=by
 refine Pf.run [iT t,.d (ints xs),.any,.any,.any,.any,.any,.any,.any,.any] rfl rfl rfl rfl ?_;refine gr ?_;refine Ex.fS (fun k T H=>∃ (i:Nat) (p:Int),T=[.any,.any,.ptr 0 0,.any,.d (num p),.any,.any,.d (ints xs),.d (num xs.length),.d (num i)]/\H=[.cells (t.enc.map .d)]/\i+k=xs.length/\ -1<=p/\T1 t (-1) xs=T1 t p (xs.drop i)) ?_ (k:=xs.length) ⟨0, -1,rfl,rfl,by simp,by omega,by simp⟩;rintro k _ _ ⟨i,p,rfl,rfl,hk,hp,hi⟩;refine Ex.seq ?_;refine tb (C9 i xs.length) (fun h1=> ?_) (fun h1=> ?_)
 ·have h2:=y9 h1
  rw [A2 (by omega)] at hi;refine gr ?_;refine tb (W8 (nth xs i) p||W8 t.m7.length (nth xs i)) (fun h3=> ?_) (fun h3=> ?_)
  ·refine gr ?_
   have h4:(C9 p (nth xs i)&&C9 (nth xs i) t.m7.length)=false:=by simp [p4,p5] at h3 ⊢;omega
   exact ⟨_,rfl,by rw [hi,T1,h4];rfl⟩
  have h4:C9 p (nth xs i)=true/\C9 (nth xs i) t.m7.length=true:=by simp [p4,p5] at h3 ⊢;omega
  have h5:=y9 h4.1;have h6:=y9 h4.2;refine gr ?_;refine tb (J2 (nth t.m7 (nth xs i).toNat).space []&&J2 (nth t.m7 (nth xs i).toNat).refs []) (fun h7=> ?_) (fun h7=> ?_)
  ·refine gr ?_
   exact ⟨_,rfl,by rw [hi,T1,h4.1,h4.2,h7];rfl⟩
  ·refine gr ?_
   exact ⟨k - 1,by omega,_,_,rfl,i+1,nth xs i,rfl,rfl,by omega,by omega,by rw [hi,T1,h4.1,h4.2,h7];rfl⟩
 ·refine gr ?_
  have h2:=y8 h1;rw [k9 (by omega)] at hi;exact ⟨_,rfl,by rw [hi];rfl⟩
def vh (x:Y5):b6:= .agg (x.enc.map .d)
def jk (t:eZ)(x:Y5):Bool :=
 if !o9 x.ek 0&&(!o9 x.ek 1|| !C9 0 x.C5.length) then false
 else if !n7 x.ir 0 1048576 then false
 else if !o9 x.ir 0&& !C9 0 x.C5.length then false
 else o9 t.Z4 0||W8 x.ir t.Z4
set_option maxHeartbeats 4000000 in
theorem Vv (t:eZ)(x:Y5):Pf A 151 [iT t,vh x] (.d (.bool (jk t x))):=by
 refine Pf.run [iT t,vh x,.any,.any,.any,.any] rfl rfl rfl rfl ?_;refine gr ?_;refine tb (!o9 x.ek 0&&(!o9 x.ek 1|| !C9 0 x.C5.length)) (fun h1=> ?_) (fun h1=> ?_)
 ·refine gr ?_
  exact ⟨_,rfl,by unfold jk;rw [h1];rfl⟩
 refine tB (!n7 x.ir 0 1048576) ?_ (fun h2=> ?_) (fun h2=> ?_)
 ·repeat' (first|refine cl (bX _ _ _) ?_|refine gx ?_|refine fk (h1:=fun hw=> ?_) (h2:=fun hw=> ?_)|refine L7 (h1:=fun hw=> ?_) (h2:=fun hw=> ?_)|refine ⟨rfl,rfl,_,rfl,?_⟩|refine ⟨rfl,rfl⟩|fail)
  all_goals exact cc
 ·refine gr ?_
  exact ⟨_,rfl,by unfold jk;rw [h1,h2];rfl⟩
 refine tb (!o9 x.ir 0&& !C9 0 x.C5.length) (fun h3=> ?_) (fun h3=> ?_)
 ·refine gr ?_
  exact ⟨_,rfl,by unfold jk;rw [h1,h2,h3];rfl⟩
 repeat' (first|refine gx ?_|refine fk (h1:=fun hw=> ?_) (h2:=fun hw=> ?_)|refine L7 (h1:=fun hw=> ?_) (h2:=fun hw=> ?_)|refine Ex.H7 ?_|refine Ex.H8 ?_|refine Ex.cond rfl (fun ht=> ?_) (fun ht=> ?_)|refine Ex.test (Rn.text ?_)|refine Ex.test (Rn.draw ?_)|refine ⟨_,rfl,fun ht=> ?_,fun ht=> ?_⟩|refine ⟨_,rfl,?_⟩|fail)
 all_goals unfold jk
 all_goals rw [h1,h2,h3]
 all_goals simp [*,b8]
def l7:G9:=⟨0,7,7,7⟩
theorem Qh (a0 a1 a2 a3 a4 a5:y7)(x y:Y5):Pm A 148 [vh y,.ptr 6 0] [a0,a1,a2,a3,a4,a5,.cells (x.enc.map .d)] l7 (.d (.bool (J2 y.name x.name))) [a0,a1,a2,a3,a4,a5,.cells (x.enc.map .d)]:=by
 suffices h:Pq A 148 [vh y,.ptr 6 0] [a0,a1,a2,a3,a4,a5,.cells (x.enc.map .d)] l7 fun v H1=>v= .d (.bool (J2 y.name x.name))/\H1=[a0,a1,a2,a3,a4,a5,.cells (x.enc.map .d)] by
  obtain ⟨v,H1,⟨rfl,rfl⟩,h⟩:=h;exact h
 refine Pq.run (b:=7) [vh y,.ptr 6 0,.any,.any] rfl rfl rfl rfl rfl ?_;refine gr ?_;exact ⟨_,_,rfl,rfl,rfl⟩
def DJ (x:Y5):List Y5->Nat->Int
 |[],_=> -1
 |y::r,i=>if J2 y.name x.name then i else DJ x r (i+1)
theorem CC (x:Y5):∀ (l:List Y5) (i:Nat),W8 0 (DJ x l i)=l.any fun y=>J2 y.name x.name
 |[],i=>by simp [DJ,p4]
 |y::r,i=>by
  have h1:=CC x r (i+1);simp only [DJ,List.any_cons];cases h3:J2 y.name x.name with
  |true=>simp [p4]
  |false=>simpa using h1
set_option maxHeartbeats 2000000 in
theorem Qk (a0 a1 a2 a3 a4 a5:y7)(x:Y5)(ys:List Y5)(hy:ys.length<=1000):Pm A 171 [.d (z6 Y5.enc ys),.func 148 [] [.ptr 6 0]] [a0,a1,a2,a3,a4,a5,.cells (x.enc.map .d)] l7 (.d (num (DJ x ys 0))) [a0,a1,a2,a3,a4,a5,.cells (x.enc.map .d)]:=by
 suffices h:Pq A 171 [.d (z6 Y5.enc ys),.func 148 [] [.ptr 6 0]] [a0,a1,a2,a3,a4,a5,.cells (x.enc.map .d)] l7 fun v H1=>v= .d (num (DJ x ys 0))/\H1=[a0,a1,a2,a3,a4,a5,.cells (x.enc.map .d)] by
  obtain ⟨v,H1,⟨rfl,rfl⟩,h⟩:=h;exact h
 refine Pq.run (b:=7) [.d (z6 Y5.enc ys),.func 148 [] [.ptr 6 0],.any,.any,.any,.any] rfl rfl rfl rfl rfl ?_;refine gr ?_;refine Ex.J0 (fun k T H=>∃ (i:Nat) (v w:b6),T=[.d (z6 Y5.enc ys),.func 148 [] [.ptr 6 0],v,w,.d (num ys.length),.d (num i)]/\H=[a0,a1,a2,a3,a4,a5,.cells (x.enc.map .d)]/\i+k=ys.length/\DJ x ys 0=DJ x (ys.drop i) i) (by rintro _ _ _ ⟨_,_,_,_,rfl,_⟩;rfl) ?_ (k:=ys.length) ⟨0,_,_,rfl,rfl,by simp,by simp⟩;rintro k _ _ ⟨i,v,w,rfl,rfl,hk,hi⟩;refine Ex.nT ?_;refine Ex.seq ?_;refine tb (C9 i ys.length) (fun h1=> ?_) (fun h1=> ?_)
 ·have h2:=y9 h1
  rw [A2 (by omega)] at hi;have p1:=Qh a0 a1 a2 a3 a4 a5 x (nth ys i);refine gr ?_;refine tB (J2 (nth ys i).name x.name) ?_ (fun h3=> ?_) (fun h3=> ?_)
  ·repeat' (first|refine cv1 p1 rfl ?_|refine gx ?_|refine fk (h1:=fun hw=> ?_) (h2:=fun hw=> ?_)|refine L7 (h1:=fun hw=> ?_) (h2:=fun hw=> ?_)|refine ⟨rfl,rfl,_,rfl,?_⟩|refine ⟨rfl,rfl⟩|fail)
   all_goals exact cc
  ·refine gr ?_
   exact ⟨_,_,rfl,by rw [hi,DJ,h3];rfl,rfl⟩
  ·refine gr ?_
   exact ⟨k - 1,by omega,i+1,_,_,rfl,rfl,by omega,by rw [hi,DJ,h3];rfl⟩
 ·have h2:=y8 h1
  rw [k9 (by omega)] at hi;refine gr ?_;exact ⟨_,_,rfl,by rw [hi];rfl,rfl⟩
theorem Qg (a0 a1 a2 a3 a4 a5:y7)(x:Y5)(ys:List Y5)(hy:ys.length<=1000):Pm A 147 [.d (z6 Y5.enc ys),.func 148 [] [.ptr 6 0]] [a0,a1,a2,a3,a4,a5,.cells (x.enc.map .d)] l7 (.d (.bool (ys.any fun y=>J2 y.name x.name))) [a0,a1,a2,a3,a4,a5,.cells (x.enc.map .d)]:=by
 have p1:=Qk a0 a1 a2 a3 a4 a5 x ys hy;rw [<- CC x ys 0]
 suffices h:Pq A 147 [.d (z6 Y5.enc ys),.func 148 [] [.ptr 6 0]] [a0,a1,a2,a3,a4,a5,.cells (x.enc.map .d)] l7 fun v H1=>v= .d (.bool (W8 0 (DJ x ys 0)))/\H1=[a0,a1,a2,a3,a4,a5,.cells (x.enc.map .d)] by
  obtain ⟨v,H1,⟨rfl,rfl⟩,h⟩:=h;exact h
 refine Pq.run (b:=7) [.d (z6 Y5.enc ys),.func 148 [] [.ptr 6 0],.any] rfl rfl rfl rfl rfl ?_
 repeat' (first|refine c1 p1 rfl ?_|refine gx ?_|fail)
 exact ⟨_,_,rfl,rfl,rfl⟩
theorem ak0 (x:Y5):Pf A 113 [vh x] (.d (.str x.name)):=by
 refine Pf.run [vh x,.any,.any] rfl rfl rfl rfl ?_;refine gr ?_;exact ⟨_,rfl,rfl⟩
theorem ak1 (x:Y5):Pf A 115 [vh x] (.d (num x.type)):=by
 refine Pf.run [vh x,.any,.any] rfl rfl rfl rfl ?_;refine gr ?_;exact ⟨_,rfl,rfl⟩
set_option maxHeartbeats 2000000 in
theorem Vl (xs:List Y5)(hx:xs.length<=1000):Pf A 112 [.d (z6 Y5.enc xs),.func 113 [] []] (.d (z6 encS (xs.map Y5.name))):=by
 refine Pf.run [.d (z6 Y5.enc xs),.func 113 [] [],.any,.any,.any,.any,.any,.any] rfl rfl rfl rfl ?_;refine gr ?_;refine Ex.fS (fun k T H=>∃ (i:Nat) (acc:List D8),T=[.any,.func 113 [] [],.any,B3 1 encS acc,.any,.d (z6 Y5.enc xs),.d (num xs.length),.d (num i)]/\H=[]/\i+k=xs.length/\acc=(xs.take i).map Y5.name) ?_ (k:=xs.length) ⟨0,[],rfl,rfl,by simp,by simp⟩;rintro k _ _ ⟨i,acc,rfl,rfl,hk,hacc⟩;have hl:acc.length=i:=by rw [hacc];simp;omega
 refine Ex.seq ?_;refine tb (C9 i xs.length) (fun h1=> ?_) (fun h1=> ?_)
 ·have h2:=y9 h1
  have p1:=ak0 (nth xs i)
  repeat' (first|refine cv p1 ?_|refine gx ?_|fail)
  exact ⟨k - 1,by omega,_,_,rfl,i+1,acc++[(nth xs i).name],rfl,rfl,by omega,by rw [F7 (by omega),hacc];simp⟩
 ·have h2:=y8 h1
  rw [q5 (by omega)] at hacc;refine gr ?_;exact ⟨_,rfl,by rw [<- hacc];rfl⟩
set_option maxHeartbeats 2000000 in
theorem Vm (xs:List Y5)(hx:xs.length<=1000):Pf A 114 [.d (z6 Y5.enc xs),.func 115 [] []] (.d (ints (xs.map Y5.type))):=by
 refine Pf.run [.d (z6 Y5.enc xs),.func 115 [] [],.any,.any,.any,.any,.any,.any] rfl rfl rfl rfl ?_;refine gr ?_;refine Ex.fS (fun k T H=>∃ (i:Nat) (acc:List Int),T=[.any,.func 115 [] [],.any,B3 1 (fun n=>[num n]) acc,.any,.d (z6 Y5.enc xs),.d (num xs.length),.d (num i)]/\H=[]/\i+k=xs.length/\acc=(xs.take i).map Y5.type) ?_ (k:=xs.length) ⟨0,[],rfl,rfl,by simp,by simp⟩;rintro k _ _ ⟨i,acc,rfl,rfl,hk,hacc⟩;have hl:acc.length=i:=by rw [hacc];simp;omega
 refine Ex.seq ?_;refine tb (C9 i xs.length) (fun h1=> ?_) (fun h1=> ?_)
 ·have h2:=y9 h1
  have p1:=ak1 (nth xs i)
  repeat' (first|refine cv p1 ?_|refine gx ?_|fail)
  exact ⟨k - 1,by omega,_,_,rfl,i+1,acc++[(nth xs i).type],rfl,rfl,by omega,by rw [F7 (by omega),hacc];simp⟩
 ·have h2:=y8 h1
  rw [q5 (by omega)] at hacc;refine gr ?_;exact ⟨_,rfl,by rw [<- hacc];rfl⟩
end Go.Proofs.YtkmclibmmlgogaaGreat


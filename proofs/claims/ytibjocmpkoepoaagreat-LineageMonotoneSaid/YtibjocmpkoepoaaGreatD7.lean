import Derived.Test.YtibjocmpkoepoaaGreatD4
set_option linter.all false
open Bool renaming and_eq_true → c9, not_eq_true' → o8, false_eq_true → j5
open List renaming drop_of_length_le → n5, length_map → A1, take_of_length_le → A8
namespace Go.Proofs.YtibjocmpkoepoaaGreat
open Go.Abs Go.Abs.S
attribute [local irreducible] Rx Ry Rn Ex Pf
abbrev eU:=L0×List L0×List Int
def L3 (s:eU):List Abs.Data:=[A5 encS s.2.1,ints s.2.2]
def HH (c:y4)(ds:List L0)(ss:List eU):q8 :=
 [.cells (c.enc.map .d),.cells (c.enc.map .d),.map (dmap ds),.map (W5 (ss.map (·.1)) 0),.cells (c.enc.map .d++[.map 2,.map 3,C9 2 L3 ss])]
def lW:F2:=⟨0,0,5,5⟩
def lR:F2:=⟨0,5,5,5⟩
theorem uU (s:L0):∀ (l:List L0) (i:Nat),aQ .s (.str s) (W5 l i)=some (if F3 (J2 s l i) 0 then none else some (.d (num (J2 s l i))))
 |[],i=>by simp [W5,aQ,J2,z8]
 |d::l,i=>by
  have h1:=uU s l (i+1);have h2:(s==d)=L4 d s:=by
   rw [F8,Bool.eq_iff_iff];simp only [beq_iff_eq];exact eq_comm
  simp only [W5,aQ,Data.aW,J2,h2]
  by_cases hb:L4 d s=true
  .simp [hb,z8,num]
  .have hb' :L4 d s=false:=by simpa using hb
   simp only [hb',j5,if_false];exact h1
def Ir (c:y4)(ds:List L0)(ss:List eU)(s:L0):Pm A 125 [.ptr 4 0,.d (.str s)] (HH c ds ss) lR (.d (num (J2 s (ss.map (·.1)) 0))) (HH c ds ss):=by
 have hf:=uU s (ss.map (·.1)) 0
 suffices h:Pq A 125 [.ptr 4 0,.d (.str s)] (HH c ds ss) lR fun v H1=>v= .d (num (J2 s (ss.map (·.1)) 0))/\H1=HH c ds ss by
  obtain ⟨v,H1,⟨rfl,rfl⟩,h⟩:=h;exact h
 unfold HH;refine Pq.run (b:=5) [.ptr 4 0,.d (.str s),.any,.any,.any] rfl rfl rfl rfl rfl ?_;cases h1:F3 (J2 s (ss.map (·.1)) 0) 0 with
 |true =>
  rw [h1,if_pos rfl] at hf;have h2:=C6 h1;have h3:J2 s (ss.map (·.1)) 0= -1:=by rcases fH s (ss.map (·.1)) 0 with h|h<;>omega
  repeat' (first|refine lk2 hf rfl rfl ?_|refine gx ?_|fail)
  refine tb (false) (fun h4=> ?_) (fun h4=> ?_)
  .cases h4
  refine gr ?_;exact ⟨_,_,rfl,by rw [h3];rfl,rfl⟩
 |false =>
  rw [h1,if_neg (by simp)] at hf
  repeat' (first|refine lk2 hf rfl rfl ?_|refine gx ?_|fail)
  refine tb (true) (fun h4=> ?_) (fun h4=> ?_)
  .refine gr ?_
   exact ⟨_,_,rfl,rfl,rfl⟩
  .cases h4
def aZ7 (c:y4)(ds:List L0)(ss:List eU)(n:Int):Pm A 173 [.ptr 4 0,.d (num n)] (HH c ds ss) lR (.d (.bool (aF 0 n&&F3 n ss.length))) (HH c ds ss):=by
 suffices h:Pq A 173 [.ptr 4 0,.d (num n)] (HH c ds ss) lR fun v H1=>v= .d (.bool (aF 0 n&&F3 n ss.length))/\H1=HH c ds ss by
  obtain ⟨v,H1,⟨rfl,rfl⟩,h⟩:=h;exact h
 unfold HH;refine Pq.run (b:=5) [.ptr 4 0,.d (num n),.any] rfl rfl rfl rfl rfl ?_
 repeat' (first|refine gx ?_|refine fk (h1:=fun hw=> ?_) (h2:=fun hw=> ?_)|refine U0 (h1:=fun hw=> ?_) (h2:=fun hw=> ?_)|refine Ex.O6 ?_|refine Ex.O8 ?_|refine Ex.cond rfl (fun ht=> ?_) (fun ht=> ?_)|refine Ex.test (Rn.text ?_)|refine Ex.test (Rn.draw ?_)|refine ⟨_,rfl,fun ht=> ?_,fun ht=> ?_⟩|refine ⟨_,rfl,?_⟩|fail)
 all_goals exact ⟨_,_,rfl,by simp [*,j9],rfl⟩
def O9 (ds:List L0)(s:L0):Int:=if !G7 s then 3 else if ds.any fun y=>L4 y s then 4 else 0
def L8 (ds:List L0)(s:L0):List L0:=if u0 (O9 ds s) 0 then ds++[s] else ds
def Io (c:y4)(ds:List L0)(ss:List eU)(s:L0):Pm A 209 [.ptr 4 0,.d (.str s)] (HH c ds ss) lW (.d (num (O9 ds s))) (HH c (L8 ds s) ss):=by
 have hf:=uI s ds
 suffices h:Pq A 209 [.ptr 4 0,.d (.str s)] (HH c ds ss) lW fun v H1=>v= .d (num (O9 ds s))/\H1=HH c (L8 ds s) ss by
  obtain ⟨v,H1,⟨rfl,rfl⟩,h⟩:=h;exact h
 unfold HH;refine Pq.run (b:=5) [.ptr 4 0,.d (.str s),.any] rfl rfl rfl rfl rfl ?_;have h10:u0 3 0=false:=by simp [o9]
 have h11:u0 4 0=false:=by simp [o9]
 have h12:u0 0 0=true:=by simp [o9]
 refine gr ?_;refine tB (!G7 s) ?_ (fun h1=> ?_) (fun h1=> ?_)
 .repeat' (first|refine cl (Dj _) ?_|refine gx ?_|refine fk (h1:=fun hw=> ?_) (h2:=fun hw=> ?_)|refine U0 (h1:=fun hw=> ?_) (h2:=fun hw=> ?_)|refine ⟨rfl,rfl,_,rfl,?_⟩|refine ⟨rfl,rfl⟩|fail)
  all_goals exact cc
 .refine gr ?_
  have e1:O9 ds s=3:=by unfold O9;rw [h1];rfl
  exact ⟨_,_,rfl,by rw [e1];rfl,by unfold L8;rw [e1,h10];rfl⟩
 cases h2:ds.any fun y=>L4 y s with
 |true =>
  rw [h2,if_pos rfl] at hf;have e1:O9 ds s=4:=by unfold O9;rw [h1,h2];rfl
  refine tB (true) ?_ (fun h3=> ?_) (fun h3=> ?_)
  .repeat' (first|refine lk1 hf rfl ?_|refine gx ?_|refine fk (h1:=fun hw=> ?_) (h2:=fun hw=> ?_)|refine U0 (h1:=fun hw=> ?_) (h2:=fun hw=> ?_)|refine ⟨rfl,rfl,_,rfl,?_⟩|refine ⟨rfl,rfl⟩|fail)
   all_goals exact cc
  .refine gr ?_
   exact ⟨_,_,rfl,by rw [e1];rfl,by unfold L8;rw [e1,h11];rfl⟩
  .cases h3
 |false =>
  rw [h2,if_neg (by simp)] at hf;have e1:O9 ds s=0:=by unfold O9;rw [h1,h2];rfl
  have hk:Data.aW .s (.str s) (.str s)=some true:=by simp [Data.aW]
  refine tB (false) ?_ (fun h3=> ?_) (fun h3=> ?_)
  .repeat' (first|refine lk1 hf rfl ?_|refine gx ?_|refine fk (h1:=fun hw=> ?_) (h2:=fun hw=> ?_)|refine U0 (h1:=fun hw=> ?_) (h2:=fun hw=> ?_)|refine ⟨rfl,rfl,_,rfl,?_⟩|refine ⟨rfl,rfl⟩|fail)
   all_goals exact cc
  .cases h3
  repeat' (first|refine mp (zf s ds h2) hk (h2:= ?_)|refine gx ?_|fail)
  exact ⟨_,_,rfl,by rw [e1];rfl,by unfold L8;rw [e1,h12];rfl⟩
def qu (nm:List L0)(ty:List Int):j3:= .agg [.d (A5 encS nm),.d (ints ty)]
def Am (c:y4)(ds:List L0)(ss:List eU)(s:L0)(nm:List L0)(ty:List Int)(hs:((ss.map (·.1)).any fun y=>L4 y s)=false)(hl:ss.length<=1000) :
  Pm A 212 [.ptr 4 0,.d (.str s),qu nm ty] (HH c ds ss) lW (.tuple []) (HH c ds (ss++[(s,nm,ty)])):=by
 have hput:=Ac s (ss.map (·.1)) 0 hs;rw [A1,Nat.zero_add] at hput;have hk:Data.aW .s (.str s) (.str s)=some true:=by simp [Data.aW]
 have hr:roomFor (ss.length+1) 48=true:=by simp only [roomFor,decide_eq_true_eq];omega
 suffices h:Pq A 212 [.ptr 4 0,.d (.str s),qu nm ty] (HH c ds ss) lW fun v H1=>v= .tuple []/\H1=HH c ds (ss++[(s,nm,ty)]) by
  obtain ⟨v,H1,⟨rfl,rfl⟩,h⟩:=h;exact h
 unfold HH;refine Pq.run (b:=5) [.ptr 4 0,.d (.str s),qu nm ty,.any] rfl rfl rfl rfl rfl ?_
 repeat' (first|refine mp hput hk (h2:= ?_)|refine o2 ?_|refine ac2 (a:=(s,nm,ty)) (xs:=ss) (enc:=L3) hr rfl (h2:= ?_)|refine soO (h2:= ?_)|refine gx ?_|fail)
 refine ⟨_,_,rfl,rfl,?_⟩;have e:((ss++[(s,nm,ty)]).map (·.1))=ss.map (·.1)++[s]:=by simp
 rw [e];rfl
def uP (ss:List eU)(s:L0):J2 s (ss.map (·.1)) 0= -1\/(0<=J2 s (ss.map (·.1)) 0/\J2 s (ss.map (·.1)) 0<ss.length):=by
 rcases fH s (ss.map (·.1)) 0 with h|h
 .exact Or.inl h
 .right;simp at h;omega
def qB (x:L0):List L0->Nat->Int
 |[],_=> -1
 |y::r,i=>if L4 x y then i else qB x r (i+1)
theorem CG (x:L0):∀ (l:List L0) (i:Nat),aF 0 (qB x l i)=l.any fun y=>L4 y x
 |[],i=>by simp [qB,y3]
 |y::r,i=>by
  have h1:=CG x r (i+1);have h2:L4 x y=L4 y x:=by simp only [F8];rw [Bool.eq_iff_iff];simp only [beq_iff_eq];exact eq_comm
  simp only [qB,List.any_cons,h2];cases h3:L4 y x with
  |true=>simp [y3]
  |false=>simpa using h1
def aC9 (xs:List L0)(x:L0)(hx:xs.length<=100000):Pf A 260 [.d (A5 encS xs),.d (.str x)] (.d (num (qB x xs 0))):=by
 refine Pf.run [.d (A5 encS xs),.d (.str x),.any,.any,.any,.any] rfl rfl rfl rfl ?_;refine gr ?_;refine Ex.N5 (fun k T H=>∃ (i:Nat) (v w:j3),T=[.d (A5 encS xs),.d (.str x),v,w,.d (num xs.length),.d (num i)]/\H=[]/\i+k=xs.length/\qB x xs 0=qB x (xs.drop i) i) (by rintro _ _ _ ⟨_,_,_,_,rfl,_⟩;rfl) ?_ (k:=xs.length) ⟨0,_,_,rfl,rfl,by simp,by simp⟩;rintro k _ _ ⟨i,v,w,rfl,rfl,hk,hi⟩;refine Ex.nT ?_
 repeat' (first|refine gx ?_|refine Ex.O6 ?_|refine Ex.O8 ?_|refine Ex.cond rfl (fun ht=> ?_) (fun ht=> ?_)|refine Ex.test (Rn.text ?_)|refine Ex.test (Rn.draw ?_)|refine ⟨_,rfl,fun ht=> ?_,fun ht=> ?_⟩|refine ⟨_,rfl,?_⟩|fail)
 .have h1:=C6 ‹F3 i _=true›
  rw [D4 (by omega)] at hi;simp [hi,qB,ht,j9,num]
 .have h1:=C6 ‹F3 i _=true›
  rw [D4 (by omega)] at hi;exact ⟨k - 1,by omega,i+1,_,_,rfl,rfl,by omega,by simp [hi,qB,ht]⟩
 .have h1:=C5 ht
  rw [n5 (by omega)] at hi;simp [hi,qB,j9,num]
def ZV (xs:List L0)(x:L0)(hx:xs.length<=100000):Pf A 224 [.d (A5 encS xs),.d (.str x)] (.d (.bool (xs.any fun y=>L4 y x))):=by
 rw [<- CG x xs 0];refine Pf.run [.d (A5 encS xs),.d (.str x),.any] rfl rfl rfl rfl ?_
 repeat' (first|refine cl (aC9 xs x hx) ?_|refine gx ?_|fail)
 exact ⟨_,rfl,rfl⟩
def BV (x:Int):List Int->Nat->Int
 |[],_=> -1
 |y::r,i=>if u0 x y then i else BV x r (i+1)
theorem GR (x:Int):∀ (l:List Int) (i:Nat),aF 0 (BV x l i)=l.any fun y=>u0 y x
 |[],i=>by simp [BV,y3]
 |y::r,i=>by
  have h1:=GR x r (i+1);have h2:u0 x y=u0 y x:=by simp only [o9];rw [Bool.eq_iff_iff];simp only [beq_iff_eq];exact eq_comm
  simp only [BV,List.any_cons,h2];cases h3:u0 y x with
  |true=>simp [y3]
  |false=>simpa using h1
def aY9 (xs:List Int)(x:Int)(hx:xs.length<=100000):Pf A 278 [.d (A5 (fun n=>[num n]) xs),.d (num x)] (.d (num (BV x xs 0))):=by
 refine Pf.run [.d (A5 (fun n=>[num n]) xs),.d (num x),.any,.any,.any,.any] rfl rfl rfl rfl ?_;refine gr ?_;refine Ex.N5 (fun k T H=>∃ (i:Nat) (v w:j3),T=[.d (A5 (fun n=>[num n]) xs),.d (num x),v,w,.d (num xs.length),.d (num i)]/\H=[]/\i+k=xs.length/\BV x xs 0=BV x (xs.drop i) i) (by rintro _ _ _ ⟨_,_,_,_,rfl,_⟩;rfl) ?_ (k:=xs.length) ⟨0,_,_,rfl,rfl,by simp,by simp⟩;rintro k _ _ ⟨i,v,w,rfl,rfl,hk,hi⟩;refine Ex.nT ?_
 repeat' (first|refine gx ?_|refine Ex.O6 ?_|refine Ex.O8 ?_|refine Ex.cond rfl (fun ht=> ?_) (fun ht=> ?_)|refine Ex.test (Rn.text ?_)|refine Ex.test (Rn.draw ?_)|refine ⟨_,rfl,fun ht=> ?_,fun ht=> ?_⟩|refine ⟨_,rfl,?_⟩|fail)
 .have h1:=C6 ‹F3 i _=true›
  rw [D4 (by omega)] at hi;simp [hi,BV,ht,j9,num]
 .have h1:=C6 ‹F3 i _=true›
  rw [D4 (by omega)] at hi;exact ⟨k - 1,by omega,i+1,_,_,rfl,rfl,by omega,by simp [hi,BV,ht]⟩
 .have h1:=C5 ht
  rw [n5 (by omega)] at hi;simp [hi,BV,j9,num]
def aE1 (xs:List Int)(x:Int)(hx:xs.length<=100000):Pf A 253 [.d (A5 (fun n=>[num n]) xs),.d (num x)] (.d (.bool (xs.any fun y=>u0 y x))):=by
 rw [<- GR x xs 0];refine Pf.run [.d (A5 (fun n=>[num n]) xs),.d (num x),.any] rfl rfl rfl rfl ?_
 repeat' (first|refine cl (aY9 xs x hx) ?_|refine gx ?_|fail)
 exact ⟨_,rfl,rfl⟩
set_option maxHeartbeats 4000000 in
def ZX (t:mH)(xs:List Int)(hx:xs.length<=1000)(hc:t.p8.length<=1000):Pf A 251 [jE t,.d (ints xs)] (.d (.bool (Y3 t (-1) xs))):=by
 refine Pf.run [jE t,.d (ints xs),.any,.any,.any,.any,.any,.any,.any,.any] rfl rfl rfl rfl ?_;refine gr ?_;refine Ex.X8 (fun k T H=>∃ (i:Nat) (p:Int),T=[.any,.any,.ptr 0 0,.any,.d (num p),.any,.any,.d (ints xs),.d (num xs.length),.d (num i)]/\H=[.cells (t.enc.map .d)]/\i+k=xs.length/\ -1<=p/\Y3 t (-1) xs=Y3 t p (xs.drop i)) ?_ (k:=xs.length) ⟨0, -1,rfl,rfl,by simp,by omega,by simp⟩;rintro k _ _ ⟨i,p,rfl,rfl,hk,hp,hi⟩;refine Ex.seq ?_;refine tb (F3 i xs.length) (fun h1=> ?_) (fun h1=> ?_)
 .have h2:=C6 h1
  rw [D4 (by omega)] at hi;refine gr ?_;refine tb (aF (nth xs i) p||aF t.p8.length (nth xs i)) (fun h3=> ?_) (fun h3=> ?_)
  .refine gr ?_
   have h4:(F3 p (nth xs i)&&F3 (nth xs i) t.p8.length)=false:=by simp [y3,z8] at h3 ⊢;omega
   exact ⟨_,rfl,by rw [hi,Y3,h4];rfl⟩
  have h4:F3 p (nth xs i)=true/\F3 (nth xs i) t.p8.length=true:=by simp [y3,z8] at h3 ⊢;omega
  have h5:=C6 h4.1;have h6:=C6 h4.2;refine gr ?_;refine tb (L4 (nth t.p8 (nth xs i).toNat).space []&&L4 (nth t.p8 (nth xs i).toNat).refs []) (fun h7=> ?_) (fun h7=> ?_)
  .refine gr ?_
   exact ⟨_,rfl,by rw [hi,Y3,h4.1,h4.2,h7];rfl⟩
  .refine gr ?_
   exact ⟨k - 1,by omega,_,_,rfl,i+1,nth xs i,rfl,rfl,by omega,by omega,by rw [hi,Y3,h4.1,h4.2,h7];rfl⟩
 .refine gr ?_
  have h2:=C5 h1;rw [n5 (by omega)] at hi;exact ⟨_,rfl,by rw [hi];rfl⟩
def xz (x:aJ):j3:= .agg (x.enc.map .d)
def jT (t:mH)(x:aJ):Bool :=
 if !u0 x.eZ 0&&(!u0 x.eZ 1|| !F3 0 x.F7.length) then false
 else if !A4 x.ji 0 1048576 then false
 else if !u0 x.ji 0&& !F3 0 x.F7.length then false
 else u0 t.aH 0||aF x.ji t.aH
set_option maxHeartbeats 4000000 in
def ZY (t:mH)(x:aJ):Pf A 252 [jE t,xz x] (.d (.bool (jT t x))):=by
 refine Pf.run [jE t,xz x,.any,.any,.any,.any] rfl rfl rfl rfl ?_;refine gr ?_;refine tb (!u0 x.eZ 0&&(!u0 x.eZ 1|| !F3 0 x.F7.length)) (fun h1=> ?_) (fun h1=> ?_)
 .refine gr ?_
  exact ⟨_,rfl,by unfold jT;rw [h1];rfl⟩
 refine tB (!A4 x.ji 0 1048576) ?_ (fun h2=> ?_) (fun h2=> ?_)
 .repeat' (first|refine cl (Ij _ _ _) ?_|refine gx ?_|refine fk (h1:=fun hw=> ?_) (h2:=fun hw=> ?_)|refine U0 (h1:=fun hw=> ?_) (h2:=fun hw=> ?_)|refine ⟨rfl,rfl,_,rfl,?_⟩|refine ⟨rfl,rfl⟩|fail)
  all_goals exact cc
 .refine gr ?_
  exact ⟨_,rfl,by unfold jT;rw [h1,h2];rfl⟩
 refine tb (!u0 x.ji 0&& !F3 0 x.F7.length) (fun h3=> ?_) (fun h3=> ?_)
 .refine gr ?_
  exact ⟨_,rfl,by unfold jT;rw [h1,h2,h3];rfl⟩
 repeat' (first|refine gx ?_|refine fk (h1:=fun hw=> ?_) (h2:=fun hw=> ?_)|refine U0 (h1:=fun hw=> ?_) (h2:=fun hw=> ?_)|refine Ex.O6 ?_|refine Ex.O8 ?_|refine Ex.cond rfl (fun ht=> ?_) (fun ht=> ?_)|refine Ex.test (Rn.text ?_)|refine Ex.test (Rn.draw ?_)|refine ⟨_,rfl,fun ht=> ?_,fun ht=> ?_⟩|refine ⟨_,rfl,?_⟩|fail)
 all_goals unfold jT
 all_goals rw [h1,h2,h3]
 all_goals simp [*,j9]
def l7:F2:=⟨0,7,7,7⟩
def Uz (a0 a1 a2 a3 a4 a5:x9)(x y:aJ):Pm A 249 [xz y,.ptr 6 0] [a0,a1,a2,a3,a4,a5,.cells (x.enc.map .d)] l7 (.d (.bool (L4 y.name x.name))) [a0,a1,a2,a3,a4,a5,.cells (x.enc.map .d)]:=by
 suffices h:Pq A 249 [xz y,.ptr 6 0] [a0,a1,a2,a3,a4,a5,.cells (x.enc.map .d)] l7 fun v H1=>v= .d (.bool (L4 y.name x.name))/\H1=[a0,a1,a2,a3,a4,a5,.cells (x.enc.map .d)] by
  obtain ⟨v,H1,⟨rfl,rfl⟩,h⟩:=h;exact h
 refine Pq.run (b:=7) [xz y,.ptr 6 0,.any,.any] rfl rfl rfl rfl rfl ?_;refine gr ?_;exact ⟨_,_,rfl,rfl,rfl⟩
def Gg (x:aJ):List aJ->Nat->Int
 |[],_=> -1
 |y::r,i=>if L4 y.name x.name then i else Gg x r (i+1)
theorem EN (x:aJ):∀ (l:List aJ) (i:Nat),aF 0 (Gg x l i)=l.any fun y=>L4 y.name x.name
 |[],i=>by simp [Gg,y3]
 |y::r,i=>by
  have h1:=EN x r (i+1);simp only [Gg,List.any_cons];cases h3:L4 y.name x.name with
  |true=>simp [y3]
  |false=>simpa using h1
set_option maxHeartbeats 2000000 in
def UC (a0 a1 a2 a3 a4 a5:x9)(x:aJ)(ys:List aJ)(hy:ys.length<=1000):Pm A 277 [.d (A5 aJ.enc ys),.func 249 [] [.ptr 6 0]] [a0,a1,a2,a3,a4,a5,.cells (x.enc.map .d)] l7 (.d (num (Gg x ys 0))) [a0,a1,a2,a3,a4,a5,.cells (x.enc.map .d)]:=by
 suffices h:Pq A 277 [.d (A5 aJ.enc ys),.func 249 [] [.ptr 6 0]] [a0,a1,a2,a3,a4,a5,.cells (x.enc.map .d)] l7 fun v H1=>v= .d (num (Gg x ys 0))/\H1=[a0,a1,a2,a3,a4,a5,.cells (x.enc.map .d)] by
  obtain ⟨v,H1,⟨rfl,rfl⟩,h⟩:=h;exact h
 refine Pq.run (b:=7) [.d (A5 aJ.enc ys),.func 249 [] [.ptr 6 0],.any,.any,.any,.any] rfl rfl rfl rfl rfl ?_;refine gr ?_;refine Ex.N5 (fun k T H=>∃ (i:Nat) (v w:j3),T=[.d (A5 aJ.enc ys),.func 249 [] [.ptr 6 0],v,w,.d (num ys.length),.d (num i)]/\H=[a0,a1,a2,a3,a4,a5,.cells (x.enc.map .d)]/\i+k=ys.length/\Gg x ys 0=Gg x (ys.drop i) i) (by rintro _ _ _ ⟨_,_,_,_,rfl,_⟩;rfl) ?_ (k:=ys.length) ⟨0,_,_,rfl,rfl,by simp,by simp⟩;rintro k _ _ ⟨i,v,w,rfl,rfl,hk,hi⟩;refine Ex.nT ?_;refine Ex.seq ?_;refine tb (F3 i ys.length) (fun h1=> ?_) (fun h1=> ?_)
 .have h2:=C6 h1
  rw [D4 (by omega)] at hi;have p1:=Uz a0 a1 a2 a3 a4 a5 x (nth ys i);refine gr ?_;refine tB (L4 (nth ys i).name x.name) ?_ (fun h3=> ?_) (fun h3=> ?_)
  .repeat' (first|refine cv1 p1 rfl ?_|refine gx ?_|refine fk (h1:=fun hw=> ?_) (h2:=fun hw=> ?_)|refine U0 (h1:=fun hw=> ?_) (h2:=fun hw=> ?_)|refine ⟨rfl,rfl,_,rfl,?_⟩|refine ⟨rfl,rfl⟩|fail)
   all_goals exact cc
  .refine gr ?_
   exact ⟨_,_,rfl,by rw [hi,Gg,h3];rfl,rfl⟩
  .refine gr ?_
   exact ⟨k - 1,by omega,i+1,_,_,rfl,rfl,by omega,by rw [hi,Gg,h3];rfl⟩
 .have h2:=C5 h1
  rw [n5 (by omega)] at hi;refine gr ?_;exact ⟨_,_,rfl,by rw [hi];rfl,rfl⟩
def Uy (a0 a1 a2 a3 a4 a5:x9)(x:aJ)(ys:List aJ)(hy:ys.length<=1000):Pm A 248 [.d (A5 aJ.enc ys),.func 249 [] [.ptr 6 0]] [a0,a1,a2,a3,a4,a5,.cells (x.enc.map .d)] l7 (.d (.bool (ys.any fun y=>L4 y.name x.name))) [a0,a1,a2,a3,a4,a5,.cells (x.enc.map .d)]:=by
 have p1:=UC a0 a1 a2 a3 a4 a5 x ys hy;rw [<- EN x ys 0]
 suffices h:Pq A 248 [.d (A5 aJ.enc ys),.func 249 [] [.ptr 6 0]] [a0,a1,a2,a3,a4,a5,.cells (x.enc.map .d)] l7 fun v H1=>v= .d (.bool (aF 0 (Gg x ys 0)))/\H1=[a0,a1,a2,a3,a4,a5,.cells (x.enc.map .d)] by
  obtain ⟨v,H1,⟨rfl,rfl⟩,h⟩:=h;exact h
 refine Pq.run (b:=7) [.d (A5 aJ.enc ys),.func 249 [] [.ptr 6 0],.any] rfl rfl rfl rfl rfl ?_
 repeat' (first|refine c1 p1 rfl ?_|refine gx ?_|fail)
 exact ⟨_,_,rfl,rfl,rfl⟩
def aC3 (x:aJ):Pf A 214 [xz x] (.d (.str x.name)):=by
 refine Pf.run [xz x,.any,.any] rfl rfl rfl rfl ?_;refine gr ?_;exact ⟨_,rfl,rfl⟩
def aC4 (x:aJ):Pf A 216 [xz x] (.d (num x.type)):=by
 refine Pf.run [xz x,.any,.any] rfl rfl rfl rfl ?_;refine gr ?_;exact ⟨_,rfl,rfl⟩
set_option maxHeartbeats 2000000 in
def ZP (xs:List aJ)(hx:xs.length<=1000):Pf A 213 [.d (A5 aJ.enc xs),.func 214 [] []] (.d (A5 encS (xs.map aJ.name))):=by
 refine Pf.run [.d (A5 aJ.enc xs),.func 214 [] [],.any,.any,.any,.any,.any,.any] rfl rfl rfl rfl ?_;refine gr ?_;refine Ex.X8 (fun k T H=>∃ (i:Nat) (acc:List L0),T=[.any,.func 214 [] [],.any,C9 1 encS acc,.any,.d (A5 aJ.enc xs),.d (num xs.length),.d (num i)]/\H=[]/\i+k=xs.length/\acc=(xs.take i).map aJ.name) ?_ (k:=xs.length) ⟨0,[],rfl,rfl,by simp,by simp⟩;rintro k _ _ ⟨i,acc,rfl,rfl,hk,hacc⟩;have hl:acc.length=i:=by rw [hacc];simp;omega
 refine Ex.seq ?_;refine tb (F3 i xs.length) (fun h1=> ?_) (fun h1=> ?_)
 .have h2:=C6 h1
  have p1:=aC3 (nth xs i)
  repeat' (first|refine cv p1 ?_|refine gx ?_|fail)
  exact ⟨k - 1,by omega,_,_,rfl,i+1,acc++[(nth xs i).name],rfl,rfl,by omega,by rw [K3 (by omega),hacc];simp⟩
 .have h2:=C5 h1
  rw [A8 (by omega)] at hacc;refine gr ?_;exact ⟨_,rfl,by rw [<- hacc];rfl⟩
set_option maxHeartbeats 2000000 in
def ZQ (xs:List aJ)(hx:xs.length<=1000):Pf A 215 [.d (A5 aJ.enc xs),.func 216 [] []] (.d (ints (xs.map aJ.type))):=by
 refine Pf.run [.d (A5 aJ.enc xs),.func 216 [] [],.any,.any,.any,.any,.any,.any] rfl rfl rfl rfl ?_;refine gr ?_;refine Ex.X8 (fun k T H=>∃ (i:Nat) (acc:List Int),T=[.any,.func 216 [] [],.any,C9 1 (fun n=>[num n]) acc,.any,.d (A5 aJ.enc xs),.d (num xs.length),.d (num i)]/\H=[]/\i+k=xs.length/\acc=(xs.take i).map aJ.type) ?_ (k:=xs.length) ⟨0,[],rfl,rfl,by simp,by simp⟩;rintro k _ _ ⟨i,acc,rfl,rfl,hk,hacc⟩;have hl:acc.length=i:=by rw [hacc];simp;omega
 refine Ex.seq ?_;refine tb (F3 i xs.length) (fun h1=> ?_) (fun h1=> ?_)
 .have h2:=C6 h1
  have p1:=aC4 (nth xs i)
  repeat' (first|refine cv p1 ?_|refine gx ?_|fail)
  exact ⟨k - 1,by omega,_,_,rfl,i+1,acc++[(nth xs i).type],rfl,rfl,by omega,by rw [K3 (by omega),hacc];simp⟩
 .have h2:=C5 h1
  rw [A8 (by omega)] at hacc;refine gr ?_;exact ⟨_,rfl,by rw [<- hacc];rfl⟩
def eV (c:y4)(ss:List eU)(t:mH)(i:Nat):Int :=
 if !G7 (nth t.p8 i).name||(!L4 (nth t.p8 i).space []&& !G7 (nth t.p8 i).space) then 3
 else if (t.p8.take i).any fun y=>L4 y.name (nth t.p8 i).name then 4
 else if !L4 (nth t.p8 i).refs []&&F3 (J2 (nth t.p8 i).refs (ss.map (·.1)) 0) 0 then 7
 else if !(u0 (nth t.p8 i).type 1||u0 (nth t.p8 i).type 2)||(aF 0 (J2 (nth t.p8 i).refs (ss.map (·.1)) 0)&& !u0 (nth t.p8 i).type (nth (nth ss (J2 (nth t.p8 i).refs (ss.map (·.1)) 0).toNat).2.2 0)) then 5
 else if (!L4 (nth t.p8 i).space []&& !L4 (nth t.p8 i).refs [])|| !Y3 t (-1) (nth t.p8 i).F7|| !jT t (nth t.p8 i) then 1
 else if u0 i 0&&F3 0 (nth t.p8 i).F7.length&& !u0 t.erase 1 then 1
 else if aF 0 (J2 (nth t.p8 i).refs (ss.map (·.1)) 0)&&F3 0 (nth (nth c.o7 (J2 (nth t.p8 i).refs (ss.map (·.1)) 0).toNat).p8 0).F7.length&& !((nth t.p8 i).F7.any fun y=>u0 y i) then 1
 else 0
set_option maxHeartbeats 8000000 in
def Uw (c:y4)(ds:List L0)(ss:List eU)(t:mH)(i:Nat)(hi:i<t.p8.length)(hc:t.p8.length<=1000)(ho:(nth t.p8 i).F7.length<=1000)(hss:ss.length<=c.o7.length)(ht:∀ k,k<ss.length->0<(nth ss k).2.2.length/\0<(nth c.o7 k).p8.length) :
  Pm A 211 [.ptr 4 0,jE t,.d (num i)] (HH c ds ss) lR (.d (num (eV c ss t i))) (HH c ds ss):=by
 have p61:=Ir c ds ss (nth t.p8 i).refs;have b1:=uP ss (nth t.p8 i).refs;have b2:(J2 (nth t.p8 i).refs (ss.map (·.1)) 0)= -1\/(0<=(J2 (nth t.p8 i).refs (ss.map (·.1)) 0)/\(J2 (nth t.p8 i).refs (ss.map (·.1)) 0)<ss.length/\0<(nth ss (J2 (nth t.p8 i).refs (ss.map (·.1)) 0).toNat).2.2.length/\0<(nth c.o7 (J2 (nth t.p8 i).refs (ss.map (·.1)) 0).toNat).p8.length):=by
  rcases b1 with h|h
  .exact Or.inl h
  .have:=ht (J2 (nth t.p8 i).refs (ss.map (·.1)) 0).toNat (by omega)
   exact Or.inr ⟨h.1,h.2,this.1,this.2⟩
 have an0:=ZX t (nth t.p8 i).F7 ho hc;have an1:=ZY t (nth t.p8 i);have q49:=aE1 (nth t.p8 i).F7 i (by omega)
 suffices h:Pq A 211 [.ptr 4 0,jE t,.d (num i)] (HH c ds ss) lR fun v H1=>v= .d (num (eV c ss t i))/\H1=HH c ds ss by
  obtain ⟨v,H1,⟨rfl,rfl⟩,h⟩:=h;exact h
 unfold HH at *
 have am9:=Uy (.cells (c.enc.map .d)) (.cells (c.enc.map .d)) (.map (dmap ds)) (.map (W5 (ss.map (·.1)) 0)) (.cells (c.enc.map .d++[.map 2,.map 3,C9 2 L3 ss])) (.cells (t.enc.map .d)) (nth t.p8 i) (t.p8.take i) (by simp;omega);refine Pq.run (b:=5) [.ptr 4 0,jE t,.d (num i),.any,.any,.any,.any,.any] rfl rfl rfl rfl rfl ?_;refine gr ?_;refine tB (!G7 (nth t.p8 i).name||(!L4 (nth t.p8 i).space []&& !G7 (nth t.p8 i).space)) ?_ (fun h1=> ?_) (fun h1=> ?_)
 .repeat' (first|refine cl (Dj _) ?_|refine gx ?_|refine fk (h1:=fun hw=> ?_) (h2:=fun hw=> ?_)|refine U0 (h1:=fun hw=> ?_) (h2:=fun hw=> ?_)|refine ⟨rfl,rfl,_,rfl,?_⟩|refine ⟨rfl,rfl⟩|fail)
  all_goals exact cc
 .refine gr ?_
  exact ⟨_,_,rfl,by unfold eV;rw [h1];rfl,rfl⟩
 refine gr ?_;refine tB ((t.p8.take i).any fun y=>L4 y.name (nth t.p8 i).name) ?_ (fun h2=> ?_) (fun h2=> ?_)
 .repeat' (first|refine c1 am9 rfl ?_|refine gx ?_|refine fk (h1:=fun hw=> ?_) (h2:=fun hw=> ?_)|refine U0 (h1:=fun hw=> ?_) (h2:=fun hw=> ?_)|refine ⟨rfl,rfl,_,rfl,?_⟩|refine ⟨rfl,rfl⟩|fail)
  all_goals exact cc
 .refine gr ?_
  exact ⟨_,_,rfl,by unfold eV;rw [h1,h2];rfl,rfl⟩
 repeat' (first|refine c1 p61 rfl ?_|refine gx ?_|fail)
 refine tb (!L4 (nth t.p8 i).refs []&&F3 (J2 (nth t.p8 i).refs (ss.map (·.1)) 0) 0) (fun h3=> ?_) (fun h3=> ?_)
 .refine gr ?_
  exact ⟨_,_,rfl,by unfold eV;rw [h1,h2,h3];rfl,rfl⟩
 refine gr ?_;refine tB (!(u0 (nth t.p8 i).type 1||u0 (nth t.p8 i).type 2)||(aF 0 (J2 (nth t.p8 i).refs (ss.map (·.1)) 0)&& !u0 (nth t.p8 i).type (nth (nth ss (J2 (nth t.p8 i).refs (ss.map (·.1)) 0).toNat).2.2 0))) ?_ (fun h4=> ?_) (fun h4=> ?_)
 .repeat' (first|refine cl (ZW _) ?_|refine gx ?_|refine fk (h1:=fun hw=> ?_) (h2:=fun hw=> ?_)|refine U0 (h1:=fun hw=> ?_) (h2:=fun hw=> ?_)|refine ⟨rfl,rfl,_,rfl,?_⟩|refine ⟨rfl,rfl⟩|fail)
  all_goals exact cc
 .refine gr ?_
  exact ⟨_,_,rfl,by unfold eV;rw [h1,h2,h3,h4];rfl,rfl⟩
 refine gr ?_;refine tB ((!L4 (nth t.p8 i).space []&& !L4 (nth t.p8 i).refs [])|| !Y3 t (-1) (nth t.p8 i).F7|| !jT t (nth t.p8 i)) ?_ (fun h5=> ?_) (fun h5=> ?_)
 .repeat' (first|refine cl (an0) ?_|refine cl (an1) ?_|refine gx ?_|refine fk (h1:=fun hw=> ?_) (h2:=fun hw=> ?_)|refine U0 (h1:=fun hw=> ?_) (h2:=fun hw=> ?_)|refine ⟨rfl,rfl,_,rfl,?_⟩|refine ⟨rfl,rfl⟩|fail)
  all_goals exact cc
 .refine gr ?_
  exact ⟨_,_,rfl,by unfold eV;rw [h1,h2,h3,h4,h5];rfl,rfl⟩
 refine gr ?_;refine tb (u0 i 0&&F3 0 (nth t.p8 i).F7.length&& !u0 t.erase 1) (fun h6=> ?_) (fun h6=> ?_)
 .refine gr ?_
  exact ⟨_,_,rfl,by unfold eV;rw [h1,h2,h3,h4,h5,h6];rfl,rfl⟩
 refine gr ?_;refine tB (aF 0 (J2 (nth t.p8 i).refs (ss.map (·.1)) 0)&&F3 0 (nth (nth c.o7 (J2 (nth t.p8 i).refs (ss.map (·.1)) 0).toNat).p8 0).F7.length&& !((nth t.p8 i).F7.any fun y=>u0 y i)) ?_ (fun h7=> ?_) (fun h7=> ?_)
 .repeat' (first|refine cl (q49) ?_|refine gx ?_|refine fk (h1:=fun hw=> ?_) (h2:=fun hw=> ?_)|refine U0 (h1:=fun hw=> ?_) (h2:=fun hw=> ?_)|refine ⟨rfl,rfl,_,rfl,?_⟩|refine ⟨rfl,rfl⟩|fail)
  all_goals exact cc
 .refine gr ?_
  exact ⟨_,_,rfl,by unfold eV;rw [h1,h2,h3,h4,h5,h6,h7];rfl,rfl⟩
 refine gr ?_;exact ⟨_,_,rfl,by unfold eV;rw [h1,h2,h3,h4,h5,h6,h7];rfl,rfl⟩
def vP (c:y4)(ss:List eU)(t:mH):Nat->Nat->Int
 |0,_=>0
 |k+1,i=>if !u0 (eV c ss t i) 0 then eV c ss t i else vP c ss t k (i+1)
def fL (t:mH):Bool:= !A4 t.p8.length 1 8||(!u0 t.erase 0&& !u0 t.erase 1)|| !A4 t.aH 0 1048576
def jb (c:y4)(ss:List eU)(ds:List L0)(t:mH):Int :=
 if !u0 (O9 ds t.name) 0 then O9 ds t.name else if fL t then 1 else vP c ss t t.p8.length 0
def tO (c:y4)(ss:List eU)(ds:List L0)(t:mH):List eU:=if u0 (jb c ss ds t) 0 then ss++[(t.name,t.p8.map aJ.name,t.p8.map aJ.type)] else ss
set_option maxHeartbeats 8000000 in
def al6 (c:y4)(ds:List L0)(ss:List eU)(i:Nat)(hi:i<c.o7.length)(hc:(nth c.o7 i).p8.length<=1000)(ho:∀ j,j<(nth c.o7 i).p8.length->(nth (nth c.o7 i).p8 j).F7.length<=1000)(hss:ss.length<=c.o7.length)(ai1:ss.length<=1000)(hi2:c.o7.length<=1000)
  (ht:∀ k,k<ss.length->0<(nth ss k).2.2.length/\0<(nth c.o7 k).p8.length) (hsub:∀ s,(ds.any fun y=>L4 y s)=false->((ss.map (·.1)).any fun y=>L4 y s)=false) :
  Pm A 149 [.ptr 4 0,.d (num i)] (HH c ds ss) lW (.d (num (jb c ss ds (nth c.o7 i)))) (HH c (L8 ds (nth c.o7 i).name) (tO c ss ds (nth c.o7 i))):=by
 generalize hx:nth c.o7 i=t at *
 have LS:=Io c ds ss t.name;have ak3:∀ j,j<t.p8.length->Pm A 211 [.ptr 4 0,jE t,.d (num j)] (HH c (L8 ds t.name) ss) lR (.d (num (eV c ss t j))) (HH c (L8 ds t.name) ss):=fun j hj=>Uw c (L8 ds t.name) ss t j hj hc (ho j hj) hss ht
 have am4:=ZP t.p8 hc;have am5:=ZQ t.p8 hc;have Aj:O9 ds t.name=0->Pm A 212 [.ptr 4 0,.d (.str t.name),qu (t.p8.map aJ.name) (t.p8.map aJ.type)] (HH c (L8 ds t.name) ss) lW (.tuple []) (HH c (L8 ds t.name) (ss++[(t.name,t.p8.map aJ.name,t.p8.map aJ.type)])):=fun h=>by
  refine Am c (L8 ds t.name) ss t.name _ _ (hsub _ ?_) ai1;unfold O9 at h;cases h1:(!G7 t.name) with
  |true=>rw [h1] at h;simp at h
  |false =>
   rw [h1] at h;cases h2:ds.any fun y=>L4 y t.name with
   |false=>rfl
   |true=>rw [h2] at h;simp at h
 suffices h:Pq A 149 [.ptr 4 0,.d (num i)] (HH c ds ss) lW fun v H1=>v= .d (num (jb c ss ds t))/\H1=HH c (L8 ds t.name) (tO c ss ds t) by
  obtain ⟨v,H1,⟨rfl,rfl⟩,h⟩:=h;exact h
 have fin:∀ e:Int,u0 e 0=false->jb c ss ds t=e->tO c ss ds t=ss:=fun e h1 h2=>by unfold tO;rw [h2,h1];rfl
 unfold HH at *
 refine Pq.run (b:=5) [.ptr 4 0,.d (num i),.any,.any,.any,.any,.any,.any,.any] rfl rfl rfl rfl rfl ?_;refine gr ?_;rw [hx]
 repeat' (first|refine c0 LS rfl (h2:= ?_)|refine gx ?_|fail)
 refine tb (!u0 (O9 ds t.name) 0) (fun h1=> ?_) (fun h1=> ?_)
 .have e1:jb c ss ds t=O9 ds t.name:=by unfold jb;rw [h1];rfl
  refine gr ?_;exact ⟨_,_,rfl,by rw [e1];rfl,by rw [fin _ (by simpa using h1) e1];rfl⟩
 refine gr ?_;refine tB (fL t) ?_ (fun h2=> ?_) (fun h2=> ?_)
 .repeat' (first|refine cl (Ij _ _ _) ?_|refine gx ?_|refine fk (h1:=fun hw=> ?_) (h2:=fun hw=> ?_)|refine U0 (h1:=fun hw=> ?_) (h2:=fun hw=> ?_)|refine ⟨rfl,rfl,_,rfl,?_⟩|refine ⟨rfl,rfl⟩|fail)
  all_goals first|(simp [*,j9,fL];done)|(simp_all [j9,fL];done)|(simp_all [j9,fL,z8,y3,o9,F8];done)|(simp_all [j9,fL,z8,y3,o9,F8]<;>omega)
 .have e1:jb c ss ds t=1:=by unfold jb;rw [h1,h2];rfl
  refine gr ?_;exact ⟨_,_,rfl,by rw [e1];rfl,by rw [fin 1 (by simp [o9]) e1];rfl⟩
 refine gr ?_;refine Ex.N5 (fun k T H=>∃ (j:Nat) (w1 w2 w4 w5 w6:j3),T=[.ptr 4 0,w1,w2,.ptr 5 0,w4,w5,w6,.d (num t.p8.length),.d (num j)]/\H=[.cells (c.enc.map .d),.cells (c.enc.map .d),.map (dmap (L8 ds t.name)),.map (W5 (ss.map (·.1)) 0),.cells (c.enc.map .d++[.map 2,.map 3,C9 2 L3 ss]),.cells (t.enc.map .d)]/\j+k=t.p8.length/\jb c ss ds t=vP c ss t k j) (by rintro _ _ _ ⟨_,_,_,_,_,_,_,rfl,_⟩;rfl) ?_ (k:=t.p8.length) ⟨0,_,_,_,_,_,rfl,rfl,by simp,by unfold jb;rw [h1,h2];rfl⟩;rintro k _ _ ⟨j,w1,w2,w4,w5,w6,rfl,rfl,hk,hj⟩;refine Ex.nT ?_;refine Ex.seq ?_;refine tb (F3 j t.p8.length) (fun h3=> ?_) (fun h3=> ?_)
 .have h4:=C6 h3
  obtain ⟨k,rfl⟩:∃ k',k=k' +1:=⟨k - 1,by omega⟩;have am3:=ak3 j (by omega);rw [vP] at hj
  repeat' (first|refine c1 am3 rfl ?_|refine gx ?_|fail)
  refine tb (!u0 (eV c ss t j) 0) (fun h5=> ?_) (fun h5=> ?_)
  .rw [h5,if_pos rfl] at hj
   refine gr ?_;exact ⟨_,_,rfl,by rw [hj];rfl,by rw [fin _ (by simpa using h5) hj];rfl⟩
  .rw [h5,if_neg (by simp)] at hj
   refine gr ?_;exact ⟨k,by omega,j+1,_,_,_,_,_,rfl,rfl,by omega,hj⟩
 .have h4:=C5 h3
  obtain rfl:k=0:=by omega
  have Ma:=Aj (bz (by simpa using h1));have e1:jb c ss ds t=0:=hj;have e2:tO c ss ds t=ss++[(t.name,t.p8.map aJ.name,t.p8.map aJ.type)]:=by unfold tO;rw [e1];simp [o9]
  rw [e2]
  repeat' (first|refine cl (am4) ?_|refine cl (am5) ?_|refine c0 Ma rfl (h2:= ?_)|refine gx ?_|fail)
  exact ⟨_,_,rfl,by rw [e1];rfl,rfl⟩
end Go.Proofs.YtibjocmpkoepoaaGreat


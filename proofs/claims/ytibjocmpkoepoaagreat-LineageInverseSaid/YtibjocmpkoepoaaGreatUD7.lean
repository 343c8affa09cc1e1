import Derived.Test.YtibjocmpkoepoaaGreatUD4
set_option linter.all false
open Bool renaming false_eq_true → j3
open List renaming drop_of_length_le → l5, length_map → B0, take_of_length_le → B5
namespace Go.Proofs.YtibjocmpkoepoaaGreat
open Go.x9 Go.x9.S
attribute [local irreducible] Rx Ry Rn Ex Pf
abbrev eP:=L3×List L3×List Int
def L6 (s:eP):List x9.Data:=[z8 encS s.2.1,ints s.2.2]
def HH (c:y5)(ds:List L3)(ss:List eP):o9 :=
 [.cells (c.enc.map .d),.cells (c.enc.map .d),.map (dmap ds),.map (X3 (ss.map (·.1)) 0),.cells (c.enc.map .d++[.map 2,.map 3,C4 2 L6 ss])]
def lW:F2:=⟨0,0,5,5⟩
def lR:F2:=⟨0,5,5,5⟩
theorem vg (s:L3):∀ (l:List L3) (i:Nat),bB .s (.str s) (X3 l i)=some (if F0 (J6 s l i) 0 then none else some (.d (num (J6 s l i))))
 |[],i=>by simp [X3,bB,J6,y3]
 |d::l,i=>by
  have h1:=vg s l (i+1);have h2:(s==d)=M0 d s:=by
   rw [H7,Bool.eq_iff_iff];simp only [beq_iff_eq];exact eq_comm
  simp only [X3,bB,Data.aT,J6,h2]
  by_cases hb:M0 d s=true
  .simp [hb,y3,num]
  .have hb' :M0 d s=false:=by simpa using hb
   simp only [hb',j3,if_false];exact h1
def Jb (c:y5)(ds:List L3)(ss:List eP)(s:L3):Pm A 125 [.ptr 4 0,.d (.str s)] (HH c ds ss) lR (.d (num (J6 s (ss.map (·.1)) 0))) (HH c ds ss):=by
 have hf:=vg s (ss.map (·.1)) 0
 suffices h:Pq A 125 [.ptr 4 0,.d (.str s)] (HH c ds ss) lR fun v H1=>v= .d (num (J6 s (ss.map (·.1)) 0))/\H1=HH c ds ss by
  obtain ⟨v,H1,⟨rfl,rfl⟩,h⟩:=h;exact h
 unfold HH;refine Pq.run (b:=5) [.ptr 4 0,.d (.str s),.any,.any,.any] rfl rfl rfl rfl rfl ?_;cases h1:F0 (J6 s (ss.map (·.1)) 0) 0 with
 |true =>
  rw [h1,if_pos rfl] at hf;have h2:=A9 h1;have h3:J6 s (ss.map (·.1)) 0= -1:=by rcases fB s (ss.map (·.1)) 0 with h|h<;>omega
  repeat' (first|refine lk2 hf rfl rfl ?_|refine gx ?_|fail)
  refine tb (false) (fun h4=> ?_) (fun h4=> ?_)
  .cases h4
  refine gr ?_;exact ⟨_,_,rfl,by rw [h3];rfl,rfl⟩
 |false =>
  rw [h1,if_neg (by simp)] at hf
  repeat' (first|refine lk2 hf rfl rfl ?_|refine gx ?_|fail)
  refine tb (true) (fun h4=> ?_) (fun h4=> ?_)
  .refine gr ?_
   exact ⟨_,_,rfl,rfl,rfl⟩
  .cases h4
def bn2 (c:y5)(ds:List L3)(ss:List eP)(n:Int):Pm A 173 [.ptr 4 0,.d (num n)] (HH c ds ss) lR (.d (.bool (ah 0 n&&F0 n ss.length))) (HH c ds ss):=by
 suffices h:Pq A 173 [.ptr 4 0,.d (num n)] (HH c ds ss) lR fun v H1=>v= .d (.bool (ah 0 n&&F0 n ss.length))/\H1=HH c ds ss by
  obtain ⟨v,H1,⟨rfl,rfl⟩,h⟩:=h;exact h
 unfold HH;refine Pq.run (b:=5) [.ptr 4 0,.d (num n),.any] rfl rfl rfl rfl rfl ?_
 repeat' (first|refine gx ?_|refine fk (h1:=fun hw=> ?_) (h2:=fun hw=> ?_)|refine R8 (h1:=fun hw=> ?_) (h2:=fun hw=> ?_)|refine Ex.O6 ?_|refine Ex.P0 ?_|refine Ex.cond rfl (fun ht=> ?_) (fun ht=> ?_)|refine Ex.test (Rn.text ?_)|refine Ex.test (Rn.draw ?_)|refine ⟨_,rfl,fun ht=> ?_,fun ht=> ?_⟩|refine ⟨_,rfl,?_⟩|fail)
 all_goals exact ⟨_,_,rfl,by simp [*,j7],rfl⟩
def P3 (ds:List L3)(s:L3):Int:=if !H6 s then 3 else if ds.any fun y=>M0 y s then 4 else 0
def M1 (ds:List L3)(s:L3):List L3:=if s8 (P3 ds s) 0 then ds++[s] else ds
def IY (c:y5)(ds:List L3)(ss:List eP)(s:L3):Pm A 209 [.ptr 4 0,.d (.str s)] (HH c ds ss) lW (.d (num (P3 ds s))) (HH c (M1 ds s) ss):=by
 have hf:=uM s ds
 suffices h:Pq A 209 [.ptr 4 0,.d (.str s)] (HH c ds ss) lW fun v H1=>v= .d (num (P3 ds s))/\H1=HH c (M1 ds s) ss by
  obtain ⟨v,H1,⟨rfl,rfl⟩,h⟩:=h;exact h
 unfold HH;refine Pq.run (b:=5) [.ptr 4 0,.d (.str s),.any] rfl rfl rfl rfl rfl ?_;have h10:s8 3 0=false:=by simp [o6]
 have h11:s8 4 0=false:=by simp [o6]
 have h12:s8 0 0=true:=by simp [o6]
 refine gr ?_;refine tB (!H6 s) ?_ (fun h1=> ?_) (fun h1=> ?_)
 .repeat' (first|refine cl (Dx _) ?_|refine gx ?_|refine fk (h1:=fun hw=> ?_) (h2:=fun hw=> ?_)|refine R8 (h1:=fun hw=> ?_) (h2:=fun hw=> ?_)|refine ⟨rfl,rfl,_,rfl,?_⟩|refine ⟨rfl,rfl⟩|fail)
  all_goals exact cc
 .refine gr ?_
  have e1:P3 ds s=3:=by unfold P3;rw [h1];rfl
  exact ⟨_,_,rfl,by rw [e1];rfl,by unfold M1;rw [e1,h10];rfl⟩
 cases h2:ds.any fun y=>M0 y s with
 |true =>
  rw [h2,if_pos rfl] at hf;have e1:P3 ds s=4:=by unfold P3;rw [h1,h2];rfl
  refine tB (true) ?_ (fun h3=> ?_) (fun h3=> ?_)
  .repeat' (first|refine lk1 hf rfl ?_|refine gx ?_|refine fk (h1:=fun hw=> ?_) (h2:=fun hw=> ?_)|refine R8 (h1:=fun hw=> ?_) (h2:=fun hw=> ?_)|refine ⟨rfl,rfl,_,rfl,?_⟩|refine ⟨rfl,rfl⟩|fail)
   all_goals exact cc
  .refine gr ?_
   exact ⟨_,_,rfl,by rw [e1];rfl,by unfold M1;rw [e1,h11];rfl⟩
  .cases h3
 |false =>
  rw [h2,if_neg (by simp)] at hf;have e1:P3 ds s=0:=by unfold P3;rw [h1,h2];rfl
  have hk:Data.aT .s (.str s) (.str s)=some true:=by simp [Data.aT]
  refine tB (false) ?_ (fun h3=> ?_) (fun h3=> ?_)
  .repeat' (first|refine lk1 hf rfl ?_|refine gx ?_|refine fk (h1:=fun hw=> ?_) (h2:=fun hw=> ?_)|refine R8 (h1:=fun hw=> ?_) (h2:=fun hw=> ?_)|refine ⟨rfl,rfl,_,rfl,?_⟩|refine ⟨rfl,rfl⟩|fail)
   all_goals exact cc
  .cases h3
  repeat' (first|refine mp (zA s ds h2) hk (h2:= ?_)|refine gx ?_|fail)
  exact ⟨_,_,rfl,by rw [e1];rfl,by unfold M1;rw [e1,h12];rfl⟩
def qu (nm:List L3)(ty:List Int):c8:= .agg [.d (z8 encS nm),.d (ints ty)]
def AH (c:y5)(ds:List L3)(ss:List eP)(s:L3)(nm:List L3)(ty:List Int)(hs:((ss.map (·.1)).any fun y=>M0 y s)=false)(hl:ss.length<=1000) :
  Pm A 212 [.ptr 4 0,.d (.str s),qu nm ty] (HH c ds ss) lW (.tuple []) (HH c ds (ss++[(s,nm,ty)])):=by
 have hput:=Av s (ss.map (·.1)) 0 hs;rw [B0,Nat.zero_add] at hput;have hk:Data.aT .s (.str s) (.str s)=some true:=by simp [Data.aT]
 have hr:roomFor (ss.length+1) 48=true:=by simp only [roomFor,decide_eq_true_eq];omega
 suffices h:Pq A 212 [.ptr 4 0,.d (.str s),qu nm ty] (HH c ds ss) lW fun v H1=>v= .tuple []/\H1=HH c ds (ss++[(s,nm,ty)]) by
  obtain ⟨v,H1,⟨rfl,rfl⟩,h⟩:=h;exact h
 unfold HH;refine Pq.run (b:=5) [.ptr 4 0,.d (.str s),qu nm ty,.any] rfl rfl rfl rfl rfl ?_
 repeat' (first|refine mp hput hk (h2:= ?_)|refine o2 ?_|refine ac2 (a:=(s,nm,ty)) (xs:=ss) (enc:=L6) hr rfl (h2:= ?_)|refine soO (h2:= ?_)|refine gx ?_|fail)
 refine ⟨_,_,rfl,rfl,?_⟩;have e:((ss++[(s,nm,ty)]).map (·.1))=ss.map (·.1)++[s]:=by simp
 rw [e];rfl
def uV (ss:List eP)(s:L3):J6 s (ss.map (·.1)) 0= -1\/(0<=J6 s (ss.map (·.1)) 0/\J6 s (ss.map (·.1)) 0<ss.length):=by
 rcases fB s (ss.map (·.1)) 0 with h|h
 .exact Or.inl h
 .right;simp at h;omega
def qz (x:L3):List L3->Nat->Int
 |[],_=> -1
 |y::r,i=>if M0 x y then i else qz x r (i+1)
theorem CV (x:L3):∀ (l:List L3) (i:Nat),ah 0 (qz x l i)=l.any fun y=>M0 y x
 |[],i=>by simp [qz,s9]
 |y::r,i=>by
  have h1:=CV x r (i+1);have h2:M0 x y=M0 y x:=by simp only [H7];rw [Bool.eq_iff_iff];simp only [beq_iff_eq];exact eq_comm
  simp only [qz,List.any_cons,h2];cases h3:M0 y x with
  |true=>simp [s9]
  |false=>simpa using h1
def aH3 (xs:List L3)(x:L3)(hx:xs.length<=100000):Pf A 260 [.d (z8 encS xs),.d (.str x)] (.d (num (qz x xs 0))):=by
 refine Pf.run [.d (z8 encS xs),.d (.str x),.any,.any,.any,.any] rfl rfl rfl rfl ?_;refine gr ?_;refine Ex.M5 (fun k T H=>∃ (i:Nat) (v w:c8),T=[.d (z8 encS xs),.d (.str x),v,w,.d (num xs.length),.d (num i)]/\H=[]/\i+k=xs.length/\qz x xs 0=qz x (xs.drop i) i) (by rintro _ _ _ ⟨_,_,_,_,rfl,_⟩;rfl) ?_ (k:=xs.length) ⟨0,_,_,rfl,rfl,by simp,by simp⟩;rintro k _ _ ⟨i,v,w,rfl,rfl,hk,hi⟩;refine Ex.nT ?_
 repeat' (first|refine gx ?_|refine Ex.O6 ?_|refine Ex.P0 ?_|refine Ex.cond rfl (fun ht=> ?_) (fun ht=> ?_)|refine Ex.test (Rn.text ?_)|refine Ex.test (Rn.draw ?_)|refine ⟨_,rfl,fun ht=> ?_,fun ht=> ?_⟩|refine ⟨_,rfl,?_⟩|fail)
 .have h1:=A9 ‹F0 i _=true›
  rw [B9 (by omega)] at hi;simp [hi,qz,ht,j7,num]
 .have h1:=A9 ‹F0 i _=true›
  rw [B9 (by omega)] at hi;exact ⟨k - 1,by omega,i+1,_,_,rfl,rfl,by omega,by simp [hi,qz,ht]⟩
 .have h1:=B8 ht
  rw [l5 (by omega)] at hi;simp [hi,qz,j7,num]
def ad6 (xs:List L3)(x:L3)(hx:xs.length<=100000):Pf A 224 [.d (z8 encS xs),.d (.str x)] (.d (.bool (xs.any fun y=>M0 y x))):=by
 rw [<- CV x xs 0];refine Pf.run [.d (z8 encS xs),.d (.str x),.any] rfl rfl rfl rfl ?_
 repeat' (first|refine cl (aH3 xs x hx) ?_|refine gx ?_|fail)
 exact ⟨_,rfl,rfl⟩
def Cp (x:Int):List Int->Nat->Int
 |[],_=> -1
 |y::r,i=>if s8 x y then i else Cp x r (i+1)
theorem Hx (x:Int):∀ (l:List Int) (i:Nat),ah 0 (Cp x l i)=l.any fun y=>s8 y x
 |[],i=>by simp [Cp,s9]
 |y::r,i=>by
  have h1:=Hx x r (i+1);have h2:s8 x y=s8 y x:=by simp only [o6];rw [Bool.eq_iff_iff];simp only [beq_iff_eq];exact eq_comm
  simp only [Cp,List.any_cons,h2];cases h3:s8 y x with
  |true=>simp [s9]
  |false=>simpa using h1
def bm4 (xs:List Int)(x:Int)(hx:xs.length<=100000):Pf A 278 [.d (z8 (fun n=>[num n]) xs),.d (num x)] (.d (num (Cp x xs 0))):=by
 refine Pf.run [.d (z8 (fun n=>[num n]) xs),.d (num x),.any,.any,.any,.any] rfl rfl rfl rfl ?_;refine gr ?_;refine Ex.M5 (fun k T H=>∃ (i:Nat) (v w:c8),T=[.d (z8 (fun n=>[num n]) xs),.d (num x),v,w,.d (num xs.length),.d (num i)]/\H=[]/\i+k=xs.length/\Cp x xs 0=Cp x (xs.drop i) i) (by rintro _ _ _ ⟨_,_,_,_,rfl,_⟩;rfl) ?_ (k:=xs.length) ⟨0,_,_,rfl,rfl,by simp,by simp⟩;rintro k _ _ ⟨i,v,w,rfl,rfl,hk,hi⟩;refine Ex.nT ?_
 repeat' (first|refine gx ?_|refine Ex.O6 ?_|refine Ex.P0 ?_|refine Ex.cond rfl (fun ht=> ?_) (fun ht=> ?_)|refine Ex.test (Rn.text ?_)|refine Ex.test (Rn.draw ?_)|refine ⟨_,rfl,fun ht=> ?_,fun ht=> ?_⟩|refine ⟨_,rfl,?_⟩|fail)
 .have h1:=A9 ‹F0 i _=true›
  rw [B9 (by omega)] at hi;simp [hi,Cp,ht,j7,num]
 .have h1:=A9 ‹F0 i _=true›
  rw [B9 (by omega)] at hi;exact ⟨k - 1,by omega,i+1,_,_,rfl,rfl,by omega,by simp [hi,Cp,ht]⟩
 .have h1:=B8 ht
  rw [l5 (by omega)] at hi;simp [hi,Cp,j7,num]
def aI6 (xs:List Int)(x:Int)(hx:xs.length<=100000):Pf A 253 [.d (z8 (fun n=>[num n]) xs),.d (num x)] (.d (.bool (xs.any fun y=>s8 y x))):=by
 rw [<- Hx x xs 0];refine Pf.run [.d (z8 (fun n=>[num n]) xs),.d (num x),.any] rfl rfl rfl rfl ?_
 repeat' (first|refine cl (bm4 xs x hx) ?_|refine gx ?_|fail)
 exact ⟨_,rfl,rfl⟩
set_option maxHeartbeats 4000000 in
def ad8 (t:mO)(xs:List Int)(hx:xs.length<=1000)(hc:t.p8.length<=1000):Pf A 251 [jG t,.d (ints xs)] (.d (.bool (Y5 t (-1) xs))):=by
 refine Pf.run [jG t,.d (ints xs),.any,.any,.any,.any,.any,.any,.any,.any] rfl rfl rfl rfl ?_;refine gr ?_;refine Ex.T7 (fun k T H=>∃ (i:Nat) (p:Int),T=[.any,.any,.ptr 0 0,.any,.d (num p),.any,.any,.d (ints xs),.d (num xs.length),.d (num i)]/\H=[.cells (t.enc.map .d)]/\i+k=xs.length/\ -1<=p/\Y5 t (-1) xs=Y5 t p (xs.drop i)) ?_ (k:=xs.length) ⟨0, -1,rfl,rfl,by simp,by omega,by simp⟩;rintro k _ _ ⟨i,p,rfl,rfl,hk,hp,hi⟩;refine Ex.seq ?_;refine tb (F0 i xs.length) (fun h1=> ?_) (fun h1=> ?_)
 .have h2:=A9 h1
  rw [B9 (by omega)] at hi;refine gr ?_;refine tb (ah (nth xs i) p||ah t.p8.length (nth xs i)) (fun h3=> ?_) (fun h3=> ?_)
  .refine gr ?_
   have h4:(F0 p (nth xs i)&&F0 (nth xs i) t.p8.length)=false:=by simp [s9,y3] at h3 ⊢;omega
   exact ⟨_,rfl,by rw [hi,Y5,h4];rfl⟩
  have h4:F0 p (nth xs i)=true/\F0 (nth xs i) t.p8.length=true:=by simp [s9,y3] at h3 ⊢;omega
  have h5:=A9 h4.1;have h6:=A9 h4.2;refine gr ?_;refine tb (M0 (nth t.p8 (nth xs i).toNat).space []&&M0 (nth t.p8 (nth xs i).toNat).refs []) (fun h7=> ?_) (fun h7=> ?_)
  .refine gr ?_
   exact ⟨_,rfl,by rw [hi,Y5,h4.1,h4.2,h7];rfl⟩
  .refine gr ?_
   exact ⟨k - 1,by omega,_,_,rfl,i+1,nth xs i,rfl,rfl,by omega,by omega,by rw [hi,Y5,h4.1,h4.2,h7];rfl⟩
 .refine gr ?_
  have h2:=B8 h1;rw [l5 (by omega)] at hi;exact ⟨_,rfl,by rw [hi];rfl⟩
def xP (x:aG):c8:= .agg (x.enc.map .d)
def jV (t:mO)(x:aG):Bool :=
 if !s8 x.eX 0&&(!s8 x.eX 1|| !F0 0 x.F8.length) then false
 else if !y7 x.jk 0 1048576 then false
 else if !s8 x.jk 0&& !F0 0 x.F8.length then false
 else s8 t.aA 0||ah x.jk t.aA
set_option maxHeartbeats 4000000 in
def ad9 (t:mO)(x:aG):Pf A 252 [jG t,xP x] (.d (.bool (jV t x))):=by
 refine Pf.run [jG t,xP x,.any,.any,.any,.any] rfl rfl rfl rfl ?_;refine gr ?_;refine tb (!s8 x.eX 0&&(!s8 x.eX 1|| !F0 0 x.F8.length)) (fun h1=> ?_) (fun h1=> ?_)
 .refine gr ?_
  exact ⟨_,rfl,by unfold jV;rw [h1];rfl⟩
 refine tB (!y7 x.jk 0 1048576) ?_ (fun h2=> ?_) (fun h2=> ?_)
 .repeat' (first|refine cl (IU _ _ _) ?_|refine gx ?_|refine fk (h1:=fun hw=> ?_) (h2:=fun hw=> ?_)|refine R8 (h1:=fun hw=> ?_) (h2:=fun hw=> ?_)|refine ⟨rfl,rfl,_,rfl,?_⟩|refine ⟨rfl,rfl⟩|fail)
  all_goals exact cc
 .refine gr ?_
  exact ⟨_,rfl,by unfold jV;rw [h1,h2];rfl⟩
 refine tb (!s8 x.jk 0&& !F0 0 x.F8.length) (fun h3=> ?_) (fun h3=> ?_)
 .refine gr ?_
  exact ⟨_,rfl,by unfold jV;rw [h1,h2,h3];rfl⟩
 repeat' (first|refine gx ?_|refine fk (h1:=fun hw=> ?_) (h2:=fun hw=> ?_)|refine R8 (h1:=fun hw=> ?_) (h2:=fun hw=> ?_)|refine Ex.O6 ?_|refine Ex.P0 ?_|refine Ex.cond rfl (fun ht=> ?_) (fun ht=> ?_)|refine Ex.test (Rn.text ?_)|refine Ex.test (Rn.draw ?_)|refine ⟨_,rfl,fun ht=> ?_,fun ht=> ?_⟩|refine ⟨_,rfl,?_⟩|fail)
 all_goals unfold jV
 all_goals rw [h1,h2,h3]
 all_goals simp [*,j7]
def l7:F2:=⟨0,7,7,7⟩
def UR (a0 a1 a2 a3 a4 a5:u0)(x y:aG):Pm A 249 [xP y,.ptr 6 0] [a0,a1,a2,a3,a4,a5,.cells (x.enc.map .d)] l7 (.d (.bool (M0 y.name x.name))) [a0,a1,a2,a3,a4,a5,.cells (x.enc.map .d)]:=by
 suffices h:Pq A 249 [xP y,.ptr 6 0] [a0,a1,a2,a3,a4,a5,.cells (x.enc.map .d)] l7 fun v H1=>v= .d (.bool (M0 y.name x.name))/\H1=[a0,a1,a2,a3,a4,a5,.cells (x.enc.map .d)] by
  obtain ⟨v,H1,⟨rfl,rfl⟩,h⟩:=h;exact h
 refine Pq.run (b:=7) [xP y,.ptr 6 0,.any,.any] rfl rfl rfl rfl rfl ?_;refine gr ?_;exact ⟨_,_,rfl,rfl,rfl⟩
def GF (x:aG):List aG->Nat->Int
 |[],_=> -1
 |y::r,i=>if M0 y.name x.name then i else GF x r (i+1)
theorem Fj (x:aG):∀ (l:List aG) (i:Nat),ah 0 (GF x l i)=l.any fun y=>M0 y.name x.name
 |[],i=>by simp [GF,s9]
 |y::r,i=>by
  have h1:=Fj x r (i+1);simp only [GF,List.any_cons];cases h3:M0 y.name x.name with
  |true=>simp [s9]
  |false=>simpa using h1
set_option maxHeartbeats 2000000 in
def UU (a0 a1 a2 a3 a4 a5:u0)(x:aG)(ys:List aG)(hy:ys.length<=1000):Pm A 277 [.d (z8 aG.enc ys),.func 249 [] [.ptr 6 0]] [a0,a1,a2,a3,a4,a5,.cells (x.enc.map .d)] l7 (.d (num (GF x ys 0))) [a0,a1,a2,a3,a4,a5,.cells (x.enc.map .d)]:=by
 suffices h:Pq A 277 [.d (z8 aG.enc ys),.func 249 [] [.ptr 6 0]] [a0,a1,a2,a3,a4,a5,.cells (x.enc.map .d)] l7 fun v H1=>v= .d (num (GF x ys 0))/\H1=[a0,a1,a2,a3,a4,a5,.cells (x.enc.map .d)] by
  obtain ⟨v,H1,⟨rfl,rfl⟩,h⟩:=h;exact h
 refine Pq.run (b:=7) [.d (z8 aG.enc ys),.func 249 [] [.ptr 6 0],.any,.any,.any,.any] rfl rfl rfl rfl rfl ?_;refine gr ?_;refine Ex.M5 (fun k T H=>∃ (i:Nat) (v w:c8),T=[.d (z8 aG.enc ys),.func 249 [] [.ptr 6 0],v,w,.d (num ys.length),.d (num i)]/\H=[a0,a1,a2,a3,a4,a5,.cells (x.enc.map .d)]/\i+k=ys.length/\GF x ys 0=GF x (ys.drop i) i) (by rintro _ _ _ ⟨_,_,_,_,rfl,_⟩;rfl) ?_ (k:=ys.length) ⟨0,_,_,rfl,rfl,by simp,by simp⟩;rintro k _ _ ⟨i,v,w,rfl,rfl,hk,hi⟩;refine Ex.nT ?_;refine Ex.seq ?_;refine tb (F0 i ys.length) (fun h1=> ?_) (fun h1=> ?_)
 .have h2:=A9 h1
  rw [B9 (by omega)] at hi;have p1:=UR a0 a1 a2 a3 a4 a5 x (nth ys i);refine gr ?_;refine tB (M0 (nth ys i).name x.name) ?_ (fun h3=> ?_) (fun h3=> ?_)
  .repeat' (first|refine cv1 p1 rfl ?_|refine gx ?_|refine fk (h1:=fun hw=> ?_) (h2:=fun hw=> ?_)|refine R8 (h1:=fun hw=> ?_) (h2:=fun hw=> ?_)|refine ⟨rfl,rfl,_,rfl,?_⟩|refine ⟨rfl,rfl⟩|fail)
   all_goals exact cc
  .refine gr ?_
   exact ⟨_,_,rfl,by rw [hi,GF,h3];rfl,rfl⟩
  .refine gr ?_
   exact ⟨k - 1,by omega,i+1,_,_,rfl,rfl,by omega,by rw [hi,GF,h3];rfl⟩
 .have h2:=B8 h1
  rw [l5 (by omega)] at hi;refine gr ?_;exact ⟨_,_,rfl,by rw [hi];rfl,rfl⟩
def UQ (a0 a1 a2 a3 a4 a5:u0)(x:aG)(ys:List aG)(hy:ys.length<=1000):Pm A 248 [.d (z8 aG.enc ys),.func 249 [] [.ptr 6 0]] [a0,a1,a2,a3,a4,a5,.cells (x.enc.map .d)] l7 (.d (.bool (ys.any fun y=>M0 y.name x.name))) [a0,a1,a2,a3,a4,a5,.cells (x.enc.map .d)]:=by
 have p1:=UU a0 a1 a2 a3 a4 a5 x ys hy;rw [<- Fj x ys 0]
 suffices h:Pq A 248 [.d (z8 aG.enc ys),.func 249 [] [.ptr 6 0]] [a0,a1,a2,a3,a4,a5,.cells (x.enc.map .d)] l7 fun v H1=>v= .d (.bool (ah 0 (GF x ys 0)))/\H1=[a0,a1,a2,a3,a4,a5,.cells (x.enc.map .d)] by
  obtain ⟨v,H1,⟨rfl,rfl⟩,h⟩:=h;exact h
 refine Pq.run (b:=7) [.d (z8 aG.enc ys),.func 249 [] [.ptr 6 0],.any] rfl rfl rfl rfl rfl ?_
 repeat' (first|refine c1 p1 rfl ?_|refine gx ?_|fail)
 exact ⟨_,_,rfl,rfl,rfl⟩
def aG7 (x:aG):Pf A 214 [xP x] (.d (.str x.name)):=by
 refine Pf.run [xP x,.any,.any] rfl rfl rfl rfl ?_;refine gr ?_;exact ⟨_,rfl,rfl⟩
def aG8 (x:aG):Pf A 216 [xP x] (.d (num x.type)):=by
 refine Pf.run [xP x,.any,.any] rfl rfl rfl rfl ?_;refine gr ?_;exact ⟨_,rfl,rfl⟩
set_option maxHeartbeats 2000000 in
def ad0 (xs:List aG)(hx:xs.length<=1000):Pf A 213 [.d (z8 aG.enc xs),.func 214 [] []] (.d (z8 encS (xs.map aG.name))):=by
 refine Pf.run [.d (z8 aG.enc xs),.func 214 [] [],.any,.any,.any,.any,.any,.any] rfl rfl rfl rfl ?_;refine gr ?_;refine Ex.T7 (fun k T H=>∃ (i:Nat) (acc:List L3),T=[.any,.func 214 [] [],.any,C4 1 encS acc,.any,.d (z8 aG.enc xs),.d (num xs.length),.d (num i)]/\H=[]/\i+k=xs.length/\acc=(xs.take i).map aG.name) ?_ (k:=xs.length) ⟨0,[],rfl,rfl,by simp,by simp⟩;rintro k _ _ ⟨i,acc,rfl,rfl,hk,hacc⟩;have hl:acc.length=i:=by rw [hacc];simp;omega
 refine Ex.seq ?_;refine tb (F0 i xs.length) (fun h1=> ?_) (fun h1=> ?_)
 .have h2:=A9 h1
  have p1:=aG7 (nth xs i)
  repeat' (first|refine cv p1 ?_|refine gx ?_|fail)
  exact ⟨k - 1,by omega,_,_,rfl,i+1,acc++[(nth xs i).name],rfl,rfl,by omega,by rw [J3 (by omega),hacc];simp⟩
 .have h2:=B8 h1
  rw [B5 (by omega)] at hacc;refine gr ?_;exact ⟨_,rfl,by rw [<- hacc];rfl⟩
set_option maxHeartbeats 2000000 in
def ad1 (xs:List aG)(hx:xs.length<=1000):Pf A 215 [.d (z8 aG.enc xs),.func 216 [] []] (.d (ints (xs.map aG.type))):=by
 refine Pf.run [.d (z8 aG.enc xs),.func 216 [] [],.any,.any,.any,.any,.any,.any] rfl rfl rfl rfl ?_;refine gr ?_;refine Ex.T7 (fun k T H=>∃ (i:Nat) (acc:List Int),T=[.any,.func 216 [] [],.any,C4 1 (fun n=>[num n]) acc,.any,.d (z8 aG.enc xs),.d (num xs.length),.d (num i)]/\H=[]/\i+k=xs.length/\acc=(xs.take i).map aG.type) ?_ (k:=xs.length) ⟨0,[],rfl,rfl,by simp,by simp⟩;rintro k _ _ ⟨i,acc,rfl,rfl,hk,hacc⟩;have hl:acc.length=i:=by rw [hacc];simp;omega
 refine Ex.seq ?_;refine tb (F0 i xs.length) (fun h1=> ?_) (fun h1=> ?_)
 .have h2:=A9 h1
  have p1:=aG8 (nth xs i)
  repeat' (first|refine cv p1 ?_|refine gx ?_|fail)
  exact ⟨k - 1,by omega,_,_,rfl,i+1,acc++[(nth xs i).type],rfl,rfl,by omega,by rw [J3 (by omega),hacc];simp⟩
 .have h2:=B8 h1
  rw [B5 (by omega)] at hacc;refine gr ?_;exact ⟨_,rfl,by rw [<- hacc];rfl⟩
def eU (c:y5)(ss:List eP)(t:mO)(i:Nat):Int :=
 if !H6 (nth t.p8 i).name||(!M0 (nth t.p8 i).space []&& !H6 (nth t.p8 i).space) then 3
 else if (t.p8.take i).any fun y=>M0 y.name (nth t.p8 i).name then 4
 else if !M0 (nth t.p8 i).refs []&&F0 (J6 (nth t.p8 i).refs (ss.map (·.1)) 0) 0 then 7
 else if !(s8 (nth t.p8 i).type 1||s8 (nth t.p8 i).type 2)||(ah 0 (J6 (nth t.p8 i).refs (ss.map (·.1)) 0)&& !s8 (nth t.p8 i).type (nth (nth ss (J6 (nth t.p8 i).refs (ss.map (·.1)) 0).toNat).2.2 0)) then 5
 else if (!M0 (nth t.p8 i).space []&& !M0 (nth t.p8 i).refs [])|| !Y5 t (-1) (nth t.p8 i).F8|| !jV t (nth t.p8 i) then 1
 else if s8 i 0&&F0 0 (nth t.p8 i).F8.length&& !s8 t.erase 1 then 1
 else if ah 0 (J6 (nth t.p8 i).refs (ss.map (·.1)) 0)&&F0 0 (nth (nth c.k9 (J6 (nth t.p8 i).refs (ss.map (·.1)) 0).toNat).p8 0).F8.length&& !((nth t.p8 i).F8.any fun y=>s8 y i) then 1
 else 0
set_option maxHeartbeats 8000000 in
def UO (c:y5)(ds:List L3)(ss:List eP)(t:mO)(i:Nat)(hi:i<t.p8.length)(hc:t.p8.length<=1000)(ho:(nth t.p8 i).F8.length<=1000)(hss:ss.length<=c.k9.length)(ht:∀ k,k<ss.length->0<(nth ss k).2.2.length/\0<(nth c.k9 k).p8.length) :
  Pm A 211 [.ptr 4 0,jG t,.d (num i)] (HH c ds ss) lR (.d (num (eU c ss t i))) (HH c ds ss):=by
 have Rj:=Jb c ds ss (nth t.p8 i).refs;have b1:=uV ss (nth t.p8 i).refs;have b2:(J6 (nth t.p8 i).refs (ss.map (·.1)) 0)= -1\/(0<=(J6 (nth t.p8 i).refs (ss.map (·.1)) 0)/\(J6 (nth t.p8 i).refs (ss.map (·.1)) 0)<ss.length/\0<(nth ss (J6 (nth t.p8 i).refs (ss.map (·.1)) 0).toNat).2.2.length/\0<(nth c.k9 (J6 (nth t.p8 i).refs (ss.map (·.1)) 0).toNat).p8.length):=by
  rcases b1 with h|h
  .exact Or.inl h
  .have:=ht (J6 (nth t.p8 i).refs (ss.map (·.1)) 0).toNat (by omega)
   exact Or.inr ⟨h.1,h.2,this.1,this.2⟩
 have ar3:=ad8 t (nth t.p8 i).F8 ho hc;have ar4:=ad9 t (nth t.p8 i);have q49:=aI6 (nth t.p8 i).F8 i (by omega)
 suffices h:Pq A 211 [.ptr 4 0,jG t,.d (num i)] (HH c ds ss) lR fun v H1=>v= .d (num (eU c ss t i))/\H1=HH c ds ss by
  obtain ⟨v,H1,⟨rfl,rfl⟩,h⟩:=h;exact h
 unfold HH at *
 have ar2:=UQ (.cells (c.enc.map .d)) (.cells (c.enc.map .d)) (.map (dmap ds)) (.map (X3 (ss.map (·.1)) 0)) (.cells (c.enc.map .d++[.map 2,.map 3,C4 2 L6 ss])) (.cells (t.enc.map .d)) (nth t.p8 i) (t.p8.take i) (by simp;omega);refine Pq.run (b:=5) [.ptr 4 0,jG t,.d (num i),.any,.any,.any,.any,.any] rfl rfl rfl rfl rfl ?_;refine gr ?_;refine tB (!H6 (nth t.p8 i).name||(!M0 (nth t.p8 i).space []&& !H6 (nth t.p8 i).space)) ?_ (fun h1=> ?_) (fun h1=> ?_)
 .repeat' (first|refine cl (Dx _) ?_|refine gx ?_|refine fk (h1:=fun hw=> ?_) (h2:=fun hw=> ?_)|refine R8 (h1:=fun hw=> ?_) (h2:=fun hw=> ?_)|refine ⟨rfl,rfl,_,rfl,?_⟩|refine ⟨rfl,rfl⟩|fail)
  all_goals exact cc
 .refine gr ?_
  exact ⟨_,_,rfl,by unfold eU;rw [h1];rfl,rfl⟩
 refine gr ?_;refine tB ((t.p8.take i).any fun y=>M0 y.name (nth t.p8 i).name) ?_ (fun h2=> ?_) (fun h2=> ?_)
 .repeat' (first|refine c1 ar2 rfl ?_|refine gx ?_|refine fk (h1:=fun hw=> ?_) (h2:=fun hw=> ?_)|refine R8 (h1:=fun hw=> ?_) (h2:=fun hw=> ?_)|refine ⟨rfl,rfl,_,rfl,?_⟩|refine ⟨rfl,rfl⟩|fail)
  all_goals exact cc
 .refine gr ?_
  exact ⟨_,_,rfl,by unfold eU;rw [h1,h2];rfl,rfl⟩
 repeat' (first|refine c1 Rj rfl ?_|refine gx ?_|fail)
 refine tb (!M0 (nth t.p8 i).refs []&&F0 (J6 (nth t.p8 i).refs (ss.map (·.1)) 0) 0) (fun h3=> ?_) (fun h3=> ?_)
 .refine gr ?_
  exact ⟨_,_,rfl,by unfold eU;rw [h1,h2,h3];rfl,rfl⟩
 refine gr ?_;refine tB (!(s8 (nth t.p8 i).type 1||s8 (nth t.p8 i).type 2)||(ah 0 (J6 (nth t.p8 i).refs (ss.map (·.1)) 0)&& !s8 (nth t.p8 i).type (nth (nth ss (J6 (nth t.p8 i).refs (ss.map (·.1)) 0).toNat).2.2 0))) ?_ (fun h4=> ?_) (fun h4=> ?_)
 .repeat' (first|refine cl (ad7 _) ?_|refine gx ?_|refine fk (h1:=fun hw=> ?_) (h2:=fun hw=> ?_)|refine R8 (h1:=fun hw=> ?_) (h2:=fun hw=> ?_)|refine ⟨rfl,rfl,_,rfl,?_⟩|refine ⟨rfl,rfl⟩|fail)
  all_goals exact cc
 .refine gr ?_
  exact ⟨_,_,rfl,by unfold eU;rw [h1,h2,h3,h4];rfl,rfl⟩
 refine gr ?_;refine tB ((!M0 (nth t.p8 i).space []&& !M0 (nth t.p8 i).refs [])|| !Y5 t (-1) (nth t.p8 i).F8|| !jV t (nth t.p8 i)) ?_ (fun h5=> ?_) (fun h5=> ?_)
 .repeat' (first|refine cl (ar3) ?_|refine cl (ar4) ?_|refine gx ?_|refine fk (h1:=fun hw=> ?_) (h2:=fun hw=> ?_)|refine R8 (h1:=fun hw=> ?_) (h2:=fun hw=> ?_)|refine ⟨rfl,rfl,_,rfl,?_⟩|refine ⟨rfl,rfl⟩|fail)
  all_goals exact cc
 .refine gr ?_
  exact ⟨_,_,rfl,by unfold eU;rw [h1,h2,h3,h4,h5];rfl,rfl⟩
 refine gr ?_;refine tb (s8 i 0&&F0 0 (nth t.p8 i).F8.length&& !s8 t.erase 1) (fun h6=> ?_) (fun h6=> ?_)
 .refine gr ?_
  exact ⟨_,_,rfl,by unfold eU;rw [h1,h2,h3,h4,h5,h6];rfl,rfl⟩
 refine gr ?_;refine tB (ah 0 (J6 (nth t.p8 i).refs (ss.map (·.1)) 0)&&F0 0 (nth (nth c.k9 (J6 (nth t.p8 i).refs (ss.map (·.1)) 0).toNat).p8 0).F8.length&& !((nth t.p8 i).F8.any fun y=>s8 y i)) ?_ (fun h7=> ?_) (fun h7=> ?_)
 .repeat' (first|refine cl (q49) ?_|refine gx ?_|refine fk (h1:=fun hw=> ?_) (h2:=fun hw=> ?_)|refine R8 (h1:=fun hw=> ?_) (h2:=fun hw=> ?_)|refine ⟨rfl,rfl,_,rfl,?_⟩|refine ⟨rfl,rfl⟩|fail)
  all_goals exact cc
 .refine gr ?_
  exact ⟨_,_,rfl,by unfold eU;rw [h1,h2,h3,h4,h5,h6,h7];rfl,rfl⟩
 refine gr ?_;exact ⟨_,_,rfl,by unfold eU;rw [h1,h2,h3,h4,h5,h6,h7];rfl,rfl⟩
def wC (c:y5)(ss:List eP)(t:mO):Nat->Nat->Int
 |0,_=>0
 |k+1,i=>if !s8 (eU c ss t i) 0 then eU c ss t i else wC c ss t k (i+1)
def fG (t:mO):Bool:= !y7 t.p8.length 1 8||(!s8 t.erase 0&& !s8 t.erase 1)|| !y7 t.aA 0 1048576
def ja (c:y5)(ss:List eP)(ds:List L3)(t:mO):Int :=
 if !s8 (P3 ds t.name) 0 then P3 ds t.name else if fG t then 1 else wC c ss t t.p8.length 0
def tS (c:y5)(ss:List eP)(ds:List L3)(t:mO):List eP:=if s8 (ja c ss ds t) 0 then ss++[(t.name,t.p8.map aG.name,t.p8.map aG.type)] else ss
set_option maxHeartbeats 8000000 in
def ap8 (c:y5)(ds:List L3)(ss:List eP)(i:Nat)(hi:i<c.k9.length)(hc:(nth c.k9 i).p8.length<=1000)(ho:∀ j,j<(nth c.k9 i).p8.length->(nth (nth c.k9 i).p8 j).F8.length<=1000)(hss:ss.length<=c.k9.length)(al9:ss.length<=1000)(hi2:c.k9.length<=1000)
  (ht:∀ k,k<ss.length->0<(nth ss k).2.2.length/\0<(nth c.k9 k).p8.length) (hsub:∀ s,(ds.any fun y=>M0 y s)=false->((ss.map (·.1)).any fun y=>M0 y s)=false) :
  Pm A 149 [.ptr 4 0,.d (num i)] (HH c ds ss) lW (.d (num (ja c ss ds (nth c.k9 i)))) (HH c (M1 ds (nth c.k9 i).name) (tS c ss ds (nth c.k9 i))):=by
 generalize hx:nth c.k9 i=t at *
 have Ms:=IY c ds ss t.name;have ao1:∀ j,j<t.p8.length->Pm A 211 [.ptr 4 0,jG t,.d (num j)] (HH c (M1 ds t.name) ss) lR (.d (num (eU c ss t j))) (HH c (M1 ds t.name) ss):=fun j hj=>UO c (M1 ds t.name) ss t j hj hc (ho j hj) hss ht
 have aq7:=ad0 t.p8 hc;have aq8:=ad1 t.p8 hc;have AF:P3 ds t.name=0->Pm A 212 [.ptr 4 0,.d (.str t.name),qu (t.p8.map aG.name) (t.p8.map aG.type)] (HH c (M1 ds t.name) ss) lW (.tuple []) (HH c (M1 ds t.name) (ss++[(t.name,t.p8.map aG.name,t.p8.map aG.type)])):=fun h=>by
  refine AH c (M1 ds t.name) ss t.name _ _ (hsub _ ?_) al9;unfold P3 at h;cases h1:(!H6 t.name) with
  |true=>rw [h1] at h;simp at h
  |false =>
   rw [h1] at h;cases h2:ds.any fun y=>M0 y t.name with
   |false=>rfl
   |true=>rw [h2] at h;simp at h
 suffices h:Pq A 149 [.ptr 4 0,.d (num i)] (HH c ds ss) lW fun v H1=>v= .d (num (ja c ss ds t))/\H1=HH c (M1 ds t.name) (tS c ss ds t) by
  obtain ⟨v,H1,⟨rfl,rfl⟩,h⟩:=h;exact h
 have fin:∀ e:Int,s8 e 0=false->ja c ss ds t=e->tS c ss ds t=ss:=fun e h1 h2=>by unfold tS;rw [h2,h1];rfl
 unfold HH at *
 refine Pq.run (b:=5) [.ptr 4 0,.d (num i),.any,.any,.any,.any,.any,.any,.any] rfl rfl rfl rfl rfl ?_;refine gr ?_;rw [hx]
 repeat' (first|refine c0 Ms rfl (h2:= ?_)|refine gx ?_|fail)
 refine tb (!s8 (P3 ds t.name) 0) (fun h1=> ?_) (fun h1=> ?_)
 .have e1:ja c ss ds t=P3 ds t.name:=by unfold ja;rw [h1];rfl
  refine gr ?_;exact ⟨_,_,rfl,by rw [e1];rfl,by rw [fin _ (by simpa using h1) e1];rfl⟩
 refine gr ?_;refine tB (fG t) ?_ (fun h2=> ?_) (fun h2=> ?_)
 .repeat' (first|refine cl (IU _ _ _) ?_|refine gx ?_|refine fk (h1:=fun hw=> ?_) (h2:=fun hw=> ?_)|refine R8 (h1:=fun hw=> ?_) (h2:=fun hw=> ?_)|refine ⟨rfl,rfl,_,rfl,?_⟩|refine ⟨rfl,rfl⟩|fail)
  all_goals first|(simp [*,j7,fG];done)|(simp_all [j7,fG];done)|(simp_all [j7,fG,y3,s9,o6,H7];done)|(simp_all [j7,fG,y3,s9,o6,H7]<;>omega)
 .have e1:ja c ss ds t=1:=by unfold ja;rw [h1,h2];rfl
  refine gr ?_;exact ⟨_,_,rfl,by rw [e1];rfl,by rw [fin 1 (by simp [o6]) e1];rfl⟩
 refine gr ?_;refine Ex.M5 (fun k T H=>∃ (j:Nat) (w1 w2 w4 w5 w6:c8),T=[.ptr 4 0,w1,w2,.ptr 5 0,w4,w5,w6,.d (num t.p8.length),.d (num j)]/\H=[.cells (c.enc.map .d),.cells (c.enc.map .d),.map (dmap (M1 ds t.name)),.map (X3 (ss.map (·.1)) 0),.cells (c.enc.map .d++[.map 2,.map 3,C4 2 L6 ss]),.cells (t.enc.map .d)]/\j+k=t.p8.length/\ja c ss ds t=wC c ss t k j) (by rintro _ _ _ ⟨_,_,_,_,_,_,_,rfl,_⟩;rfl) ?_ (k:=t.p8.length) ⟨0,_,_,_,_,_,rfl,rfl,by simp,by unfold ja;rw [h1,h2];rfl⟩;rintro k _ _ ⟨j,w1,w2,w4,w5,w6,rfl,rfl,hk,hj⟩;refine Ex.nT ?_;refine Ex.seq ?_;refine tb (F0 j t.p8.length) (fun h3=> ?_) (fun h3=> ?_)
 .have h4:=A9 h3
  obtain ⟨k,rfl⟩:∃ k',k=k' +1:=⟨k - 1,by omega⟩;have aq6:=ao1 j (by omega);rw [wC] at hj
  repeat' (first|refine c1 aq6 rfl ?_|refine gx ?_|fail)
  refine tb (!s8 (eU c ss t j) 0) (fun h5=> ?_) (fun h5=> ?_)
  .rw [h5,if_pos rfl] at hj
   refine gr ?_;exact ⟨_,_,rfl,by rw [hj];rfl,by rw [fin _ (by simpa using h5) hj];rfl⟩
  .rw [h5,if_neg (by simp)] at hj
   refine gr ?_;exact ⟨k,by omega,j+1,_,_,_,_,_,rfl,rfl,by omega,hj⟩
 .have h4:=B8 h3
  obtain rfl:k=0:=by omega
  have MB:=AF (aQ (by simpa using h1));have e1:ja c ss ds t=0:=hj;have e2:tS c ss ds t=ss++[(t.name,t.p8.map aG.name,t.p8.map aG.type)]:=by unfold tS;rw [e1];simp [o6]
  rw [e2]
  repeat' (first|refine cl (aq7) ?_|refine cl (aq8) ?_|refine c0 MB rfl (h2:= ?_)|refine gx ?_|fail)
  exact ⟨_,_,rfl,by rw [e1];rfl,rfl⟩
end Go.Proofs.YtibjocmpkoepoaaGreat

